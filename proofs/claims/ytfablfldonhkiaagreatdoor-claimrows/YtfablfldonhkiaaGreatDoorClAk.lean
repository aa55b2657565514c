import Derived.Test.YtfablfldonhkiaaGreatDoorClAj
import Derived.Test.YtfablfldonhkiaaGreatDoorClAg
import Derived.Test.YtfablfldonhkiaaGreatDoorClAd
import Derived.Test.YtfablfldonhkiaaGreatDoorClAe
set_option linter.unusedSimpArgs false
set_option linter.unusedVariables false
namespace Go.Proofs.YtfablfldonhkiaaGreatDoor
open Go Go.Abs
attribute [local irreducible] Ev PWp
set_option maxRecDepth 10000
set_option maxHeartbeats 4000000
def dN (xs:Array Int):Nat->Nat
 |0=>0
 |1=>0
 |i+2=>dN xs (i+1)+if xs[i+1]! =xs[i]! then 0 else 1
theorem afI (xs:Array Int) {k:Nat} (h:1<=k):dN xs (k+1)=dN xs k+if xs[k]! =xs[k-1]! then 0 else 1:=by
 obtain ⟨i,rfl⟩:∃i,k=i+1:=⟨k-1,by omega⟩
 rfl
theorem aDa (xs:Array Int) (k:Nat):∀y,1<=k->dN xs (k+y)<=dN xs k+y
 |0,_=>Nat.le_refl _
 |y+1,h=>by
  have:=aDa xs k y h
  rw [show k+(y+1)=k+y+1 from rfl,afI xs (by omega)]
  split<;>omega
def aqC (xs:Array Int):Nat:=if xs.size<2 then xs.size else 1+dN xs xs.size
theorem aqI (xs:Array Int) {st:aD} {id n:Nat} (hst:st id=some (.arr 3 (xs.toList.map I1))) (hn:xs.size=n) (h12:n<1000000000000):
  PC Tryz.prog 60 [.vec id 1 0 n] st λr S=>r= .vec id 1 0 (aqC xs)/\∃rows,S=upd st id (some (.arr 3 rows)):=by
 by_cases h2:n<2
 ·have e:aqC xs=n:=by unfold aqC;rw [zp (by omega),hn]
  rw [e]
  refine pC Tryz.func60 rfl ?_
  (repeat' first|show Cn (.r _ _ _);refine .rr ?_;(exact ⟨rfl,_,(jT hst).symm⟩);done|apply wZ;rfl|show Cn _;constructor|omega|intro h)
 have e:aqC xs=1+dN xs n:=by unfold aqC;rw [zn (by omega),hn]
 rw [e]
 refine pC Tryz.func60 rfl ?_
 focus ((repeat' first|apply wZ;rfl|show Cn _;constructor|omega|(intro h;simp at h)))
 refine aC (X:={x:Nat//1<=x/\x<=n/\dN xs x+1=x}) (λi=>(((St.nil 61 (st)).pv 0 (.vec id 1 0 n)).pv 3 ((vi ((i.1:Nat)))))) (λi=>n-i.1) ⟨1,by omega,by omega,rfl⟩ ?_ (λi=> ?_)
 ·(repeat' first|show Cn (.t _ _);exact Cn.t0|show Cn _;constructor|exact rfl)
 obtain ⟨k,hk1,hk2,hk3⟩:=i
 dsimp only
 by_cases hend:n<=k
 ·obtain rfl:k=n:=by omega
  have e2:1+dN xs k=k:=by omega
  rw [e2]
  (repeat' first|show Cn (.r _ _ _);refine .rr ?_;(exact ⟨rfl,_,(jT hst).symm⟩);done|apply wZ;rfl|show Cn _;constructor|omega|(intro h;simp at h))
 have hkn:k<n:=by omega
 have hu:=afI xs hk1
 by_cases hd:¬xs[k]! =xs[k-1]!
 ·rw [zn hd] at hu
  have hu2:dN xs (k+1)+1=k+1:=by omega
  (repeat' first|apply wDx pk;rfl;kernel_rfl;rfl;rfl|(refine ⟨⟨k+1,by omega,by omega,hu2⟩, ?_, ?_⟩)|show Cn (.t _ _);exact Cn.t0|apply wZ;rfl|show Cn _;constructor|exact rfl|apply ixA pk;(iterate 5 rfl);rotate_left;rfl;(intro hw;(first|exact (show _=((k:Nat):Int) from by omega)|exact (show _=((k-1:Nat):Int) from by omega)));(intro hw;(omega));rfl;(exact Nat.zero_add _)|apply ldA pk I1.elem;rfl;rfl;rotate_left;rfl;(assumption);(intro hw;(omega));rfl|omega|simp only [zql];omega|(intro h;simp at h)|intro h)
 replace hd:=zdn hd
 rw [zp hd] at hu
 focus ((repeat' first|apply wDx pk;rfl;kernel_rfl;rfl;rfl|apply wZ;rfl|show Cn _;constructor|apply ixA pk;(iterate 5 rfl);rotate_left;rfl;(intro hw;(first|exact (show _=((k:Nat):Int) from by omega)|exact (show _=((k-1:Nat):Int) from by omega)));(intro hw;(omega));rfl;(exact Nat.zero_add _)|apply ldA pk I1.elem;rfl;rfl;rotate_left;rfl;(assumption);(intro hw;(omega));rfl|apply eC pk k (n-k);(iterate 4 rfl);rotate_left;rfl;(intro _;exact ⟨_,aJ rfl rfl,by omega⟩);(intro _;exact ⟨_,aW,by omega⟩);(intro _;omega);(intro _;omega);rfl|omega|(intro h;simp at h)|intro h))
 refine aC (X:={x:Nat×Array Int//1<=x.1/\x.1<=n-k/\x.2.size=n/\∀j,k+x.1<=j+1->j<n->x.2[j]! =xs[j]!}) (λy=>(((((St.nil 61 (upd st id (some (.arr 3 (y.1.2.toList.map I1))))).pv 0 (.vec id 1 0 n)).pv 3 ((vi (((1+dN xs (k+y.1.1):Nat):Int))))).pv 4 (.vec id 1 k (n-k))).pv 5 ((vi ((y.1.1:Nat)))))) (λy=>n-y.1.1) ⟨(1,xs),by omega,by omega,hn,λ_ _ _=>rfl⟩ ?_ (λy=> ?_)
 ·dsimp only
  (repeat' first|show Cn (.t _ _);exact .any (cQ (by (exact jT ‹_›)))|show Cn _;constructor|exact rfl|congr 2;omega)
 obtain ⟨⟨y,ys⟩,hy1,hy2,hys,hy⟩:=y
 simp only at hy1 hy2 hys hy
 dsimp only
 have hle:=aDa xs (k+1) (y-1) (by omega)
 rw [show k+1+(y-1)=k+y by omega] at hle
 by_cases hend2:n-k<=y
 ·obtain rfl:y=n-k:=by omega
  rw [show k+(n-k)=n by omega] at hle⊢
  have hr:(ys.toList.map I1).length=n:=by rw [zql,Array.length_toList,hys]
  (repeat' first|show Cn (.r _ _ _);refine .rr ?_;(exact ⟨rfl,_,eF _ _ _ _⟩);done|apply wZ;rfl|show Cn _;constructor|apply eC pk (1+dN xs n) (n-(1+dN xs n));(iterate 4 rfl);rotate_left;rfl;(intro _;exact ⟨_,aJ rfl rfl,by omega⟩);(intro _;exact ⟨_,aW,by omega⟩);(intro _;omega);(intro _;omega);rfl|(refine aCj pk (id:=id) (off:=1+dN xs n) (len:=n-(1+dN xs n)) (rows:=ys.toList.map I1) rfl rfl rfl rfl rfl rfl rfl rfl (aA _ _ _) (by omega) (by omega) (by omega) rfl ?_)|apply aCX pk (1+dN xs n);(iterate 4 rfl);rotate_left;rfl;(intro _;exact aJ rfl rfl);(intro _;omega);(intro _;omega);rfl|omega|(intro h;simp at h))
 have hr1:=hy (k+y) (by omega) (by omega)
 have hr2:=hy (k+(y-1)) (by omega) (by omega)
 have hup:=afI xs (show 1<=k+y by omega)
 rw [show k+y-1=k+(y-1) by omega,show k+y+1=k+(y+1) from rfl] at hup
 by_cases he:xs[k+y]! =xs[k+(y-1)]!
 ·rw [zp he] at hup
  have hya:∀j,k+(y+1)<=j+1->j<n->ys[j]! =xs[j]!:=λj h1 h2=>hy j (by omega) h2
  rw [<-hr1,<-hr2] at he
  (repeat' first|apply wDx pk;rfl;kernel_rfl;rfl;rfl|refine ⟨⟨(y+1,ys),by simp only;omega,by simp only;omega,hys,hya⟩, ?_, ?_⟩;((dsimp only))|show Cn (.t _ _);exact Cn.t0|apply wZ;rfl|show Cn _;constructor|exact rfl|show _=_;(congr 2;omega)|apply ixA pk;(iterate 5 rfl);rotate_left;rfl;(intro hw;(first|exact (show _=((y:Nat):Int) from by omega)|exact (show _=((y-1:Nat):Int) from by omega)));(intro hw;(omega));rfl;(rfl)|apply ldA pk I1.elem;rfl;rfl;rotate_left;rfl;(exact aA _ _ _);(intro hw;(omega));rfl|omega|simp only [zql];omega|(intro h;simp at h)|intro h)
 ·rw [zn he] at hup
  have hya:∀j,k+(y+1)<=j+1->j<n->(ys.setIfInBounds (1+dN xs (k+y)) ys[k+y]!)[j]! =xs[j]!:=λj h1 h2=>by
   rw [getElem!_pos _ j (by rw [zqs];omega),Array.getElem_setIfInBounds_ne (by omega) (by omega),<-getElem!_pos ys j (by omega)]
   exact hy j (by omega) h2
  rw [<-hr1,<-hr2] at he
  (repeat' first|apply wDx pk;rfl;kernel_rfl;rfl;rfl|refine ⟨⟨(y+1,ys.setIfInBounds (1+dN xs (k+y)) ys[k+y]!),by simp only;omega,by simp only;omega,by rw [zqs];exact hys,hya⟩, ?_, ?_⟩;((dsimp only))|show Cn (.t _ _);exact .any (cQ (by (((simp only [St.pv,St.put,St.sst,St.setv,St.nil,St.var,eF]);(done)))))|apply wZ;rfl|show Cn _;constructor|exact rfl|show _=_;(congr 2;omega)|(apply ixA pk;(iterate 5 rfl);rotate_left;rfl;(intro hw;(first|exact (show _=((y:Nat):Int) from by omega)|exact (show _=((y-1:Nat):Int) from by omega)|exact (show _=((1+dN xs (k+y):Nat):Int) from by omega)));(intro hw;(omega));rfl;(first|exact Nat.zero_add _|exact rfl))|apply ldA pk I1.elem;rfl;rfl;rotate_left;rfl;(exact aA _ _ _);(intro hw;(omega));rfl|apply stA pk I1.elem;rfl;rfl;rfl;(exact aA _ _ _);(omega);rfl|omega|simp only [zql];omega|(intro h;simp at h)|intro h)
end Go.Proofs.YtfablfldonhkiaaGreatDoor
namespace Go.Proofs.YtfablfldonhkiaaGreatDoor.T
open Go Go.Abs
attribute [local irreducible] Ev PWp
set_option maxRecDepth 10000
set_option maxHeartbeats 4000000
def vZ :List Pt->List Int->List Int
 |[],acc=>acc
 |p::r,acc=>vZ r (if p.gone=false/\acc.length<200 then acc++[p.val.n] else acc)
def showP (c:Cl):Vl:=if rightP c=0 then ⟨2,0,yK (vZ c.parts [])⟩ else Vl.zero
theorem anE {l:List Pt} {i:Nat} (h:i<l.length) (acc:List Int):vZ (l.drop i) acc=vZ (l.drop (i+1)) (if l[i].gone=false/\acc.length<200 then acc++[l[i].val.n] else acc):=by
 rw [List.drop_eq_getElem_cons h];rfl
theorem aHG :Tryz.prog.bytesOf 5=1:=by kernel_rfl
theorem jS {c:Cl} (h:rightP c=0):c.kind=4/\c.val=Vl.zero/\Whole c.parts/\c.parts.length<=2000/\dE c.parts=c.parts:=by
 unfold rightP at h
 split at h
 ·cases h
 ·split at h
  ·cases h
  ·split at h
   ·cases h
   ·split at h
    ·cases h
    ·rename_i h1 h2 h3 h4
     simp only [ne_eq,not_or,Decidable.not_not,Bool.not_eq_false] at h1 h2 h4
     exact ⟨h1,h2.1,(fW _).1 h2.2,by omega,h4⟩
theorem aC7 {p:Pt} (h:bV p=true):0<=p.val.n/\p.val.n<=255:=by
 simp only [bV,withinB,zba,zde] at h
 exact ⟨h.1.1.1.2.1,h.1.1.1.2.2⟩
theorem iL {st:aD} {id id':Nat} {o:AObj} (h:upd st id (some o) id'=none):st id'=none:=by
 by_cases e:id'=id
 ·rw [e,aA] at h;cases h
 ·rwa [aB e] at h
theorem show_spec (c:Cl) (hl:c.parts.length<4611686018427387904):PF Tryz.prog 77 [.agg c.cells] (.agg (showP c).cells):=by
 refine pF Tryz.func77 rfl (λst=> ?_)
 (repeat' first|apply wZ;rfl|show Cn _;constructor|exact rfl|(apply (right_spec c hl))|show (_:PV)=_;(rw [showP,zn ‹_›];rfl);done|apply wY;rfl|intro h)
 have h0:rightP c=0:=h
 have hb:=λp (hp:p∈c.parts)=>aC7 ((jS h0).2.2.1.formed p hp)
 refine zA 3 5 rfl rfl (λid hid=> ?_)
 have hid:st id=none:=hid
 refine aC (X:={x:Nat×List Int×Nat//x.1<=c.parts.length/\st x.2.2=none/\x.2.1.length<=200/\vZ (c.parts.drop x.1) x.2.1=vZ c.parts []}) (λi=>((((((St.nil 36 (upd st i.1.2.2 (some (.tok 5)))).var 2 63 ([(vi (0)),(vi (0)),(vs (e0))])).pv 3 (.own i.1.2.2 (i.1.2.1.map U8))).pv 11 (.seq (c.parts.map Pt.cells))).pv 12 ((vi ((c.parts.length:Nat))))).pv 13 ((vi ((i.1.1:Nat)))))) (λi=>c.parts.length-i.1.1) ⟨(0,[],id),by simp,hid,by simp,rfl⟩ ?_ (λi=> ?_)
 ·(repeat' first|show Cn (.t _ _);exact Cn.t0|show Cn _;constructor|exact rfl|simp)
 obtain ⟨⟨i,acc,id⟩,hi,hid,ha,hinv⟩:=i
 simp only at hi hid ha hinv
 dsimp only
 have hs:=λh:i<c.parts.length=>anE h acc
 have hb2:=λh:i<c.parts.length=>hb _ (zgm h)
 (repeat' first|show Cn (.e _ _ _ _);refine .any ?_;((refine ⟨_,_,_,rfl,zwr _,cR ‹_›, ?_,rfl⟩;(((rw [showP,zp h0,<-hinv,List.drop_eq_nil_of_le (by omega)];rfl);done))))|((first|refine ⟨⟨(i+1,acc++[(c.parts[i]'‹_›).val.n],id'),by simp only;omega,iL hid',by simp only [zla,List.length_singleton];omega,by rw [<-hinv,hs ‹_›,zp ⟨h.1,by omega⟩]⟩, ?_,by simp only;omega⟩|refine ⟨⟨(i+1,acc,id),by simp only;omega,hid,ha,by rw [<-hinv,hs ‹_›,zn (λq=>by have:=h q.1;omega)]⟩, ?_,by simp only;omega⟩);focus ((repeat' first|show Cn (.t _ _);exact Cn.t0|show Cn (.t _ _);exact .any (bP ‹_›)|show Cn _;constructor|exact rfl);done))|apply wZ;rfl|show Cn _;constructor|exact rfl|apply cvA pk.htt;(iterate 5 rfl);(refine ⟨?_, ?_⟩<;>(first|exact (hb2 ‹_›).1|have:=(hb2 ‹_›).2;omega));rfl|apply aI7 pk acc;(iterate 6 rfl);rotate_left;rfl;rfl|(apply apS pk ((c.parts[i]'‹_›).val.n) 1;(iterate 8 rfl);exact aA _ _ _;exact λ_=>rfl;exact λ_=>rfl;exact aHG;(omega);(omega);rfl;intro id' hid')|apply wI;rfl|apply gE;omega|omega|(intro h;simp at h))
end Go.Proofs.YtfablfldonhkiaaGreatDoor.T
namespace Go.Proofs.YtfablfldonhkiaaGreatDoor
open Go Go.Abs
section
attribute [local irreducible] Ev PWp
set_option maxRecDepth 10000
set_option maxHeartbeats 4000000
def aeN (c:Cl):List Int:=(c.parts.map (·.val.n)).mergeSort λx y=>decide (x<=y)
theorem aGd {c:Cl} {i:Nat} (h:i<c.parts.length):(c.parts.take (i+1)).map (·.val.n)=(c.parts.take i).map (·.val.n)++[c.parts[i].val.n]:=by
 rw [List.take_succ_eq_append_getElem h,List.map_append];rfl
theorem aEF (c:Cl) (hl:c.parts.length<1000000000) (st:aD):PC Tryz.prog 123 [.agg c.cells] st λr S=>∃id,r= .vec id 1 0 (aqC (aeN c).toArray)/\st id=none/\∃o,S=upd st id (some o):=by
 refine pC Tryz.func123 rfl ?_
 focus ((repeat' first|apply wZ;rfl|show Cn _;constructor))
 refine fK 3 3 1 rfl rfl rfl (λid hid=> ?_)
 refine aC (X:={x:Nat×Nat//x.1<=c.parts.length/\st x.2=none}) (λi=>(((((St.nil 24 (upd st i.1.2 (some (.arr 3 (((c.parts.take i.1.1).map (·.val.n)).map I1))))).pv 3 (.vec i.1.2 1 0 i.1.1)).pv 7 (.seq (c.parts.map Pt.cells))).pv 8 ((vi (((c.parts.map Pt.cells).length:Nat))))).pv 9 ((vi ((i.1.1:Nat)))))) (λi=>c.parts.length-i.1.1) ⟨(0,id),by simp,hid⟩ ?_ (λi=> ?_)
 ·dsimp only
  (repeat' first|show Cn (.t _ _);exact Cn.t0|show Cn _;constructor|exact rfl)
 obtain ⟨⟨i,id⟩,hi,hid⟩:=i
 simp only at hi hid
 dsimp only
 by_cases hend:c.parts.length<=i
 ·obtain rfl:i=c.parts.length:=by omega
  rw [List.take_length]
  have hso:=afG (c.parts.map (·.val.n)) (st:=upd st id (some (.arr 3 ((c.parts.map (·.val.n)).map I1)))) (id:=id) (n:=c.parts.length) (aA _ _ _) (zql _) (by omega)
  have hnl:(aeN c).toArray.size=c.parts.length:=by simp [aeN]
  have hco:=aqI (aeN c).toArray (st:=upd (upd st id (some (.arr 3 ((c.parts.map (·.val.n)).map I1)))) id (some (.arr 3 ((aeN c).map I1)))) (id:=id) (n:=c.parts.length) (aA _ _ _) hnl (by omega)
  (repeat' first|(apply cP;rfl;(apply hso);rintro _ st' (rfl))|(apply cP;rfl;(apply hco);rintro _ st' (⟨rfl,rows,rfl⟩))|show Cn (.r _ _ _);refine .rr ?_;(exact ⟨id,rfl,hid,_,(eF _ _ _ _).trans (eF _ _ _ _)⟩);done|apply wZ;rfl|show Cn _;constructor|apply wY;rfl|simp only [zql];omega|(intro h;simp at h))
 have hil:i<c.parts.length:=by omega
 have hlen:((c.parts.take i).map (·.val.n)).length=i:=by rw [zql,zlt];omega
 have e:=aGd hil
 (repeat' first|refine ⟨⟨(i+1,id'),by simp only;omega,dK hid'⟩, ?_, ?_⟩;((dsimp only;try rw [e]))|show Cn (.t _ _);exact .any (bP ‹_›)|apply wZ;rfl|show Cn _;constructor|exact rfl|(apply apV pk (f:=I1) [c.parts[i].val.n] 8;(iterate 9 rfl);(exact aA _ _ _);(omega);exact λ_=>rfl;exact λ_=>rfl;exact lY;((focus (simp;omega)));((focus (simp;omega)));rfl;intro id' hid')|apply wI;rfl|apply gE;omega|omega|simp only [zql];omega|(intro h;simp at h))
def aAO (c:Cl):Vl:=⟨1,(aqC (aeN c).toArray:Nat),e0⟩
theorem aoH (c:Cl) (hl:c.parts.length<1000000000):PF Tryz.prog 76 [.agg c.cells] (.agg (aAO c).cells):=by
 intro st
 have hn:=aEF c hl st
 refine pC Tryz.func76 rfl ?_
 (repeat' first|exact Cn.any ⟨_,_,st,rfl,zwr _,aR (zsr _) hid,rfl,rfl⟩|(apply cP;rfl;(apply hn);rintro _ st' (⟨id,rfl,hid,o,rfl⟩))|apply wZ;rfl|show Cn _;constructor|apply wY;rfl)
def auB (c:Cl):Vl:=((jQ c.parts).getLast?).getD Vl.zero
theorem asZ (c:Cl) (hl:c.parts.length<1000000000):PF Tryz.prog 74 [.agg c.cells] (.agg (auB c).cells):=by
 intro st
 have hn:=aEM c hl st
 have hvl:=anC c.parts
 unfold auB
 generalize jQ c.parts=o at*
 rcases Nat.eq_zero_or_pos o.length with h0|h0
 ·obtain rfl:o=[]:=List.eq_nil_of_length_eq_zero h0
  refine pC Tryz.func74 rfl ?_
  (repeat' first|exact Cn.any ⟨_,_,st,rfl,zwr _,aR (zsr _) hid,rfl,rfl⟩|(apply cP;rfl;(apply hn);rintro _ st' (⟨id,rfl,hid,rfl⟩))|apply wZ;rfl|show Cn _;constructor|apply wY;rfl)
 ·have e:o.getLast?.getD Vl.zero=o.toArray[o.length-1]!:=by
   rw [List.getLast?_eq_getElem?,zgg (by omega),getElem!_pos o.toArray (o.length-1) (by simp;omega)];simp
  rw [e]
  refine pC Tryz.func74 rfl ?_
  (repeat' first|exact Cn.any ⟨_,_,st,rfl,zwr _,aR (zsr _) hid,rfl,rfl⟩|(apply cP;rfl;(apply hn);rintro _ st' (⟨id,rfl,hid,rfl⟩))|apply wZ;rfl|show Cn _;constructor|apply ixA pk;(iterate 5 rfl);rotate_left;rfl;(intro hw;(exact (show _=((o.length-1:Nat):Int) from by omega)));(intro hw;(omega));rfl;(exact Nat.zero_add _)|apply ldA pk Vl.elem;rfl;rfl;rotate_left;rfl;exact aA _ _ _;(intro _;exact (show o.length-1<o.length by omega));rfl|apply wY;rfl|omega|(intro h;simp at h))
def bL (c:Cl):Vl:=if c.kind=0 then c.val else if c.kind=1 then auB c else if c.kind=2 then avG c else if c.kind=3 then aAO c else if c.kind=4 then T.showP c else Vl.zero
theorem avH (c:Cl) (hl:c.parts.length<=1000):aCa bL c:=by
 have h1:=asZ c (by omega)
 have h2:=aqT c
 have h3:=aoH c (by omega)
 have h4:=T.show_spec c (by omega)
 show PF Tryz.prog 37 [.agg c.cells] (.agg (bL c).cells)
 unfold bL
 generalize auB c=A at*
 generalize avG c=B at*
 generalize aAO c=C at*
 generalize T.showP c=D at*
 refine pF Tryz.func37 rfl (λst=> ?_)
 (repeat' first|apply wZ;rfl|show Cn _;constructor|exact rfl|((first|apply h1|apply h2|apply h3|apply h4))|show (_:PV)=_;((repeat first|rw [zp ‹_›]|rw [zn ‹_›]);rfl);done|apply wY;rfl|intro h)
end
section
attribute [local irreducible] Ev PWp
set_option maxRecDepth 10000
set_option maxHeartbeats 4000000
section
variable {tx:Cl->Int}
theorem aHr :∀c:Cl,c.kind=0->bL c=c.val:=λc h=>by unfold bL;rw [zp h]
theorem rows_len {s:Sc} {b:Bs} (hg:bH tx s b=true) {k:Nat} (hk:k<s.length):(dT bL b k).length<=2000:=by
 obtain ⟨⟨h1,h2⟩,h3⟩:=aU.1 hg
 have hkb:k<b.length:=by omega
 have:=(fZ.1 (h3 k hkb)).1
 unfold dT
 rw [eZ hkb,zql]
 rw [getElem!_pos b k hkb] at this
 exact this
theorem aaT {s:Sc} {b:Bs} (hg:bH tx s b=true) {k:Nat} (hk:k<s.length) {m:Su} (hm:m∈s[k].sums):TotOK m (dT bL b k):=by
 obtain ⟨⟨h1,h2⟩,_⟩:=aU.1 hg
 have hs:=aGw h1 hk hm
 refine ⟨rows_len hg hk,by have:=hs.c1;omega,by have:=hs.b1;omega,λr hr=> ?_,λr hr=> ?_⟩
 ·have:=(arD aHr hg hk hr).len
  have:=hs.c2
  have:=hs.b2
  omega
 ·have hc:=hs.c1
  have hc2:=hs.c2
  exact asY ((arD aHr hg hk hr).num m.col.toNat (by omega) hs.kc)
theorem pL {s:Sc} (h:cB s=0) {k:Nat} (hk:k<s.length):s[k].cols.length<=16/\s[k].checks.length<=16/\s[k].unique.length<=16/\s[k].foreign.length<=16/\s[k].sums.length<=16:=by
 have h1:=fH h hk (lk1 s[k]!) (by simp [lks])
 rw [getElem!_pos s k hk] at h1
 unfold lk1 at h1
 split at h1
 ·cases h1
 ·omega
theorem aGo {t:Tb} {r:List Vl} (h:eH t r=0) (hl:r.length<=1000):X.rowOK r:=by
 refine ⟨by omega,λv hv=> ?_⟩
 obtain ⟨j,hj,rfl⟩:=zgo hv
 unfold eH at h
 split at h
 ·have:=gG.1 h j (List.mem_range.2 hj)
  rw [getElem!_pos r j hj] at this
  unfold sW at this
  split at this
  ·cases this
  ·rename_i q
   have q:bX r[j]=true:=by simpa using q
   have:=(asY q).1
   unfold X.lim
   omega
 ·cases h
end
section
variable (ex:Tb->List Vl->Int) (b:Bs) (t:Tb) (rows:List (List Vl))
def stT :Nat->Int
 |0=>dZ (eH t) rows
 |1=>if lL t rows=false then 8 else 0
 |2=>dZ (ex t) rows
 |3=>if yQ b t rows=false then 10 else 0
 |_=>if aaH t rows=false then 11 else 0
variable {ex b t rows}
theorem aC4 (h:∀j<5,stT ex b t rows j=0):ckT ex b t rows=0:=by
 have h0:dZ (eH t) rows=0:=h 0 (by omega)
 have h1:(if lL t rows=false then (8:Int) else 0)=0:=h 1 (by omega)
 have h2:dZ (ex t) rows=0:=h 2 (by omega)
 have h3:(if yQ b t rows=false then (10:Int) else 0)=0:=h 3 (by omega)
 have h4:(if aaH t rows=false then (11:Int) else 0)=0:=h 4 (by omega)
 unfold ckT
 rw [zn (λq=>q h0),zn (λq=>by rw [zp q] at h1;cases h1),zn (λq=>q h2),zn (λq=>by rw [zp q] at h3;cases h3),zn (λq=>by rw [zp q] at h4;cases h4)]
theorem aG9 {y:Nat} (hy:y<5) (hI:∀j<y,stT ex b t rows j=0) (h:stT ex b t rows y≠0):ckT ex b t rows=stT ex b t rows y:=by
 unfold ckT
 match y,hy with
 |0,_=>rw [zp (show dZ (eH t) rows≠0 from h)];rfl
 |1,_=>
  have h0:dZ (eH t) rows=0:=hI 0 (by omega)
  have q:lL t rows=false:=by
   cases e:lL t rows with
   |false=>rfl
   |true=>exact absurd (show stT ex b t rows 1=0 from by unfold stT;rw [e];rfl) h
  rw [zn (λq=>q h0),zp q]
  exact (show stT ex b t rows 1=8 from zp q).symm
 |2,_=>
  have h0:dZ (eH t) rows=0:=hI 0 (by omega)
  have h1:(if lL t rows=false then (8:Int) else 0)=0:=hI 1 (by omega)
  rw [zn (λq=>q h0),zn (λq=>by rw [zp q] at h1;cases h1),zp (show dZ (ex t) rows≠0 from h)];rfl
 |3,_=>
  have h0:dZ (eH t) rows=0:=hI 0 (by omega)
  have h1:(if lL t rows=false then (8:Int) else 0)=0:=hI 1 (by omega)
  have h2:dZ (ex t) rows=0:=hI 2 (by omega)
  have q:yQ b t rows=false:=by
   cases e:yQ b t rows with
   |false=>rfl
   |true=>exact absurd (show stT ex b t rows 3=0 from by unfold stT;rw [e];rfl) h
  rw [zn (λq=>q h0),zn (λq=>by rw [zp q] at h1;cases h1),zn (λq=>q h2),zp q]
  exact (show stT ex b t rows 3=10 from zp q).symm
 |4,_=>
  have h0:dZ (eH t) rows=0:=hI 0 (by omega)
  have h1:(if lL t rows=false then (8:Int) else 0)=0:=hI 1 (by omega)
  have h2:dZ (ex t) rows=0:=hI 2 (by omega)
  have h3:(if yQ b t rows=false then (10:Int) else 0)=0:=hI 3 (by omega)
  have q:aaH t rows=false:=by
   cases e:aaH t rows with
   |false=>rfl
   |true=>exact absurd (show stT ex b t rows 4=0 from by unfold stT;rw [e];rfl) h
  rw [zn (λq=>q h0),zn (λq=>by rw [zp q] at h1;cases h1),zn (λq=>q h2),zn (λq=>by rw [zp q] at h3;cases h3),zp q]
  exact (show stT ex b t rows 4=11 from zp q).symm
end
structure CkB (n:Nat) (s:Sc) (b:Bs):Prop where
 sb:ScB s
 len:s.length<=20
 col:∀t∈s,t.cols.length<10000000000
 chk:∀t∈s,tN t
 bs:BsS n b
 hn:n<=1000
noncomputable def mayC (s:Sc) (b:Bs):Bool:=decide (rightC s=0)&&bH T.rightP s b
noncomputable def whyC (s:Sc) (b:Bs):Int:=if mayC s b=true then ckW bL exR s b else 1
noncomputable def totC (s:Sc) (b:Bs) (table sum group:Int):Int:=
 open Classical in if _h:mayC s b=true/\(0<=table/\table<s.length)/\(0<=sum/\sum<s[table.toNat]!.sums.length) then nW s[table.toNat]!.sums[sum.toNat]! group (dT bL b table) else 0
theorem ajU {s:Sc} (h:rightC s=0):cB s=0:=by
 unfold rightC at h
 split at h
 ·assumption
 ·rename_i q;exact absurd h q
section
variable {n:Nat} {s:Sc} {b:Bs} (hB:CkB n s b)
include hB
theorem CkB.right :PF Tryz.prog 67 [.agg (scC s)] (vi (rightC s)):=alA s (by have:=hB.len;omega) hB.sb hB.chk hB.col
theorem gK :PF Tryz.prog 43 [.agg (scC s), .agg (bsC b)] (vb (mayC s b)):=by
 have h1:=hB.right
 have h2:=fJ hB.bs hB.hn hB.sb hB.len
 unfold mayC
 generalize rightC s=R at*
 generalize bH T.rightP s b=B at*
 refine pF Tryz.func43 rfl (λst=> ?_)
 (repeat' first|apply wZ;rfl|show Cn _;constructor|exact rfl|((first|apply h1|apply h2))|apply wY;rfl)
theorem xU {k:Nat} (hk:k<b.length):PF Tryz.prog 44 [.agg (bsC b),(vi ((k:Nat)))] (.seq ((dT bL b k).map roC)):=by
 obtain ⟨hL1,hL2⟩:=hB.bs.2 _ (zgm hk)
 have hn:=hB.hn
 have e:dT bL b k=b[k].lines.map (acW bL):=by unfold dT;rw [eZ hk];rfl
 rw [e]
 exact apP bL b k hk (by omega) λl hl=>by
  obtain ⟨u1,u2,u3⟩:=hL2 l hl
  exact ⟨by omega,λc hc=>avH c (u3 c hc)⟩
theorem aB9 :PF Tryz.prog 18 [.agg (scC s), .agg (bsC b)] (vi (whyC s b)):=by
 have hm:=gK hB
 have hsl:=hB.len
 cases hmay:mayC s b with
 |false=>
  rw [hmay] at hm
  have e:whyC s b=1:=by unfold whyC;rw [hmay];rfl
  rw [e]
  refine pF Tryz.func18 rfl (λst=> ?_)
  (repeat' first|apply wZ;rfl|show Cn _;constructor|exact rfl|(apply hm)|apply wY;rfl)
 |true=>
 rw [hmay] at hm
 have e:whyC s b=ckW bL exR s b:=by unfold whyC;rw [hmay];rfl
 rw [e]
 clear e
 unfold mayC at hmay
 rw [zba,zde] at hmay
 obtain ⟨hrc,hg⟩:=hmay
 have hrs:=ajU hrc
 obtain ⟨⟨_,hbl⟩,_⟩:=aU.1 hg
 have hfin0:(∀j<s.length,ckT exR b s[j]! (dT bL b j)=0)->ckW bL exR s b=0:=λh=>adZ h
 have hfin1:∀i<s.length,(∀j<i,ckT exR b s[j]! (dT bL b j)=0)->ckT exR b s[i]! (dT bL b i)≠0->ckW bL exR s b=ckT exR b s[i]! (dT bL b i):=λi hi h1 h2=>awQ (f:=λk:Nat=>ckT exR b s[k]! (dT bL b k)) hi h1 h2
 generalize ckW bL exR s b=W at*
 refine pF Tryz.func18 rfl (λst=> ?_)
 focus ((repeat' first|apply wZ;rfl|show Cn _;constructor|(apply hm)|apply wY;rfl))
 refine aC (X:={x:Nat//x<=s.length/\∀j<x,ckT exR b s[j]! (dT bL b j)=0}) (λi=>(((((St.nil 41 st).var 3 27 ((bsC b))).pv 16 (.seq (s.map Tb.cells))).pv 17 ((vi (((s.map Tb.cells).length:Nat))))).pv 18 ((vi ((i.1:Nat)))))) (λi=>s.length-i.1) ⟨0,by omega,by omega⟩ ?_ (λi=> ?_)
 ·(repeat' first|show Cn _;constructor|exact rfl)
 obtain ⟨i,hi,hI⟩:=i
 dsimp only
 by_cases hend:s.length<=i
 ·have e:W=0:=hfin0 λj hj=>hI j (by omega)
  (repeat' first|apply wZ;rfl|show Cn _;constructor|exact rfl|show (_:PV)=_;(rw [e]);done|simp only [zql];omega|(intro h;simp at h))
 have hil:i<s.length:=by omega
 have hib:i<b.length:=by omega
 have hsh:=xU hB hib
 have hfin1:=hfin1 i hil hI
 have hup:ckT exR b s[i]! (dT bL b i)=0->∀j<i+1,ckT exR b s[j]! (dT bL b j)=0:=λh j hj=>by
  rcases zls.1 hj with q|q
  ·exact hI j q
  ·subst q;exact h
 rw [getElem!_pos s i hil] at hfin1 hup
 obtain ⟨n1,n2,n3,n4,n5⟩:=pL hrs hil
 have hrl:=rows_len hg hil
 have hro:=λr (hr:r∈dT bL b i)=>arD aHr hg hil hr
 have hto:=λm (hm:m∈s[i].sums)=>aaT hg hil hm
 have hun:=λu (hu:u∈s[i].unique)=>aGt hrs hil hu
 have hfr:=λf (hf:f∈s[i].foreign)=>avP hrs hil hf
 have hchk:=hB.chk _ (zgm hil)
 generalize dT bL b i=rows at*
 have hrn:∀r∈rows,r.length<=1000:=λr hr=>by have:=(hro r hr).len;omega
 have f0:PF Tryz.prog 45 [.agg (nD s[i] rows b)] (vi (stT exR b s[i] rows 0)):=arM s[i] rows b (by omega) (by omega) λr hr=>by have:=hrn r hr;omega
 have f1:PF Tryz.prog 46 [.agg (nD s[i] rows b)] (vi (stT exR b s[i] rows 1)):=anA s[i] rows b (by omega) (by omega) λu hu=>⟨by have:=(hun u hu).c1;omega,λr hr=>by have:=(hun u hu).c2;have:=(hro r hr).len;omega⟩
 have f2:stT exR b s[i] rows 0=0->PF Tryz.prog 47 [.agg (nD s[i] rows b)] (vi (stT exR b s[i] rows 2)):=λh=>amD s[i] rows b (by omega) (by omega) hchk λr hr=>aGo (gG.1 h r hr) (hrn r hr)
 have f3:PF Tryz.prog 48 [.agg (nD s[i] rows b)] (vi (stT exR b s[i] rows 3)):=ahG s[i] rows b (by omega) (by omega) (λf hf=>⟨by have:=(hfr f hf).c1;omega,λr hr=>by have:=(hfr f hf).c2;have:=(hro r hr).len;omega⟩) hB.bs hB.hn
 have f4:PF Tryz.prog 49 [.agg (nD s[i] rows b)] (vi (stT exR b s[i] rows 4)):=aoB s[i] rows b (by omega) hto
 have hnone:=aC4 (ex:=exR) (b:=b) (t:=s[i]) (rows:=rows)
 have hat:=λy (hy:y<5)=>aG9 (ex:=exR) (b:=b) (t:=s[i]) (rows:=rows) hy
 generalize ckT exR b s[i] rows=C at*
 generalize stT exR b s[i] rows=S at*
 focus ((repeat' first|apply wZ;rfl|show Cn _;constructor|exact rfl|apply KR.mk;kernel_rfl|(apply hsh)|apply wY;rfl|apply wI;rfl|apply gE;omega|simp only [zql];omega|(intro h;simp at h)))
 refine aC (X:={x:Nat//x<=5/\∀j<x,S j=0}) (λy=>((((((((St.nil 41 st).var 3 27 ((bsC b))).var 7 119 (nD s[i] rows b)).pv 16 (.seq (s.map Tb.cells))).pv 17 ((vi (((s.map Tb.cells).length:Nat))))).pv 18 ((vi ((i:Nat))))).pv 29 (.agg [.fn 45 [], .fn 46 [], .fn 47 [], .fn 48 [], .fn 49 []])).pv 30 ((vi ((y.1:Nat)))))) (λy=>5-y.1) ⟨0,by omega,by omega⟩ ?_ (λy=> ?_)
 ·(repeat' first|show Cn _;constructor|exact rfl)
 obtain ⟨y,hy,hyI⟩:=y
 dsimp only
 by_cases hend2:5<=y
 ·have hw:=hup (hnone λj hj=>hyI j (by omega))
  (repeat' first|(refine ⟨⟨i+1,by omega,hw⟩, ?_, ?_⟩)|apply wZ;rfl|show Cn _;constructor|exact rfl|omega|simp only [zql];omega|(intro h;simp at h))
 have hfin:S y≠0->W=S y:=λh=>by
  have e:=hat y (by omega) hyI h
  rw [hfin1 (by rw [e];exact h),e]
 have hyu:S y=0->∀j<y+1,S j=0:=λh j hj=>by
  rcases zls.1 hj with q|q
  ·exact hyI j q
  ·subst q;exact h
 have h5:y=0\/y=1\/y=2\/y=3\/y=4:=by omega
 rcases h5 with rfl|rfl|rfl|rfl|rfl
 ·generalize S 0=Z at*
  (repeat' first|(refine ⟨⟨1,by omega,hyu ‹_›⟩, ?_, ?_⟩)|apply wZ;rfl|show Cn _;constructor|exact rfl|(apply f0)|show (_:PV)=_;(rw [hfin ‹_›]);done|apply ixV pk 0;(iterate 6 rfl);(focus repeat' constructor);rfl;(intro _;rfl);(intro _;decide);(intro _;rfl);rfl|apply wY;rfl|omega|simp only [zql];omega|intro h)
 ·generalize S 1=Z at*
  (repeat' first|(refine ⟨⟨2,by omega,hyu ‹_›⟩, ?_, ?_⟩)|apply wZ;rfl|show Cn _;constructor|exact rfl|(apply f1)|show (_:PV)=_;(rw [hfin ‹_›]);done|apply ixV pk 1;(iterate 6 rfl);(focus repeat' constructor);rfl;(intro _;rfl);(intro _;decide);(intro _;rfl);rfl|apply wY;rfl|omega|simp only [zql];omega|intro h)
 ·have f2:=f2 (hyI 0 (by omega))
  generalize S 2=Z at*
  (repeat' first|(refine ⟨⟨3,by omega,hyu ‹_›⟩, ?_, ?_⟩)|apply wZ;rfl|show Cn _;constructor|exact rfl|(apply f2)|show (_:PV)=_;(rw [hfin ‹_›]);done|apply ixV pk 2;(iterate 6 rfl);(focus repeat' constructor);rfl;(intro _;rfl);(intro _;decide);(intro _;rfl);rfl|apply wY;rfl|omega|simp only [zql];omega|intro h)
 ·generalize S 3=Z at*
  (repeat' first|(refine ⟨⟨4,by omega,hyu ‹_›⟩, ?_, ?_⟩)|apply wZ;rfl|show Cn _;constructor|exact rfl|(apply f3)|show (_:PV)=_;(rw [hfin ‹_›]);done|apply ixV pk 3;(iterate 6 rfl);(focus repeat' constructor);rfl;(intro _;rfl);(intro _;decide);(intro _;rfl);rfl|apply wY;rfl|omega|simp only [zql];omega|intro h)
 ·generalize S 4=Z at*
  (repeat' first|(refine ⟨⟨5,by omega,hyu ‹_›⟩, ?_, ?_⟩)|apply wZ;rfl|show Cn _;constructor|exact rfl|(apply f4)|show (_:PV)=_;(rw [hfin ‹_›]);done|apply ixV pk 4;(iterate 6 rfl);(focus repeat' constructor);rfl;(intro _;rfl);(intro _;decide);(intro _;rfl);rfl|apply wY;rfl|omega|simp only [zql];omega|intro h)
theorem acJ (table sum group:Int):PF Tryz.prog 61 [.agg (scC s), .agg (bsC b),(vi (table)),(vi (sum)),(vi (group))] (vi (totC s b table sum group)):=by
 have hm:=gK hB
 have hsl:=hB.len
 by_cases hmay:¬mayC s b=true
 ·have e:totC s b table sum group=0:=by unfold totC;rw [dif_neg (λq=>hmay q.1)]
  have hmay:mayC s b=false:=by simpa using hmay
  rw [e]
  rw [hmay] at hm
  refine pF Tryz.func61 rfl (λst=> ?_)
  (repeat' first|apply wZ;rfl|show Cn _;constructor|exact rfl|(apply hm)|((apply cN pk (j:=0) (row:=(default:Tb).cells);(iterate 6 rfl);rotate_left;rfl;(intro hw;exfalso;first|(focus (simp [gw] at hw;done))|simp [gw] at hw;omega);(intro hw;exfalso;first|(focus (simp [gw] at hw;done))|simp [gw] at hw;omega);(intro hw;exfalso;first|(focus (simp [gw] at hw;done))|simp [gw] at hw;omega);rfl))|apply wY;rfl)
 replace hmay:=zdn hmay
 rw [hmay] at hm
 by_cases ht:¬(0<=table/\table<s.length)
 ·have e:totC s b table sum group=0:=by unfold totC;rw [dif_neg (λq=>ht q.2.1)]
  rw [e]
  refine pF Tryz.func61 rfl (λst=> ?_)
  (repeat' first|apply wZ;rfl|show Cn _;constructor|exact rfl|(apply hm)|((apply cN pk (j:=0) (row:=(default:Tb).cells);(iterate 6 rfl);rotate_left;rfl;(intro hw;exfalso;first|(focus (simp [gw] at hw;done))|simp [gw] at hw;omega);(intro hw;exfalso;first|(focus (simp [gw] at hw;done))|simp [gw] at hw;omega);(intro hw;exfalso;first|(focus (simp [gw] at hw;done))|simp [gw] at hw;omega);rfl))|apply wY;rfl|intro h;simp at h;omega|(intro h;simp at h))
 replace ht:=zdn ht
 obtain ⟨k,rfl⟩:∃k:Nat,table=(k:Int):=⟨table.toNat,by omega⟩
 have hk:k<s.length:=by omega
 have hmay2:=hmay
 unfold mayC at hmay
 rw [zba,zde] at hmay
 obtain ⟨hrc,hg⟩:=hmay
 have hrs:=ajU hrc
 obtain ⟨⟨_,hbl⟩,_⟩:=aU.1 hg
 obtain ⟨n1,n2,n3,n4,n5⟩:=pL hrs hk
 by_cases hs:¬(0<=sum/\sum<s[k].sums.length)
 ·have e:totC s b k sum group=0:=by
   unfold totC
   rw [dif_neg]
   rintro ⟨_,_,q⟩
   rw [Int.toNat_natCast,getElem!_pos s k hk] at q
   exact hs q
  rw [e]
  refine pF Tryz.func61 rfl (λst=> ?_)
  (repeat' first|apply wZ;rfl|show Cn _;constructor|exact rfl|(apply hm)|apply wY;rfl|apply wI;rfl|apply gE;omega|intro h;simp at h;omega|(intro h;simp at h))
 replace hs:=zdn hs
 obtain ⟨y,rfl⟩:∃y:Nat,sum=(y:Int):=⟨sum.toNat,by omega⟩
 have hy:y<s[k].sums.length:=by omega
 have hT:=aaT hg hk (zgm hy)
 have e:totC s b k y group=nW s[k].sums[y] group (dT bL b k):=by
  unfold totC
  rw [dif_pos ⟨hmay2,ht,by rw [Int.toNat_natCast,getElem!_pos s k hk];exact hs⟩]
  rw [Int.toNat_natCast,Int.toNat_natCast,getElem!_pos s k hk,getElem!_pos s[k].sums y hy]
 rw [e]
 have hsh:=xU hB (k:=k) (by omega)
 have hts:=xM s[k].sums[y] (dT bL b k) hT
 have hget:=aD1 hT.ns group
 generalize nW s[k].sums[y] group (dT bL b k)=R at*
 generalize lZ s[k].sums[y] (dT bL b k)=M at*
 generalize rJ s[k].sums[y] (dT bL b k)=G at*
 generalize dT bL b k=rows at*
 refine pF Tryz.func61 rfl (λst=> ?_)
 (repeat' first|apply wZ;rfl|show Cn _;constructor|exact rfl|apply KR.mk;kernel_rfl|((first|apply hm|apply hsh|apply hts))|apply aI5 pk vJ (f:=lT) (z:=0) (k:=group) (n:=R);(iterate 5 rfl);rotate_left;rfl;rfl;exact hget|apply wY;rfl|apply wI;rfl|apply gE;omega|intro h;simp at h;omega|(intro h;simp at h))
end
end
section
attribute [local irreducible] Ev PWp
set_option maxRecDepth 10000
set_option maxHeartbeats 4000000
def aDY (t:Tb):Nat:=t.cols.length+t.unique.length+t.checks.length+t.foreign.length+t.sums.length
def ahB (s:Sc):Nat:=(s.map aDY).sum
def abL (s:Sc):Bool:=decide (s.length<=20)&&decide (ahB s<=400)
theorem aHm {s:Sc} {i:Nat} (h:i<s.length):ahB (s.take (i+1))=ahB (s.take i)+aDY s[i]:=by
 unfold ahB
 rw [List.take_succ_eq_append_getElem h,List.map_append,List.sum_append];simp
theorem aE5 {s:Sc} {t:Tb} (h:t∈s):aDY t<=ahB s:=by
 unfold ahB
 induction s with
 |nil=>cases h
 |cons a s ih=>
  rw [zmp,List.sum_cons]
  rcases zmc.1 h with rfl|h
  ·omega
  ·have:=ih h;omega
theorem aBC (s:Sc) (hl:s.length<200000000000000) (h20:¬s.length<=20):PF Tryz.prog 52 [.agg (scC s)] (vb (false)):=by
 refine pF Tryz.func52 rfl (λst=> ?_)
 focus ((repeat' first|apply wZ;rfl|show Cn _;constructor))
 refine aC (X:={x:Nat×Int//x.1<=s.length}) (λi=>((((St.nil 47 st).var 1 24 ((scC s))).pv 3 ((vi (i.1.2)))).pv 4 ((vi ((i.1.1:Nat)))))) (λi=>s.length-i.1.1) ⟨(0,0),by simp⟩ ?_ (λi=> ?_)
 ·(repeat' first|show Cn _;constructor|exact rfl)
 obtain ⟨⟨i,n⟩,hi⟩:=i
 simp only at hi
 dsimp only
 by_cases hend:s.length<=i
 ·(repeat' first|apply wZ;rfl|show Cn _;constructor|exact rfl|show (_:PV)=_;(rw [zql,decide_eq_false (by omega)];rfl);done|simp only [zql];omega|(intro h;simp at h))
 have hil:i<s.length:=by omega
 focus ((repeat' first|apply wZ;rfl|show Cn _;constructor|simp only [zql];omega|(intro h;simp at h)))
 (apply cN pk;(iterate 6 rfl);rotate_left;rfl;(intro hw;rfl);(intro hw;apply auH<;>omega);(intro _;rfl);rfl)
 ·(repeat (first|apply lW aQ;iterate 4 rfl|apply amS aQ;iterate 4 rfl|apply akM aQ;iterate 5 rfl))
  refine sX ?_
  refine kH ?_
  (repeat (first|(apply aIr;(iterate 5 rfl);intro n')|apply lW aQ;iterate 4 rfl|apply aCK aQ;rfl;rfl;exact λ_=>rfl;rfl;rfl|apply awS aQ;rfl;rfl;rfl;rfl;exact λ_=>rfl;rfl;rfl))
  (repeat' first|(refine ⟨⟨(i+1,n'),by simp only;omega⟩, ?_, ?_⟩)|apply wZ;rfl|show Cn _;constructor|exact rfl|omega|simp only [zql];omega)
 ·(repeat' ((show Cn _;constructor)))
theorem aqR (s:Sc) (hl:s.length<200000000000000) (hB:ScB s):PF Tryz.prog 52 [.agg (scC s)] (vb (abL s)):=by
 by_cases h20:¬s.length<=20
 ·have hF:abL s=false:=by unfold abL;rw [decide_eq_false h20];rfl
  rw [hF]
  exact aBC s hl h20
 replace h20:=zdn h20
 refine pF Tryz.func52 rfl (λst=> ?_)
 focus ((repeat' first|apply wZ;rfl|show Cn _;constructor))
 refine aC (X:={x:Nat×Int//x.1<=s.length/\x.2=((ahB (s.take x.1):Nat):Int)/\x.2<=x.1*1000000000000000}) (λi=>((((St.nil 47 st).var 1 24 ((scC s))).pv 3 ((vi (i.1.2)))).pv 4 ((vi ((i.1.1:Nat)))))) (λi=>s.length-i.1.1) ⟨(0,0),by simp,rfl,by simp⟩ ?_ (λi=> ?_)
 ·(repeat' first|show Cn _;constructor|exact rfl)
 obtain ⟨⟨i,n⟩,hi,hn,hb2⟩:=i
 simp only at hi hn hb2
 dsimp only
 by_cases hend:s.length<=i
 ·rw [ztl hend] at hn
  subst hn
  have e:abL s=(decide ((s.length:Int)<=20)&&decide ((ahB s:Int)<=400)):=by unfold abL;rw [Bool.eq_iff_iff];simp;omega
  rw [e]
  (repeat' first|apply wZ;rfl|show Cn _;constructor|exact rfl|show (_:PV)=_;(rw [zql]);done|simp only [zql];omega|(intro h;simp at h))
 have hil:i<s.length:=by omega
 have hu:=aHm hil
 have hT:=hB _ (zgm hil)
 obtain ⟨c1,c2,c3,c4,c5⟩:=hT
 have hs:aDY s[i]=s[i].cols.length+s[i].unique.length+s[i].checks.length+s[i].foreign.length+s[i].sums.length:=rfl
 have l1:(s[i].cols.map Co.cells).length=s[i].cols.length:=zql _
 have l2:(s[i].unique.map I1).length=s[i].unique.length:=zql _
 have l3:(s[i].foreign.map Fr.cells).length=s[i].foreign.length:=zql _
 have l4:(s[i].sums.map Su.cells).length=s[i].sums.length:=zql _
 have w1:n+((s[i].cols.map Co.cells).length:Int)+((s[i].unique.map I1).length:Int)+(s[i].checks.length:Int)+((s[i].foreign.map Fr.cells).length:Int)+((s[i].sums.map Su.cells).length:Int)=((ahB (s.take (i+1)):Nat):Int):=by omega
 have w2:n+((s[i].cols.map Co.cells).length:Int)+((s[i].unique.map I1).length:Int)+(s[i].checks.length:Int)+((s[i].foreign.map Fr.cells).length:Int)+((s[i].sums.map Su.cells).length:Int)<=((i+1:Nat):Int)*1000000000000000:=by omega
 have n0:0<=n:=by omega
 (repeat' first|(refine ⟨⟨(i+1,n+((s[i].cols.map Co.cells).length:Int)+((s[i].unique.map I1).length:Int)+(s[i].checks.length:Int)+((s[i].foreign.map Fr.cells).length:Int)+((s[i].sums.map Su.cells).length:Int)),by simp only;omega,w1,w2⟩, ?_, ?_⟩)|apply wZ;rfl|show Cn _;constructor|exact rfl|apply wI;rfl|apply gE;omega|omega|simp only [zql];omega|(intro h;simp at h))
noncomputable def fewX (s:Sc):Bool:=s.all λt=>t.checks.all λc=>decide (X.nodesR 25 (exOf c) 60<=60)
noncomputable def fewC (s:Sc) (b:Bs):Bool:=(abL s&&uZ b)&&fewX s
theorem azR (s:Sc) (b:Bs) (hl:s.length<200000000000000) (hB:ScB s) (hK:∀t∈s,tN t) (hb:BsB b):PF Tryz.prog 22 [.agg (scC s), .agg (bsC b)] (vb (fewC s b)):=by
 have h1:=aqR s hl hB
 have h2:=aBh b hb.1 hb.2
 unfold fewC
 by_cases hg:¬(abL s&&uZ b)=true
 ·have hg:(abL s&&uZ b)=false:=by simpa using hg
  rw [hg]
  generalize abL s=A at*
  generalize uZ b=B at*
  refine pF Tryz.func22 rfl (λst=> ?_)
  (repeat' first|apply wZ;rfl|show Cn _;constructor|exact rfl|((first|apply h1|apply h2))|apply wY;rfl|exfalso;simp_all;done|(intro h;simp at h))
 replace hg:=zdn hg
 rw [hg]
 rw [zba] at hg
 rw [hg.1] at h1
 rw [hg.2] at h2
 have hl20:s.length<=20:=by have:=hg.1;unfold abL at this;simp at this;exact this.1
 have hyes:(∀j (h:j<s.length),(s[j].checks.all λc=>decide (X.nodesR 25 (exOf c) 60<=60))=true)->fewX s=true:=λh=>by
  unfold fewX
  rw [zal]
  intro t ht
  obtain ⟨j,hj,rfl⟩:=zgo ht
  exact h j hj
 have hno:∀j (h:j<s.length),∀y (hy:y<s[j].checks.length),decide (X.nodesR 25 (exOf s[j].checks[y]) 60<=60)=false->fewX s=false:=λj hj y hy h=>by
  unfold fewX
  rw [<-Bool.not_eq_true,zal]
  intro q
  have:=zal.1 (q _ (zgm hj)) _ (zgm hy)
  rw [h] at this;cases this
 generalize fewX s=W at*
 refine pF Tryz.func22 rfl (λst=> ?_)
 focus ((repeat' first|apply wZ;rfl|show Cn _;constructor|((first|apply h1|apply h2))|apply wY;rfl))
 refine aC (X:={x:Nat//x<=s.length/\∀j (h:j<s.length),j<x->(s[j].checks.all λc=>decide (X.nodesR 25 (exOf c) 60<=60))=true}) (λi=>(((St.nil 50 st).var 2 24 ((scC s))).pv 7 ((vi ((i.1:Nat)))))) (λi=>s.length-i.1) ⟨0,by omega,by omega⟩ ?_ (λi=> ?_)
 ·(repeat' first|show Cn _;constructor|exact rfl)
 obtain ⟨i,hi,hI⟩:=i
 dsimp only
 by_cases hend:s.length<=i
 ·have e:W=true:=hyes λj hj=>hI j hj (by omega)
  (repeat' first|apply wZ;rfl|show Cn _;constructor|exact rfl|show (_:PV)=_;(rw [e];rfl);done|simp only [zql];omega|(intro h;simp at h))
 have hil:i<s.length:=by omega
 have hup:(s[i].checks.all λc=>decide (X.nodesR 25 (exOf c) 60<=60))=true->∀j (h:j<s.length),j<i+1->(s[j].checks.all λc=>decide (X.nodesR 25 (exOf c) 60<=60))=true:=λh j hj hji=>by
  rcases zls.1 hji with q|q
  ·exact hI j hj q
  ·subst q;exact h
 have hchk:=hK _ (zgm hil)
 have hckl:=(hB _ (zgm hil)).k
 have hno:=hno i hil
 focus ((repeat' first|apply wZ;rfl|show Cn _;constructor|simp only [zql];omega|(intro h;simp at h)))
 refine aC (X:={x:Nat//x<=s[i].checks.length/\∀j (h:j<s[i].checks.length),j<x->decide (X.nodesR 25 (exOf s[i].checks[j]) 60<=60)=true}) (λy=>((((St.nil 50 st).var 2 24 ((scC s))).pv 7 ((vi ((i:Nat))))).pv 8 ((vi ((y.1:Nat)))))) (λy=>s[i].checks.length-y.1) ⟨0,by omega,by omega⟩ ?_ (λy=> ?_)
 ·(repeat' first|show Cn _;constructor|exact rfl)
 obtain ⟨y,hy,hyI⟩:=y
 dsimp only
 by_cases hend2:s[i].checks.length<=y
 ·have hw:=hup (by
   rw [zal]
   intro c hc
   obtain ⟨j,hj,rfl⟩:=zgo hc
   exact hyI j hj (by omega))
  (repeat' first|(refine ⟨⟨i+1,by omega,hw⟩, ?_, ?_⟩)|apply wZ;rfl|show Cn _;constructor|exact rfl|apply wI;rfl|apply gE;omega|omega|simp only [zql];omega|(intro h;simp at h))
 have hyl:y<s[i].checks.length:=by omega
 obtain ⟨hok,hcc⟩:=aiD (hchk _ (zgm hyl))
 have hF:=X.Few_spec hok
 have hno:=hno y hyl
 have hyu:decide (X.nodesR 25 (exOf s[i].checks[y]) 60<=60)=true->∀j (h:j<s[i].checks.length),j<y+1->decide (X.nodesR 25 (exOf s[i].checks[j]) 60<=60)=true:=λh j hj hji=>by
  rcases zls.1 hji with q|q
  ·exact hyI j hj q
  ·subst q;exact h
 have hget:s[i].checks[y]?=some (exOf s[i].checks[y]).cells:=by rw [hcc,zgg hyl]
 generalize decide (X.nodesR 25 (exOf s[i].checks[y]) 60<=60)=D at*
 generalize exOf s[i].checks[y]=x at*
 obtain ⟨xk,xn,xv,xo⟩:=x
 cases D with
 |true=>
  (repeat' first|(refine ⟨⟨y+1,by omega,hyu rfl⟩, ?_, ?_⟩)|apply wZ;rfl|show Cn _;constructor|exact rfl|apply cN pk;(iterate 6 rfl);rotate_left;rfl;(intro hw;rfl);(intro hw;apply hget<;>omega);(intro _;rfl);rfl|(apply hF)|apply wY;rfl|apply wI;rfl|apply gE;omega|omega|simp only [zql];omega|(intro h;simp at h))
 |false=>
  have e:=hno rfl
  (repeat' first|apply wZ;rfl|show Cn _;constructor|exact rfl|apply cN pk;(iterate 6 rfl);rotate_left;rfl;(intro hw;rfl);(intro hw;apply hget<;>omega);(intro _;rfl);rfl|(apply hF)|show (_:PV)=_;(rw [e];rfl);done|apply wY;rfl|apply wI;rfl|apply gE;omega|omega|(intro h;simp at h))
theorem CkB.of {s:Sc} {b:Bs} (h:fewC s b=true) (hB:ScB s) (hK:∀t∈s,tN t):CkB 100 s b:=by
 unfold fewC abL at h
 simp only [zba,zde] at h
 obtain ⟨⟨⟨h1,h2⟩,h3⟩,h4⟩:=h
 exact ⟨hB,h1,λt ht=>by have:=aE5 ht;unfold aDY at this;omega,hK,aGC h3,by omega⟩
end
end Go.Proofs.YtfablfldonhkiaaGreatDoor
