import Derived.Test.YtnogfoojjaainaaGreatDoorClAd
import Derived.Test.YtnogfoojjaainaaGreatDoorAbsJ
import Derived.Test.YtnogfoojjaainaaGreatDoorAbsG
import Derived.Test.YtnogfoojjaainaaGreatDoorClAb
import Derived.Test.YtnogfoojjaainaaGreatDoorClAa
set_option linter.unusedSimpArgs false
set_option linter.unusedVariables false
namespace Go.Proofs.YtnogfoojjaainaaGreatDoor.X
open Go Go.Abs
attribute [local irreducible] Ev PWp
set_option maxRecDepth 10000
set_option maxHeartbeats 4000000
def vz(v:Vl):Bool:=decide (v.kind=0)&&(decide (v.n=0)&&decide (v.s=e0))
def fQ(k n:Int)(v:Vl)(l:Int):Bool:=
 if k=0 then(decide (n>=0)&&vz v)&&decide (l=0)
 else if k=1 then(decide (n=0)&&oX v)&&decide (l=0)
 else decide (2<=k/\k<=10)&&decide (n=0)&&vz v&&decide (l=fG k)
mutual
def bG :Ex->Bool
 | .mk k n v o=>fQ k n v o.length&&(decide (k=0)||decide (k=1)||qI o)
def qI :List Ex->Bool
 |[]=>true
 |e::es=>bG e&&qI es
end
theorem kT :∀l,qI l=l.all bG
 |[]=>rfl
 |e::es=>by simp[qI,kT es]
mutual
theorem mI :∀(e:Ex),e.ok->PF Tryz.prog 275 [.agg e.cells] (vb (bG e))
 | .mk k n v of,hok=>by
  simp only[Ex.ok]at hok
  have F:=vI of
  have s:=Ex.rows_len of
  obtain⟨d,g,j⟩:=v
  have B:=@right_spec d g j
  by_cases hk:2<=k/\k<=10
  ·obtain⟨f,caps,c⟩:=aEi hk.1 hk.2
   have o:¬k=0:=by omega
   have r:¬k=1:=by omega
   have a:bG (.mk k n ⟨d,g,j⟩ of)=(fQ k n ⟨d,g,j⟩ of.length&&qI of):=by simp[bG,o,r]
   have C:fQ k n ⟨d,g,j⟩ of.length=(decide (n=0)&&vz ⟨d,g,j⟩&&decide ((of.length:Int)=fG k)):=by simp[fQ,o,r,hk]
   by_cases hh:n=0/\(d=0/\g=0/\j=e0)/\(of.length:Int)=fG k
   ·have w:fQ k n ⟨d,g,j⟩ of.length=true:=by rw[C];simp[vz,hh]
    rw[w,Bool.true_and,kT]at a;refine pF Tryz.func275 rfl λst=>?_
    focus(repeat' first|apply wZ;rfl|show Cn _;constructor|exact rfl|apply KR.mk;kernel_rfl|apply eK|apply lV pk;(iterate 4 rfl);(focus repeat' constructor);rfl;exact c;rfl|apply wY;rfl|omega|exfalso;simp_all;done|intro h;simp at h|intro h)
    refine aC (X:={i:Nat//i<=of.length/\(of.take i).all bG=true}) (λi=>((((St.nil 84 st).pv 74 (.seq (Ex.rows of))).pv 75 (vi ((Ex.rows of).length:Nat))).pv 76 (vi (i.1:Nat)))) (λi=>of.length-i.1) ⟨0,by omega,by simp⟩ ?_ λi=>?_
    ·repeat' first|show Cn _;constructor|exact rfl
    obtain⟨i,hi,m⟩:=i;dsimp only;by_cases E:of.length<=i
    ·rw[xK (by omega)]at m
     rw[m]at a
     repeat' first|apply wZ;rfl|show Cn _;constructor|exact rfl|show(_:PV)=_;(rw[a]);done|omega|intro h;simp at h
    obtain⟨x,hx⟩:=fX (l:=of) (i:=i) (by omega);have u:=Ex.rows_get hx;have hm:=List.mem_of_getElem? hx;have z:=F x hm (Ex.oks_mem hok.2 hm);have y:=aqE (p:=bG) hx;have A:=λh=>azC (p:=bG) hx h;generalize bG x=D at*;obtain⟨k',n',H,G⟩:=x;cases D with
    |false=>
     rw[A rfl]at a
     (repeat' first|apply wZ;rfl|show Cn _;constructor|exact rfl|apply cL pk;(iterate 6 rfl);rotate_left;rfl;(intro hw;rfl);(intro hw;apply u<;>omega);(intro _;exact Ex.cells_len _);rfl|apply z|show(_:PV)=_;(rw[a]);done|apply wY;rfl|omega|intro h;simp at h)
    |true=>
     rw[m]at y
     repeat' first|refine⟨⟨i+1,by omega,y⟩,?_,?_⟩|apply wZ;rfl|show Cn _;constructor|exact rfl|apply cL pk;(iterate 6 rfl);rotate_left;rfl;(intro hw;rfl);(intro hw;apply u<;>omega);(intro _;exact Ex.cells_len _);rfl|apply z|apply wY;rfl|omega|simp only[zql];omega|intro h;simp at h
   ·have w:fQ k n ⟨d,g,j⟩ of.length=false:=by
     rw[C,<-Bool.not_eq_true];simp only[vz,zba,zde];exactλq=>hh ⟨q.1.1,q.1.2,q.2⟩
    rw[w,Bool.false_and]at a;refine pF Tryz.func275 rfl λst=>?_
    repeat' first|apply wZ;rfl|show Cn _;constructor|exact rfl|apply KR.mk;kernel_rfl|apply eK|show(_:PV)=_;(rw[a]);done|apply lV pk;(iterate 4 rfl);(focus repeat' constructor);rfl;exact c;rfl|apply wY;rfl|omega|exfalso;simp_all;done|intro h;simp at h|intro h
  ·have c:=aAB hk
   by_cases o:k=0
   ·subst o
    have e:bG (.mk 0 n ⟨d,g,j⟩ of)=((decide (n>=0)&&(decide (d=0)&&(decide (g=0)&&decide (j=e0))))&&decide ((of.length:Int)=0)):=by simp[bG,fQ,vz]
    refine pF Tryz.func275 rfl λst=>?_
    repeat' first|apply wZ;rfl|show Cn _;constructor|exact rfl|apply KR.mk;kernel_rfl|apply eK|show(_:PV)=_;(rw[e,s];done);done|apply lV pk;(iterate 4 rfl);(focus repeat' constructor);rfl;exact c;rfl|apply wY;rfl
   by_cases r:k=1
   ·subst r
    have e:bG (.mk 1 n ⟨d,g,j⟩ of)=((decide (n=0)&&oX ⟨d,g,j⟩)&&decide ((of.length:Int)=0)):=by simp[bG,fQ]
    generalize oX ⟨d,g,j⟩=R at*;refine pF Tryz.func275 rfl λst=>?_
    repeat' first|apply wZ;rfl|show Cn _;constructor|exact rfl|apply KR.mk;kernel_rfl|(first|apply eK|apply B)|show(_:PV)=_;(rw[e,s];done);done|apply lV pk;(iterate 4 rfl);(focus repeat' constructor);rfl;exact c;rfl|apply wY;rfl
   have e:bG (.mk k n ⟨d,g,j⟩ of)=false:=by simp[bG,fQ,o,r,hk]
   refine pF Tryz.func275 rfl λst=>?_
   repeat' first|apply wZ;rfl|show Cn _;constructor|exact rfl|apply KR.mk;kernel_rfl|apply eK|show(_:PV)=_;(rw[e]);done|apply lV pk;(iterate 4 rfl);(focus repeat' constructor);rfl;exact c;rfl|apply wY;rfl|omega|intro h
theorem vI :∀(l:List Ex)(x:Ex),x∈l->x.ok->PF Tryz.prog 275 [.agg x.cells] (vb (bG x))
 |[],_,h,_=>by cases h
 |e::es,x,h,hok=>by
  rcases zmc.1 h with h|h
  ·rw[h]at hok⊢;exact mI e hok
  ·exact vI es x h hok
end
def pI(e:Ex):Int:=if eN 20 e then 2 else if bG e then 0 else 1
theorem iI{e:Ex}(a:e.ok):PF Tryz.prog 207 [.agg e.cells] (vi (pI e)):=by
 have c:=aA4 20 e 20 rfl (by omega) a;have d:=mI e a;unfold pI;generalize eN 20 e=D at*;generalize bG e=F at*;obtain⟨k,n,v,of⟩:=e;refine pF Tryz.func207 rfl λst=>?_
 repeat' first|apply wZ;rfl|show Cn _;constructor|exact rfl|(first|apply c|apply d)|show(_:PV)=_;(simp[*];done);done|apply wY;rfl|intro h
mutual
def dG(m:Int):Ex->Bool
 | .mk k n _ o=>(!decide (k=0)||decide (n<m))&&abT m o
def abT(m:Int):List Ex->Bool
 |[]=>true
 |e::es=>dG m e&&abT m es
end
theorem mD(m:Int):∀l,abT m l=l.all (dG m)
 |[]=>rfl
 |e::es=>by simp[abT,mD m es]
mutual
theorem aeH(m:Int):∀(e:Ex),e.ok->PF Tryz.prog 250 [.agg e.cells,vi m] (vb (dG m e))
 | .mk k n v of,hok=>by
  simp only[Ex.ok]at hok
  have q:=zP m of
  have o:=Ex.rows_len of
  have hT:dG m (.mk k n v of)=((!decide (k=0)||decide (n<m))&&of.all (dG m)):=by rw[dG,mD]
  refine pF Tryz.func250 rfl λst=>?_
  focus(repeat' first|apply wZ;rfl|show Cn _;constructor)
  refine aC (X:={i:Nat//i<=of.length/\(of.take i).all (dG m)=true}) (λi=>((((((St.nil 28 st).pv 1 (vi m)).var 2 62 ((Ex.mk k n v of).cells)).pv 8 (.seq (Ex.rows of))).pv 9 (vi ((Ex.rows of).length:Nat))).pv 10 (vi (i.1:Nat)))) (λi=>of.length-i.1) ⟨0,by omega,by simp⟩ ?_ λi=>?_
  ·repeat' first|show Cn _;constructor|exact rfl
  obtain⟨i,hi,a⟩:=i
  dsimp only
  by_cases j:of.length<=i
  ·rw[xK (by omega)]at a
   rw[a,Bool.and_true]at hT
   repeat' first|apply wZ;rfl|show Cn _;constructor|exact rfl|show(_:PV)=_;(rw[hT];done);done|omega|intro h;simp at h
  obtain⟨x,hx⟩:=fX (l:=of) (i:=i) (by omega)
  have c:=Ex.rows_get hx
  have hm:=List.mem_of_getElem? hx
  have f:=q x hm (Ex.oks_mem hok.2 hm)
  have d:=aqE (p:=dG m) hx
  have g:=λh=>azC (p:=dG m) hx h
  generalize dG m x=D at*
  obtain⟨k',n',s,r⟩:=x
  cases D with
  |false=>
   rw[g rfl,Bool.and_false]at hT
   (repeat' first|apply wZ;rfl|show Cn _;constructor|exact rfl|apply cL pk;(iterate 6 rfl);rotate_left;rfl;(intro hw;rfl);(intro hw;apply c<;>omega);(intro _;exact Ex.cells_len _);rfl|apply f|show(_:PV)=_;(rw[hT]);done|apply wY;rfl|omega|intro h;simp at h)
  |true=>
   rw[a]at d
   repeat' first|refine⟨⟨i+1,by omega,d⟩,?_,?_⟩|apply wZ;rfl|show Cn _;constructor|exact rfl|apply cL pk;(iterate 6 rfl);rotate_left;rfl;(intro hw;rfl);(intro hw;apply c<;>omega);(intro _;exact Ex.cells_len _);rfl|apply f|apply wY;rfl|omega|simp only[zql];omega|intro h;simp at h
theorem zP(m:Int):∀(l:List Ex)(x:Ex),x∈l->x.ok->PF Tryz.prog 250 [.agg x.cells,vi m] (vb (dG m x))
 |[],_,h,_=>by cases h
 |e::es,x,h,hok=>by
  rcases zmc.1 h with h|h
  ·rw[h]at hok⊢;exact aeH m e hok
  ·exact zP m es x h hok
end
def uY(nb:Bool):Int->List Int->Bool
 |_,[]=>true
 |last,x::xs=>if((nb&& !decide (x=0))&& !decide (x=1))||((!decide (x=0)&& !decide (last=0))&& !decide (x=last))then false else uY nb (if x=0 then last else x) xs
theorem acO{α:Type}{l:List α}{i:Nat}{x:α}(h:l[i]?=some x):l.drop i=x::l.drop (i+1):=by
 obtain⟨hl,rfl⟩:=zge.1 h;exact List.drop_eq_getElem_cons hl
theorem azD{α:Type}{l:List α}{i:Nat}(h:¬i<l.length):l.drop i=[]:=List.drop_eq_nil_of_le (by omega)
theorem tJ{m:Int}{nb:Bool}{f:FuncId}{caps:List PV}{l:List Int}(hl:l.length<2^62):PF Tryz.prog 277 [.agg [vi m,vb nb, .fn f caps], .seq (gU l)] (vb (uY nb 0 l)):=by
 have g:=sM l;refine pF Tryz.func277 rfl λst=>?_
 focus(repeat' first|apply wZ;rfl|show Cn _;constructor)
 refine aC (X:={x:Nat×Int//x.1<=l.length/\uY nb 0 l=uY nb x.2 (l.drop x.1)}) (λi=>((((((St.nil 41 st).var 2 311 ([vi m,vb nb, .fn f caps])).pv 5 (vi i.1.2)).pv 8 (.seq (gU l))).pv 9 (vi ((gU l).length:Nat))).pv 10 (vi (i.1.1:Nat)))) (λi=>l.length-i.1.1) ⟨(0,0),by simp,by simp⟩ ?_ λi=>?_
 ·repeat' first|show Cn _;constructor|exact rfl
 obtain⟨⟨i,last⟩,hi,a⟩:=i;dsimp only at hi a;dsimp only;generalize uY nb 0 l=R at*;by_cases e:l.length<=i
 ·rw[azD (by omega)]at a
  repeat' first|apply wZ;rfl|show Cn _;constructor|exact rfl|show(_:PV)=_;(rw[a];rfl);done|omega|intro h;simp at h
 obtain⟨x,hx⟩:=fX (l:=l) (i:=i) (by omega);have c:=yA hx;rw[acO hx]at a;simp only[uY]at a;by_cases hc:(((nb&& !decide (x=0))&& !decide (x=1))||((!decide (x=0)&& !decide (last=0))&& !decide (x=last)))=true
 ·rw[zp hc]at a
  repeat' first|apply wZ;rfl|show Cn _;constructor|exact rfl|apply cL pk;(iterate 6 rfl);rotate_left;rfl;(intro hw;rfl);(intro hw;apply c<;>omega);(intro _;rfl);rfl|show(_:PV)=_;(rw[a]);done|omega|exfalso;simp at*;grind|intro h;simp at h
 rw[zn hc]at a;by_cases d:x=0
 ·rw[zp d]at a
  repeat' first|refine⟨⟨(i+1,last),by simp only;omega,a⟩,?_,?_⟩|apply wZ;rfl|show Cn _;constructor|exact rfl|apply cL pk;(iterate 6 rfl);rotate_left;rfl;(intro hw;rfl);(intro hw;apply c<;>omega);(intro _;rfl);rfl|omega|simp only[zql];omega|intro h;simp at h;omega|intro h;simp at h|intro h
 ·rw[zn d]at a
  repeat' first|refine⟨⟨(i+1,x),by simp only;omega,a⟩,?_,?_⟩|apply wZ;rfl|show Cn _;constructor|exact rfl|apply cL pk;(iterate 6 rfl);rotate_left;rfl;(intro hw;rfl);(intro hw;apply c<;>omega);(intro _;rfl);rfl|omega|simp only[zql];omega|exfalso;simp at*;grind|intro h;simp at h|intro h
mutual
def bA(l:List Int):Ex->Int×Int
 | .mk k n v o=>if k=0 then(l.getD n.toNat 0,0)else if k=1 then(v.kind,0)else
   match fW l o with
   |(_,some no)=>(0,no)
   |(got,none)=>if uY (nR k) 0 got then(1,0)else(0,6)
def fW(l:List Int):List Ex->List Int×Option Int
 |[]=>([],none)
 |e::es=>if(bA l e).2=0 then((bA l e).1::(fW l es).1,(fW l es).2)else([],some (bA l e).2)
end
theorem xB{l:List Int}:∀{os:List Ex},(∀x∈os,(bA l x).2=0)->fW l os=(os.map λx=>(bA l x).1,none)
 |[],_=>rfl
 |e::es,h=>by
  have a:=xB (l:=l) (os:=es) λx hx=>h x (by simp[hx])
  simp[fW,h e (by simp),a]
theorem xJ{l:List Int}:∀{os:List Ex}{i:Nat}{x:Ex},(∀j y,j<i->os[j]?=some y->(bA l y).2=0)->os[i]?=some x->(bA l x).2≠0->(fW l os).2=some (bA l x).2
 |[],_,_,_,h,_=>by simp at h
 |e::es,0,x,_,h,hx=>by
  simp at h;subst h
  simp[fW,hx]
 |e::es,i+1,x,h0,h,hx=>by
  simp at h
  have a:=h0 0 e (by omega) (by simp)
  have c:=xJ (l:=l) (os:=es) (i:=i) (λj y hj hy=>h0 (j+1) y (by omega) (by simpa using hy)) h hx
  simp[fW,a,c]
theorem wH{k n:Int}{v:Vl}{of:List Ex}(h:bG (.mk k n v of)=true)(a:¬k=0)(c:¬k=1):(2<=k/\k<=10)/\n=0/\vz v=true/\(of.length:Int)=fG k/\∀x∈of,bG x=true:=by
 simp only[bG,fQ,if_false,zba,zde,Bool.or_eq_true,a,c,false_or,kT,zal]at h;exact⟨h.1.1.1.1,h.1.1.1.2,h.1.1.2,h.1.2,h.2⟩
theorem aqZ(k:Int):fG k<=2/\1<=fG k:=by unfold fG;split<;>omega
theorem kQ :Tryz.prog.bytesOf 3=8:=by kernel_rfl
theorem tH{α β:Type}{l:List α}{i:Nat}{x:α}(h:l[i]?=some x)(f:α->β):(l.take (i+1)).map f=(l.take i).map f++[f x]:=by
 obtain⟨hl,rfl⟩:=zge.1 h;rw[List.take_succ_eq_append_getElem hl,List.map_append];rfl
theorem asY{k n:Int}{v:Vl}{of:List Ex}(l:List Int)(hl:l.length<2^62)(hk:k=0\/k=1)(hf:bG (.mk k n v of)=true)(ht:dG l.length (.mk k n v of)=true):
  PF Tryz.prog 251 [.agg (Ex.mk k n v of).cells, .seq (gU l)] (.tup [vi ((bA l (.mk k n v of)).1),vi ((bA l (.mk k n v of)).2)]):=by
 by_cases c:k=0
 ·subst c
  simp[bG,fQ]at hf;simp[dG]at ht;have hn:n.toNat<l.length:=by omega
  obtain⟨x,hx⟩:=fX hn;have a:=yA hx;have e:bA l (.mk 0 n v of)=(x,0):=by simp[bA,hx]
  rw[e];have f:n=((n.toNat:Nat):Int):=by omega
  refine pF Tryz.func251 rfl λst=>?_
  repeat' first|apply wZ;rfl|show Cn _;constructor|exact rfl|apply cL pk;(iterate 6 rfl);rotate_left;rfl;(intro hw;exact f);(intro hw;apply a<;>omega);(intro _;rfl);rfl
 ·have d:k=1:=by omega
  subst d;have e:bA l (.mk 1 n v of)=(v.kind,0):=by simp[bA]
  rw[e];refine pF Tryz.func251 rfl λst=>?_
  repeat' first|apply wZ;rfl|show Cn _;constructor|exact rfl
mutual
theorem acQ(l:List Int)(hl:l.length<2^62):∀(e:Ex),e.ok->bG e=true->dG l.length e=true->PF Tryz.prog 251 [.agg e.cells, .seq (gU l)] (.tup [vi ((bA l e).1),vi ((bA l e).2)])
 | .mk k n v of,hok,hf,ht=>by
  have S:=zU l hl of
  by_cases B:k=0\/k=1
  ·exact asY l hl B hf ht
  have A:¬k=0:=by omega
  have C:¬k=1:=by omega
  obtain⟨hk,hn,hv,Q,u⟩:=wH hf A C
  simp only[dG,zba,mD,zal]at ht
  simp only[Ex.ok]at hok
  have hm:=aqZ k
  have R:=Ex.rows_len of
  obtain⟨H,caps,d,_⟩:=abZ hk.1 hk.2
  have p:bA l (.mk k n v of)=match fW l of with|(_,some no)=>(0,no)|(got,none)=>if uY (nR k) 0 got then(1,0)else(0,6):=by simp only[bA,zn A,zn C];try rfl
  generalize bA l (.mk k n v of)=E at*
  refine pF Tryz.func251 rfl λst=>?_
  focus(repeat' first|apply wZ;rfl|show Cn _;constructor|omega|intro h)
  refine vP 6 3 rfl rfl λid c=>?_
  have c:st id=none:=c
  refine aC (X:={x:Nat×Nat//x.1<=of.length/\st x.2=none/\∀j y,j<x.1->of[j]?=some y->(bA l y).2=0}) (λi=>(((((((St.nil 53 (upd st i.1.2 (some (.tok 3)))).pv 1 (.seq (gU l))).var 2 62 ((Ex.mk k n v of).cells)).pv 6 (.own i.1.2 (((of.take i.1.1).map λy=>(bA l y).1).map I1))).pv 26 (.seq (Ex.rows of))).pv 27 (vi ((Ex.rows of).length:Nat))).pv 28 (vi (i.1.1:Nat)))) (λi=>of.length-i.1.1) ⟨(0,id),by simp,c,by simp⟩ ?_ λi=>?_
  ·repeat' first|show Cn (.t _ _);exact Cn.t0|show Cn _;constructor|exact rfl
  obtain⟨⟨i,id⟩,hi,c,hz⟩:=i
  simp only at hi c hz
  dsimp only
  by_cases P:of.length<=i
  ·have K:of.take i=of:=xK (by omega)
   have w:fW l of=(of.map λy=>(bA l y).1,none):=xB λx hx=>by
    obtain⟨j,hj⟩:=List.mem_iff_getElem?.1 hx
    exact hz j x (by have:=(zge.1 hj).1;omega) hj
   rw[w]at p;simp only at p;rw[K];have s:=tJ (m:=fG k) (nb:=nR k) (f:=H) (caps:=caps) (l:=of.map λy=>(bA l y).1) (by simp;omega);unfold gU at s;generalize uY (nR k) 0 (of.map λy=>(bA l y).1)=G at*;cases G with
   |true=>
    rw[zp rfl]at p
    (repeat' first|apply Cn.cf;focus(((apply eK));done)|apply cV;focus(((apply s));done)|show Cn (.e _ _ _ _);refine .any ?_;(refine⟨_,_,_,rfl,zwr _,bK ‹_›,?_,rfl⟩;((rw[p]);done))|apply wZ;rfl|show Cn _;constructor|apply KR.mk;kernel_rfl|apply lV pk;(iterate 4 rfl);(focus repeat' constructor);rfl;exact d;rfl|apply wY;rfl|omega|intro h;simp at h)
   |false=>
    rw[zn (by simp)]at p
    repeat' first|apply Cn.cf;focus(((apply eK));done)|apply cV;focus(((apply s));done)|show Cn (.e _ _ _ _);refine .any ?_;(refine⟨_,_,_,rfl,zwr _,bK ‹_›,?_,rfl⟩;((rw[p]);done))|apply wZ;rfl|show Cn _;constructor|apply KR.mk;kernel_rfl|apply lV pk;(iterate 4 rfl);(focus repeat' constructor);rfl;exact d;rfl|apply wY;rfl|omega|intro h;simp at h
  obtain⟨x,hx⟩:=fX (l:=of) (i:=i) (by omega)
  have q:=Ex.rows_get hx
  have o:=List.mem_of_getElem? hx
  have F:=S x o (Ex.oks_mem hok.2 o) (u x o) (ht.2 x o)
  have g:=λh0=>xJ (l:=l) hz hx h0
  have M:(bA l x).2=0->∀j y,j<i+1->of[j]?=some y->(bA l y).2=0:=λh0 j y hj hy=>by
   by_cases J:j=i
   ·subst J;rw[hx]at hy;injection hy with hy;subst hy;exact h0
   ·exact hz j y (by omega) hy
  have D:((of.take (i+1)).map λy=>(bA l y).1).map I1=((of.take i).map λy=>(bA l y).1).map I1++[I1 (bA l x).1]:=by rw[tH hx λy=>(bA l y).1,List.map_append];rfl
  have I:(bA l x).2≠0->E=(0,(bA l x).2):=λh0=>by
   have:=g h0
   rw[p]
   revert this
   cases fW l of with|mk a b=>intro this;simp only at this;subst this;rfl
  clear g p
  generalize W:bA l x=r at*
  obtain⟨U,V⟩:=r
  obtain⟨k',n',Y,T⟩:=x
  dsimp only at*
  by_cases O:V=0
  ·have L:=M O
   repeat' first|refine⟨⟨(i+1,N),by simp only;omega,gX z,L⟩,?_,?_⟩;(dsimp only;rw[D])|show Cn (.t _ _);exact .any (bI ‹_›)|apply wZ;rfl|show Cn _;constructor|exact rfl|apply cL pk;(iterate 6 rfl);rotate_left;rfl;(intro hw;rfl);(intro hw;apply q<;>omega);(intro _;exact Ex.cells_len _);rfl|apply F|show _=_;(simp[I1];done)|apply apS pk (U) 8;(iterate 8 rfl);exact aA _ _ _;exactλ_=>rfl;exactλ_=>rfl;exact kQ;(simp;omega);(simp;omega);rfl;intro N z|apply wY;rfl|omega|simp only[zql];omega|intro h;simp at h|intro h
  ·have e:=I O
   repeat' first|show Cn (.e _ _ _ _);refine .any ?_;(refine⟨_,_,_,rfl,zwr _,bK ‹_›,?_,rfl⟩;((rw[e]);done))|apply wZ;rfl|show Cn _;constructor|apply cL pk;(iterate 6 rfl);rotate_left;rfl;(intro hw;rfl);(intro hw;apply q<;>omega);(intro _;exact Ex.cells_len _);rfl|apply F|apply wY;rfl|omega|intro h;simp at h|intro h
theorem zU(l:List Int)(hl:l.length<2^62):∀(os:List Ex)(x:Ex),x∈os->x.ok->bG x=true->dG l.length x=true->PF Tryz.prog 251 [.agg x.cells, .seq (gU l)] (.tup [vi ((bA l x).1),vi ((bA l x).2)])
 |[],_,h,_=>by cases h
 |e::es,x,h,hok=>by
  rcases zmc.1 h with h|h
  ·rw[h]at hok⊢;exact acQ l hl e hok
  ·exact zU l hl es x h hok
end
def fL(e:Ex)(l:List Int):Int×Int:=if pI e≠0 then(0,pI e)else if dG l.length e then bA l e else(0,4)
theorem nB{e:Ex}(h:pI e=0):eN 20 e=false/\bG e=true:=by
 unfold pI at h;split at h
 ·omega
 ·rename_i a
  split at h
  ·rename_i c;exact⟨by simpa using a,c⟩
  ·omega
theorem aAr{e:Ex}(f:e.ok){l:List Int}(hl:l.length<2^62):PF Tryz.prog 177 [.agg e.cells, .seq (gU l)] (.tup [vi ((fL e l).1),vi ((fL e l).2)]):=by
 have g:=iI f;have d:=aeH ((l.length:Nat):Int) e f;have a:=sM l;rw[<-a]at d;by_cases hm:pI e=0
 ·rw[hm]at g
  cases ht:dG l.length e with
  |true=>
   have i:=acQ l hl e f (nB hm).2 ht;rw[a,ht]at d;rw[<-a]at d;have c:fL e l=bA l e:=by unfold fL;rw[zn λq=>q hm,zp ht]
   rw[c];generalize bA l e=R at*;clear hm ht c;obtain⟨k,n,v,of⟩:=e;refine pF Tryz.func177 rfl λst=>?_
   (repeat' first|apply wZ;rfl|show Cn _;constructor|exact rfl|(first|apply g|apply d|apply i)|apply wY;rfl)
  |false=>
   rw[a,ht]at d;rw[<-a]at d;have c:fL e l=(0,4):=by unfold fL;rw[zn λq=>q hm,zn (by rw[ht];simp)]
   rw[c];clear hm ht c;obtain⟨k,n,v,of⟩:=e;refine pF Tryz.func177 rfl λst=>?_
   repeat' first|apply wZ;rfl|show Cn _;constructor|exact rfl|(first|apply g|apply d)|apply wY;rfl
 ·have c:fL e l=(0,pI e):=by unfold fL;rw[zp hm]
  rw[c];generalize pI e=M at*;clear c d;obtain⟨k,n,v,of⟩:=e;refine pF Tryz.func177 rfl λst=>?_
  repeat' first|apply wZ;rfl|show Cn _;constructor|exact rfl|apply g|apply wY;rfl|omega|intro h
mutual
def dR(row:List Vl):Ex->Vl×Int
 | .mk k n v o=>if k=0 then(if n>=row.length then(v0,4)else(row.getD n.toNat v0,0))else if k=1 then(v,0)else
   match lL row o with
   |(_,some no)=>(v0,no)
   |(got,none)=>if uY (nR k) 0 (got.map Vl.kind)then vK k (got.getD 0 v0) (got.getD (fG k-1).toNat v0)else(v0,6)
def lL(row:List Vl):List Ex->List Vl×Option Int
 |[]=>([],none)
 |e::es=>if(dR row e).2=0 then((dR row e).1::(lL row es).1,(lL row es).2)else([],some (dR row e).2)
end
theorem aaX{row:List Vl}:∀{os:List Ex},(∀x∈os,(dR row x).2=0)->lL row os=(os.map λx=>(dR row x).1,none)
 |[],_=>rfl
 |e::es,h=>by
  have a:=aaX (row:=row) (os:=es) λx hx=>h x (by simp[hx])
  simp[lL,h e (by simp),a]
theorem aaH{row:List Vl}:∀{os:List Ex}{i:Nat}{x:Ex},(∀j y,j<i->os[j]?=some y->(dR row y).2=0)->os[i]?=some x->(dR row x).2≠0->(lL row os).2=some (dR row x).2
 |[],_,_,_,h,_=>by simp at h
 |e::es,0,x,_,h,hx=>by
  simp at h;subst h
  simp[lL,hx]
 |e::es,i+1,x,h0,h,hx=>by
  simp at h
  have a:=h0 0 e (by omega) (by simp)
  have c:=aaH (row:=row) (os:=es) (i:=i) (λj y hj hy=>h0 (j+1) y (by omega) (by simpa using hy)) h hx
  simp[lL,a,c]
theorem aBr{v:Vl}(h:oX v=true):lim v.n:=by
 unfold oX at h;split at h
 ·simp at h;unfold lim;omega
 ·split at h
  ·simp at h;unfold lim;omega
  ·split at h
   ·simp at h;unfold lim;omega
   ·cases h
theorem uJ :lim v0.n:=by unfold lim v0;simp only;omega
theorem ajD(b:Bool):lim (pP b).n:=by unfold lim pP vN;cases b<;>simp
theorem aCW{op:Int->Int->Int}{a b:Vl}:lim (acD op a b).1.n:=by
 unfold acD;split
 ·exact uJ
 ·rename_i h
  simp[aqG]at h;unfold lim vN;simp only;omega
theorem aiD{r:Vl->Vl->Vl×Int}{a b:Vl}(h:lim (r a b).1.n):lim (lO r a b).1.n:=by
 unfold lO;split
 ·exact uJ
 ·exact h
theorem aFw(k:Int)(a b:Vl):lim (vK k a b).1.n:=by
 unfold vK
 repeat' split
 all_goals first
  |exact aiD aCW
  |exact aiD (ajD _)
  |exact ajD _
  |(unfold ahX;(repeat' split)<;>first|exact uJ|unfold lim vN;simp only;omega)
theorem aER{row:List Vl}(h:∀v∈row,lim v.n)(i:Nat):lim (row.getD i v0).n:=by
 rw[List.getD_eq_getElem?_getD];cases hi:row[i]? with
 |none=>exact uJ
 |some x=>exact h x (List.mem_of_getElem? hi)
theorem aEC{row:List Vl}(c:∀v∈row,lim v.n):∀{e:Ex},bG e=true->lim (dR row e).1.n
 | .mk k n v of,hf=>by
  simp only[dR]
  split
  ·split
   ·exact uJ
   ·exact aER c _
  ·split
   ·rename_i h0 a
    subst a;simp[bG,fQ]at hf;exact aBr hf.1.2
   ·split
    ·exact uJ
    ·split
     ·exact aFw _ _ _
     ·exact uJ
def rowOK(row:List Vl):Prop:=row.length<2^62/\∀v∈row,lim v.n
theorem aCo{k n:Int}{v:Vl}{of:List Ex}{row:List Vl}(j:rowOK row)(hk:k=0\/k=1)(hf:bG (.mk k n v of)=true):
  PF Tryz.prog 208 [.agg (Ex.mk k n v of).cells, .seq (row.map Vl.cells)] (pZ (dR row (.mk k n v of))):=by
 have i:(row.map Vl.cells).length=row.length:=zql _
 have l:=j.1
 by_cases c:k=0
 ·subst c
  simp[bG,fQ]at hf;by_cases g:n>=row.length
  ·have e:dR row (.mk 0 n v of)=(v0,4):=by simp only[dR,zp];rw[zp g]
   rw[e];refine pF Tryz.func208 rfl λst=>?_
   repeat' first|apply wZ;rfl|show Cn _;constructor|exact rfl|omega|intro h;simp at h
  ·have hn:n.toNat<row.length:=by omega
   have hx:=getElem?_pos row n.toNat hn;have e:dR row (.mk 0 n v of)=(row[n.toNat],0):=by simp only[dR,zp];rw[zn g];simp[hx]
   rw[e];have a:(row.map Vl.cells)[n.toNat]?=some row[n.toNat].cells:=by rw[List.getElem?_map,hx];rfl
   have f:n=((n.toNat:Nat):Int):=by omega
   refine pF Tryz.func208 rfl λst=>?_
   repeat' first|apply wZ;rfl|show Cn _;constructor|exact rfl|apply cL pk;(iterate 6 rfl);rotate_left;rfl;(intro hw;exact f);(intro hw;apply a<;>omega);(intro _;rfl);rfl|omega|intro h;simp at h
 ·have d:k=1:=by omega
  subst d;have e:dR row (.mk 1 n v of)=(v,0):=by simp[dR]
  rw[e];refine pF Tryz.func208 rfl λst=>?_
  repeat' first|apply wZ;rfl|show Cn _;constructor|exact rfl
def ayC :List PV:=[vi 0,vi 0,vs e0]
def aLk :List Vl->List PV
 |[]=>ayC++ayC
 |[a]=>a.cells++ayC
 |a::b::_=>a.cells++b.cells
mutual
theorem aiW{row:List Vl}(hr:rowOK row):∀(e:Ex),e.ok->bG e=true->PF Tryz.prog 208 [.agg e.cells, .seq (row.map Vl.cells)] (pZ (dR row e))
 | .mk k n v of,hok,hf=>by
  have ih:=afC hr of
  by_cases U:k=0\/k=1
  ·exact aCo hr U hf
  have T:¬k=0:=by omega
  have V:¬k=1:=by omega
  obtain⟨hk,hn,hv,hlen,J⟩:=wH hf T V
  simp only[Ex.ok]at hok
  have hm:=aqZ k
  have W:=Ex.rows_len of
  obtain⟨fid,caps,d,F⟩:=abZ hk.1 hk.2
  have p:dR row (.mk k n v of)=match lL row of with|(_,some no)=>(v0,no)|(c,none)=>if uY (nR k) 0 (c.map Vl.kind)then vK k (c.getD 0 v0) (c.getD (fG k-1).toNat v0)else(v0,6):=by simp only[dR,zn T,zn V];try rfl
  generalize dR row (.mk k n v of)=E at*
  refine pF Tryz.func208 rfl λst=>?_
  focus(repeat' first|apply wZ;rfl|show Cn _;constructor|omega|intro h)
  refine vP 7 3 rfl rfl λid z=>?_
  have z:st id=none:=z
  refine aC (X:={x:List Vl×Nat//x.1.length<=of.length/\st x.2=none/\x.1=(of.take x.1.length).map (λy=>(dR row y).1)/\∀j y,j<x.1.length->of[j]?=some y->(dR row y).2=0}) (λi=>(((((((((St.nil 81 (upd st i.1.2 (some (.tok 3)))).pv 1 (.seq (row.map Vl.cells))).var 2 62 ((Ex.mk k n v of).cells)).var 4 60 (ayC)).var 6 308 (aLk i.1.1)).pv 7 (.own i.1.2 ((i.1.1.map Vl.kind).map I1))).pv 33 (.seq (Ex.rows of))).pv 34 (vi ((Ex.rows of).length:Nat))).pv 35 (vi (i.1.1.length:Nat)))) (λi=>of.length-i.1.1.length) ⟨([],id),by simp,z,by simp,by simp⟩ ?_ λi=>?_
  ·repeat' first|show Cn (.t _ _);exact Cn.t0|show Cn _;constructor|exact rfl
  obtain⟨⟨c,id⟩,hi,z,g,hz⟩:=i
  simp only at hi z g hz
  dsimp only
  by_cases K:of.length<=c.length
  ·have I:c.length=of.length:=by omega
   have Y:of.take c.length=of:=xK (by omega);rw[Y]at g;have u:∀x∈of,(dR row x).2=0:=λx hx=>by
    obtain⟨j,hj⟩:=List.mem_iff_getElem?.1 hx
    exact hz j x (by have:=(zge.1 hj).1;omega) hj
   have w:lL row of=(c,none):=by rw[g];exact aaX u
   have B:∀v∈c,lim v.n:=λv hv=>by
    rw[g]at hv
    obtain⟨e,he,rfl⟩:=List.mem_map.1 hv
    exact aEC hr.2 (J e he)
   have o:=tJ (m:=fG k) (nb:=nR k) (f:=fid) (caps:=caps) (l:=c.map Vl.kind) (by simp;omega);unfold gU at o;rw[w]at p;simp only at p;clear w u hz g Y;generalize uY (nR k) 0 (c.map Vl.kind)=G at*;cases G with
   |false=>
    rw[zn (by simp)]at p
    (repeat' first|apply Cn.cf;focus(((apply eK));done)|apply cV;focus(((apply o));done)|show Cn (.e _ _ _ _);refine .any ?_;(refine⟨_,_,_,rfl,zwr _,bK ‹_›,?_,rfl⟩;((rw[p];rfl);done))|apply wZ;rfl|show Cn _;constructor|apply KR.mk;kernel_rfl|apply lV pk;(iterate 4 rfl);(focus repeat' constructor);rfl;exact d;rfl|apply wY;rfl|omega|intro h;simp at h)
   |true=>
    rw[zp rfl]at p;rcases c with _|⟨a,_|⟨b,_|⟨_,_⟩⟩⟩
    ·simp only[List.length_nil]at I;omega
    ·have N:fG k=1:=by simp only[zlc,List.length_nil]at I;omega
     have ha:=B a (by simp);have hs:=F a.kind a.n a.s a.kind a.n a.s ha ha;rw[N]at p o d;have e:E=vK k a a:=p;rw[e];generalize vK k a a=R at*
     repeat' first|apply Cn.cf;focus(((first|apply eK|apply hs));done)|apply cV;focus(((apply o));done)|show Cn (.e _ _ _ _);refine .any ?_;(refine⟨_,_,_,rfl,zwr _,bK ‹_›,?_,rfl⟩;(rfl))|apply wZ;rfl|show Cn _;constructor|apply KR.mk;kernel_rfl|apply lV pk;(iterate 4 rfl);(focus repeat' constructor);rfl;exact d;rfl|apply iD pk 0;(iterate 5 rfl);(focus repeat' constructor);rfl;(intro _;rfl);(intro _;omega);rfl|apply wY;rfl|omega|intro h;simp at h
    ·have N:fG k=2:=by simp only[zlc,List.length_nil]at I;omega
     have ha:=B a (by simp);have hb:=B b (by simp);have hs:=F a.kind a.n a.s b.kind b.n b.s ha hb;rw[N]at p o d;have e:E=vK k a b:=p;rw[e];generalize vK k a b=R at*
     repeat' first|apply Cn.cf;focus(((first|apply eK|apply hs));done)|apply cV;focus(((apply o));done)|show Cn (.e _ _ _ _);refine .any ?_;(refine⟨_,_,_,rfl,zwr _,bK ‹_›,?_,rfl⟩;(rfl))|apply wZ;rfl|show Cn _;constructor|apply KR.mk;kernel_rfl|apply lV pk;(iterate 4 rfl);(focus repeat' constructor);rfl;exact d;rfl|apply iD pk 0;(iterate 5 rfl);(focus repeat' constructor);rfl;(intro _;rfl);(intro _;omega);rfl|apply iD pk 1;(iterate 5 rfl);(focus repeat' constructor);rfl;(intro _;rfl);(intro _;omega);rfl|apply wY;rfl|omega|intro h;simp at h
    ·simp only[zlc]at I;omega
  obtain⟨x,hx⟩:=fX (l:=of) (i:=c.length) (by omega)
  have D:=Ex.rows_get hx
  have M:=List.mem_of_getElem? hx
  have P:=ih x M (Ex.oks_mem hok.2 M) (J x M)
  have H:=λh0=>aaH (row:=row) hz hx h0
  have hzs:(dR row x).2=0->∀j y,j<c.length+1->of[j]?=some y->(dR row y).2=0:=λh0 j y hj hy=>by
   by_cases hji:j=c.length
   ·subst hji;rw[hx]at hy;injection hy with hy;subst hy;exact h0
   ·exact hz j y (by omega) hy
  have C:=tH hx λy=>(dR row y).1
  rw[<-g]at C
  have hE2:(dR row x).2≠0->E=(v0,(dR row x).2):=λh0=>by
   have:=H h0
   rw[p]
   revert this
   cases lL row of with|mk a b=>intro this;simp only at this;subst this;rfl
  clear H p
  generalize hrr:dR row x=r at*
  obtain⟨⟨L,Q,S⟩,re⟩:=r
  obtain⟨k',n',v',of'⟩:=x
  dsimp only at*
  by_cases h2:re=0
  ·have Z:=hzs h2
   have hg2:c.length<2:=by omega
   rcases c with _|⟨a,_|⟨b,_⟩⟩
   ·simp only[List.length_nil]at K hi
    have hne:¬(Ex.rows of=[]):=λq=>by rw[q]at W;simp only[List.length_nil]at W;omega
    have hz1:(List.map Vl.kind ([]:List Vl)).length=0:=rfl;have w1:([⟨L,Q,S⟩]:List Vl).length<=of.length:=by show 1<=of.length;omega
    have w2:([⟨L,Q,S⟩]:List Vl).length=1:=rfl;have w3:([]:List Vl).length=0:=rfl;have hz3:(List.map I1 (List.map Vl.kind ([]:List Vl))).length=0:=rfl
    repeat' first|refine⟨⟨([⟨L,Q,S⟩],O),w1,gX A,C.symm,Z⟩,?_,?_⟩;(dsimp only)|show Cn (.t _ _);exact .any (bI ‹_›)|apply wZ;rfl|show Cn _;constructor|exact rfl|apply cL pk;(iterate 6 rfl);rotate_left;rfl;(intro hw;rfl);(intro hw;apply D<;>omega);(intro _;exact Ex.cells_len _);rfl|apply P|apply iD pk 0;(iterate 5 rfl);(focus repeat' constructor);rfl;(intro _;rfl);(intro _;omega);rfl|apply apS pk (L) 8;(iterate 8 rfl);exact aA _ _ _;exactλ_=>rfl;exactλ_=>rfl;exact kQ;(omega);(omega);rfl;intro O A|apply wY;rfl|omega|simp only[zql];omega|intro h;simp at h
   ·simp only[zlc,List.length_nil]at K hi
    have hz1:(List.map Vl.kind [a]).length=1:=rfl;have w1:([a,⟨L,Q,S⟩]:List Vl).length<=of.length:=by show 2<=of.length;omega
    have w2:([a,⟨L,Q,S⟩]:List Vl).length=2:=rfl;have w3:[a].length=1:=rfl;have hz3:(List.map I1 (List.map Vl.kind [a])).length=1:=rfl
    repeat' first|refine⟨⟨([a,⟨L,Q,S⟩],O),w1,gX A,C.symm,Z⟩,?_,?_⟩;(dsimp only)|show Cn (.t _ _);exact .any (bI ‹_›)|apply wZ;rfl|show Cn _;constructor|exact rfl|apply cL pk;(iterate 6 rfl);rotate_left;rfl;(intro hw;rfl);(intro hw;apply D<;>omega);(intro _;exact Ex.cells_len _);rfl|apply P|apply iD pk 1;(iterate 5 rfl);(focus repeat' constructor);rfl;(intro _;rfl);(intro _;omega);rfl|apply apS pk (L) 8;(iterate 8 rfl);exact aA _ _ _;exactλ_=>rfl;exactλ_=>rfl;exact kQ;(omega);(omega);rfl;intro O A|apply wY;rfl|omega|simp only[zql];omega|intro h;simp at h
   ·exact absurd hg2 (by simp)
  ·have e:=hE2 h2
   repeat' first|show Cn (.e _ _ _ _);refine .any ?_;(refine⟨_,_,_,rfl,zwr _,bK ‹_›,?_,rfl⟩;((rw[e];rfl);done))|apply wZ;rfl|show Cn _;constructor|apply cL pk;(iterate 6 rfl);rotate_left;rfl;(intro hw;rfl);(intro hw;apply D<;>omega);(intro _;exact Ex.cells_len _);rfl|apply P|apply wY;rfl|omega|intro h;simp at h
theorem afC{row:List Vl}(a:rowOK row):∀(os:List Ex)(x:Ex),x∈os->x.ok->bG x=true->PF Tryz.prog 208 [.agg x.cells, .seq (row.map Vl.cells)] (pZ (dR row x))
 |[],_,h,_=>by cases h
 |e::es,x,h,hok=>by
  rcases zmc.1 h with h|h
  ·rw[h]at hok⊢;exact aiW a e hok
  ·exact afC a es x h hok
end
def EvalR(e:Ex)(row:List Vl):Vl×Int:=if pI e≠0 then(v0,pI e)else dR row e
theorem Eval_spec{e:Ex}(c:e.ok){row:List Vl}(g:rowOK row):PF Tryz.prog 125 [.agg e.cells, .seq (row.map Vl.cells)] (pZ (EvalR e row)):=by
 have d:=iI c;by_cases hm:pI e=0
 ·have f:=aiW g e c (nB hm).2
  rw[hm]at d;have a:EvalR e row=dR row e:=by unfold EvalR;rw[zn λq=>q hm]
  rw[a];generalize dR row e=R at*;clear hm a;obtain⟨k,n,v,of⟩:=e;refine pF Tryz.func125 rfl λst=>?_
  repeat' first|apply wZ;rfl|show Cn _;constructor|exact rfl|(first|apply d|apply f)|apply wY;rfl
 ·have a:EvalR e row=(v0,pI e):=by unfold EvalR;rw[zp hm]
  rw[a];generalize pI e=M at*;clear a;obtain⟨k,n,v,of⟩:=e;refine pF Tryz.func125 rfl λst=>?_
  repeat' first|apply wZ;rfl|show Cn _;constructor|exact rfl|apply d|apply wY;rfl|omega|intro h
def oI(f:Ex->Int->Int)(left:Int):Int->List Ex->Int
 |n,[]=>n
 |n,x::xs=>if n<=left then oI f left (n+f x (left-n)) xs else n
def nodesR :Nat->Ex->Int->Int
 |0,_,left=>left+1
 |d+1,e,left=>oI (nodesR d) left 1 e.of
theorem ajL{f:Ex->Int->Int}{left:Int}(hf:∀x l,0<=l->1<=f x l/\f x l<=l+1):∀(l:List Ex)(n:Int),1<=n->n<=left+1->1<=oI f left n l/\oI f left n l<=left+1
 |[],n,h1,h2=>⟨h1,h2⟩
 |x::xs,n,h1,h2=>by
  simp only[oI]
  split
  ·rename_i h
   have:=hf x (left-n) (by omega);exact ajL hf xs _ (by omega) (by omega)
  ·exact⟨h1,h2⟩
theorem ajJ :∀(d:Nat)(e:Ex)(left:Int),0<=left->1<=nodesR d e left/\nodesR d e left<=left+1
 |0,_,left,h=>by simp only[nodesR];omega
 |d+1,e,left,h=>by
  simp only[nodesR]
  exact ajL (λx l hl=>ajJ d x l hl) _ _ (by omega) (by omega)
theorem awQ :∀(d:Nat)(e:Ex)(left z:Int),z=(d:Nat)->d<=1000->0<=left->left<=1000->e.ok->PF Tryz.prog 39 [.agg e.cells,vi left,vi z] (vi (nodesR d e left)):=by
 intro d
 induction d with
 |zero=>
  intro e left z hz _ w y g;subst hz;obtain⟨k,n,v,of⟩:=e;refine pF Tryz.func39 rfl λst=>?_
  (repeat' first|apply wZ;rfl|show Cn _;constructor|exact rfl|omega)
 |succ d ih=>
  intro e left z hz hd w y g;subst hz;obtain⟨k,n,v,of⟩:=e;simp only[Ex.ok]at g;have A:=Ex.rows_len of;refine pF Tryz.func39 rfl λst=>?_
  focus(repeat' first|apply wZ;rfl|show Cn _;constructor)
  refine aC (X:={x:Nat×Int//x.1<=of.length/\1<=x.2/\x.2<=left+1/\nodesR (d+1) (.mk k n v of) left=oI (nodesR d) left x.2 (of.drop x.1)}) (λi=>((((((St.nil 39 st).pv 1 (vi left)).pv 2 (vi (d+1:Nat))).var 3 62 ((Ex.mk k n v of).cells)).pv 7 (vi i.1.2)).pv 8 (vi (i.1.1:Nat)))) (λi=>of.length-i.1.1) ⟨(0,1),by simp,by simp,by simp only;omega,rfl⟩ ?_ λi=>?_
  ·repeat' first|show Cn _;constructor|exact rfl
  obtain⟨⟨i,m⟩,hi,o,p,a⟩:=i;simp only at hi o p a;dsimp only;by_cases f:¬(i<of.length/\m<=left)
  ·have j:oI (nodesR d) left m (of.drop i)=m:=by
    by_cases c:i<of.length
    ·obtain⟨x,hx⟩:=fX c
     rw[acO hx];simp only[oI];rw[zn λq=>f ⟨c,q⟩]
    ·rw[azD c];rfl
   rw[j]at a
   repeat' first|apply wZ;rfl|show Cn _;constructor|exact rfl|show(_:PV)=_;(rw[a]);done|intro h;simp at h;omega|intro h;simp at h
  obtain⟨c,s⟩:=zdn f;obtain⟨x,hx⟩:=fX c;have l:=Ex.rows_get hx;have B:=ajJ d x (left-m) (by omega);have u:=λz hz=>ih x (left-m) z hz (by omega) (by omega) (by omega) (Ex.oks_mem g.2 (List.mem_of_getElem? hx));rw[acO hx]at a;simp only[oI]at a;rw[zp s]at a;generalize nodesR d x (left-m)=r at*;obtain⟨k',n',D,C⟩:=x
  repeat' first|refine⟨⟨(i+1,m+r),by simp only;omega,by simp only;omega,by simp only;omega,a⟩,?_,?_⟩|apply wZ;rfl|show Cn _;constructor|exact rfl|apply cL pk;(iterate 6 rfl);rotate_left;rfl;(intro hw;rfl);(intro hw;apply l<;>omega);(intro _;exact Ex.cells_len _);rfl|apply u<;>(omega)|apply wY;rfl|omega|simp only[zql];omega|intro h;simp at h;omega|intro h;simp at h
theorem Few_spec{e:Ex}(a:e.ok):PF Tryz.prog 15 [.agg e.cells] (vb (decide (nodesR 25 e 60<=60))):=by
 have h:=awQ 25 e 60 25 rfl (by omega) (by omega) (by omega) a;generalize nodesR 25 e 60=N at*;obtain⟨k,n,v,of⟩:=e;refine pF Tryz.func15 rfl λst=>?_
 repeat' first|apply wZ;rfl|show Cn _;constructor|exact rfl|apply h|apply wY;rfl
end Go.Proofs.YtnogfoojjaainaaGreatDoor.X
namespace Go.Proofs.YtnogfoojjaainaaGreatDoor
open Go Go.Abs
namespace X
set_option maxRecDepth 10000
set_option maxHeartbeats 4000000
mutual
theorem Ex.inj :∀(a b:Ex),a.cells=b.cells->a=b
 | .mk k n v o, .mk k' n' v' o',h=>by
  simp only[Ex.cells,List.cons.injEq,PV.val.injEq,PV.seq.injEq,Value.int.injEq,Value.string.injEq,true_and,and_true]at h
  obtain⟨rfl,rfl,d,f,g,h4⟩:=h
  have e:=Ex.injs o o' h4
  obtain⟨a,b,c⟩:=v
  obtain⟨i,b',j⟩:=v'
  simp only at d f g
  subst d f g e
  rfl
theorem Ex.injs :∀(a b:List Ex),Ex.rows a=Ex.rows b->a=b
 |[],[],_=>rfl
 |[],_::_,h=>by simp[Ex.rows]at h
 |_::_,[],h=>by simp[Ex.rows]at h
 |a::l,b::m,h=>by
  simp only[Ex.rows,List.cons.injEq]at h
  rw[Ex.inj a b h.1,Ex.injs l m h.2]
end
def RightR(e:Ex)(l:List Int):Int:=if(fL e l).2=0 then(if(fL e l).1=2 then 6 else 0)else(fL e l).2
end X
open Classical in
noncomputable def exOf(c:List PV):X.Ex:=if h:∃e:X.Ex,e.ok/\e.cells=c then h.choose else .mk 0 0 X.v0 []
theorem abU{c:List PV}(h:∃e:X.Ex,e.ok/\e.cells=c):(exOf c).ok/\(exOf c).cells=c:=by
 unfold exOf;rw[dif_pos h];exact h.choose_spec
def tM(t:Tb):Prop:=∀c∈t.checks,∃e:X.Ex,e.ok/\e.cells=c
def chE(p:Vl×Int):Int:=if p.2=0 then(if p.1=⟨1,0,e0⟩then 9 else 0)else p.2
noncomputable def exR(t:Tb)(r:List Vl):Int:=eE (λc=>chE (X.EvalR (exOf c) r)) t.checks
noncomputable def rightX(t:Tb):Int:=eE (λc=>X.RightR (exOf c) (t.cols.map bS)) t.checks
noncomputable def rightC(s:Sc):Int:=if bT s=0 then eE rightX s else bT s
end Go.Proofs.YtnogfoojjaainaaGreatDoor
namespace Go.Proofs.YtnogfoojjaainaaGreatDoor
open Go Go.Abs
section
attribute [local irreducible] Ev PWp
set_option maxRecDepth 10000
set_option maxHeartbeats 4000000
def oB(t:Tb)(rows:List (List Vl))(b:Bs):List PV:=t.cells++[.seq (rows.map roC), .seq (b.map Da.cells)]
variable(t:Tb)(rows:List (List Vl))(b:Bs)
theorem auY(hc:t.cols.length<1000000000000000)(hl:rows.length<1000000000000000)(f:∀r∈rows,r.length<1000000000000000):PF Tryz.prog 64 [.agg (oB t rows b)] (vi (eE (eS t) rows)):=by
 refine pF Tryz.func64 rfl λst=>?_
 focus(repeat' first|apply wZ;rfl|show Cn _;constructor)
 refine aC (X:={x:Nat//x<=rows.length/\∀j (h:j<rows.length),j<x->eS t rows[j]=0}) (λi=>(((((St.nil 22 st).var 1 136 (oB t rows b)).pv 7 (.seq (rows.map roC))).pv 8 (vi ((rows.map roC).length:Nat))).pv 9 (vi (i.1:Nat)))) (λi=>rows.length-i.1) ⟨0,by omega,by omega⟩ ?_ λi=>?_
 ·repeat' first|show Cn _;constructor|exact rfl
 obtain⟨i,hi,c⟩:=i;dsimp only;by_cases d:rows.length<=i
 ·have e:eE (eS t) rows=0:=jS λj hj=>c j hj (by omega)
  repeat' first|apply wZ;rfl|show Cn _;constructor|exact rfl|show(_:PV)=_;(rw[e]);done|simp only[zql];omega|intro h;simp at h
 have a:i<rows.length:=by omega
 have hk:=aiE t rows[i] hc (f _ (zgm a));have e:=oM c a;have hu:=oF c a;generalize eS t rows[i]=E at*
 repeat' first|refine⟨⟨i+1,by omega,hu ‹_›⟩,?_,?_⟩|apply wZ;rfl|show Cn _;constructor|exact rfl|apply hk|show(_:PV)=_;(rw[e ‹_›]);done|apply wY;rfl|apply wI;rfl|apply gE;omega|omega|simp only[zql];omega|intro h;simp at h|intro h
def bF'(b:Bool):PV:=(vb b)
theorem rW{st:aD}{id:Nat}{a b:Option AObj}(h:st id=none):StSub st (upd (upd st id a) id b):=λj=>by
 by_cases hj:j=id
 ·subst hj;left;exact h
 ·right;rw[aB hj,aB hj]
theorem pL{st:aD}{id:Nat}{a:Option AObj}(h:st id=none):StSub st (upd st id a):=λj=>by
 by_cases hj:j=id
 ·subst hj;left;exact h
 ·right;rw[aB hj]
theorem arD(hl:rows.length<1000000000000000)(hu:t.unique.length<1000000000000000)(O:∀u∈t.unique,0<=u/\∀r∈rows,u<r.length):PF Tryz.prog 65 [.agg (oB t rows b)] (vi (if mL t rows=false then 8 else 0)):=by
 have G:=aCH (t:=t) (rows:=rows);have g:=λj k hj h=>aGA (t:=t) (rows:=rows) (j:=j) (k:=k) hj h;generalize mL t rows=B at*;refine pF Tryz.func65 rfl λst=>?_
 focus(repeat' first|apply wZ;rfl|show Cn _;constructor)
 refine aC (X:={x:Nat//x<=t.unique.length/\∀j (h:j<t.unique.length),j<x->pwU t.unique[j].toNat rows}) (λi=>(((((St.nil 45 st).var 1 136 (oB t rows b)).pv 10 (.seq (t.unique.map I1))).pv 11 (vi ((t.unique.map I1).length:Nat))).pv 12 (vi (i.1:Nat)))) (λi=>t.unique.length-i.1) ⟨0,by omega,by omega⟩ ?_ λi=>?_
 ·repeat' first|show Cn _;constructor|exact rfl
 obtain⟨i,hi,L⟩:=i;dsimp only;by_cases N:t.unique.length<=i
 ·have e:B=true:=G λj hj=>L j hj (by omega)
  repeat' first|apply wZ;rfl|show Cn _;constructor|exact rfl|show(_:PV)=_;(rw[e];rfl);done|simp only[zql];omega|intro h;simp at h
 have C:i<t.unique.length:=by omega
 obtain⟨P,K⟩:=O _ (zgm C);have g:=λk=>g i k C;have F:pwU t.unique[i].toNat rows->∀j (h:j<t.unique.length),j<i+1->pwU t.unique[j].toNat rows:=λh j hj H=>by
  rcases zls.1 H with q|q
  ·exact L j hj q
  ·subst q;exact h
 focus(repeat' first|apply mkM (enc:=Ie) (f:=bF');rfl;intro id w|apply wZ;rfl|show Cn _;constructor|exact rfl|apply wI;rfl|apply gE;omega|simp only[zql];omega|intro h;simp at h)
 have A:st id=none:=w;clear w;obtain⟨u,hu⟩:∃u:Nat,t.unique[i]=(u:Int):=⟨t.unique[i].toNat,by omega⟩;have J:t.unique[i].toNat=u:=by omega
 rw[J]at g F;refine aC (X:={x:Nat//x<=rows.length/\pwU u (rows.take x)}) (λy=>((((((((((St.nil 45 (upd st id (some (.map (aV Ie bF' (atD u (rows.take y.1))))))).var 1 136 (oB t rows b)).pv 4 (vi (t.unique[i]))).pv 5 (.mref id)).pv 10 (.seq (t.unique.map I1))).pv 11 (vi ((t.unique.map I1).length:Nat))).pv 12 (vi (i:Nat))).pv 18 (.seq (rows.map roC))).pv 19 (vi ((rows.map roC).length:Nat))).pv 20 (vi (y.1:Nat)))) (λy=>rows.length-y.1) ⟨0,by omega,by unfold pwU;simp⟩ ?_ λy=>?_
 ·repeat' first|show Cn (.t _ _);exact Cn.t0|show Cn _;constructor|exact rfl
 obtain⟨y,hy,l⟩:=y;dsimp only;by_cases m:rows.length<=y
 ·rw[ztl m]at l
  repeat' first|refine⟨⟨i+1,by omega,F l⟩,?_,?_⟩|show Cn (.s _ (St.nil _ _));refine .any ?_;exact Sub.nil _ _ _ (pL A) rfl|apply wZ;rfl|show Cn _;constructor|exact rfl|omega|simp only[zql];omega|intro h;simp at h
 have o:y<rows.length:=by omega
 have I:=K _ (zgm o);have E:u<rows[y].length:=by rw[hu]at I;omega
 have p:=getElem!_pos rows[y] u E;have c:=aKJ (u:=u) o;have D:=g (y+1);have d:=aCY u rows[y][u]!.n (rows.take y);have a:=aHE u o;rw[p]at c d a;clear p;generalize R:atD u (rows.take y)=M at*;generalize((rows.take y).any λr=>decide (r[u]!.kind=1)&&decide (r[u]!.n=rows[y][u].n))=Q at*;by_cases hk:rows[y][u].kind=1
 ·rw[zp hk]at a
  cases Q with
  |true=>
   have e:B=false:=D λh=>by have:=(c.1 h).2 hk;cases this
   (repeat' first|apply iX;(intro hw;exact hu);(apply gE;omega);rfl|show Cn (.e _ _ _ _);refine .any ?_;(refine⟨_,_,_,rfl,zwr _,bK ‹_›,?_,rfl⟩;((rw[e];rfl);done))|apply wZ;rfl|show Cn _;constructor|exact rfl|apply lkD pk xV (f:=bF') (z:=false) (k:=rows[y][u].n) (n:=true);(iterate 5 rfl);rotate_left;rfl;exact aA _ _ _;rfl;exact d|apply wI;rfl|apply gE;omega|omega|simp only[zql];omega|intro h;simp at h|intro h)
  |false=>
   have hw:=c.2 ⟨l,λ_=>rfl⟩
   repeat' first|apply iX;(intro hw;exact hu);(apply gE;omega);rfl|refine⟨⟨y+1,by omega,hw⟩,?_,?_⟩;(dsimp only;rw[a])|show Cn (.t _ _);exact .any (cN (by((simp only[St.pv,St.put,St.sst,St.setv,St.nil,St.var,eI]);(done))))|apply wZ;rfl|show Cn _;constructor|exact rfl|apply lkD pk xV (f:=bF') (z:=false) (k:=rows[y][u].n) (n:=false);(iterate 5 rfl);rotate_left;rfl;exact aA _ _ _;rfl;exact d|apply muA pk xV (f:=bF') (k:=rows[y][u].n) (v:=true);(exact .inr rfl);(iterate 5 rfl);exact aA _ _ _;rfl|apply wI;rfl|apply gE;omega|omega|simp only[zql];omega|intro h;simp at h|intro h
 ·rw[zn hk]at a
  have hw:=c.2 ⟨l,λq=>absurd q hk⟩
  repeat' first|apply iX;(intro hw;exact hu);(apply gE;omega);rfl|refine⟨⟨y+1,by omega,hw⟩,?_,?_⟩;(dsimp only;rw[a])|show Cn (.t _ _);exact Cn.t0|apply wZ;rfl|show Cn _;constructor|exact rfl|apply wI;rfl|apply gE;omega|omega|simp only[zql];omega|intro h;simp at h|intro h
end
section
attribute [local irreducible] Ev PWp
set_option maxRecDepth 10000
set_option maxHeartbeats 4000000
variable(t:Tb)(rows:List (List Vl))(b:Bs)
theorem aqJ(hl:rows.length<1000000000000000)(hx:t.checks.length<1000000000000000)(hk:tM t)(L:∀r∈rows,X.rowOK r):PF Tryz.prog 66 [.agg (oB t rows b)] (vi (eE (exR t) rows)):=by
 refine pF Tryz.func66 rfl λst=>?_
 focus(repeat' first|apply wZ;rfl|show Cn _;constructor)
 refine aC (X:={x:Nat//x<=rows.length/\∀j (h:j<rows.length),j<x->exR t rows[j]=0}) (λi=>(((((St.nil 38 st).var 1 136 (oB t rows b)).pv 10 (.seq (rows.map roC))).pv 11 (vi ((rows.map roC).length:Nat))).pv 12 (vi (i.1:Nat)))) (λi=>rows.length-i.1) ⟨0,by omega,by omega⟩ ?_ λi=>?_
 ·repeat' first|show Cn _;constructor|exact rfl
 obtain⟨i,hi,B⟩:=i;dsimp only;by_cases H:rows.length<=i
 ·have e:eE (exR t) rows=0:=jS λj hj=>B j hj (by omega)
  repeat' first|apply wZ;rfl|show Cn _;constructor|exact rfl|show(_:PV)=_;(rw[e]);done|simp only[zql];omega|intro h;simp at h
 have k:i<rows.length:=by omega
 have F:=L _ (zgm k);have e:=oM B k;have hu:=oF B k
 focus(repeat' first|apply wZ;rfl|show Cn _;constructor|exact rfl|apply wI;rfl|apply gE;omega|simp only[zql];omega|intro h;simp at h)
 refine aC (X:={x:Nat//x<=t.checks.length/\∀j (h:j<t.checks.length),j<x->chE (X.EvalR (exOf t.checks[j]) rows[i])=0}) (λy=>(((((((((St.nil 38 st).var 1 136 (oB t rows b)).pv 4 (.seq (rows[i].map Vl.cells))).pv 10 (.seq (rows.map roC))).pv 11 (vi ((rows.map roC).length:Nat))).pv 12 (vi (i:Nat))).pv 18 (.seq t.checks)).pv 19 (vi (t.checks.length:Nat))).pv 20 (vi (y.1:Nat)))) (λy=>t.checks.length-y.1) ⟨0,by omega,by omega⟩ ?_ λy=>?_
 ·repeat' first|show Cn _;constructor|exact rfl
 obtain⟨y,hy,l⟩:=y;dsimp only;by_cases D:t.checks.length<=y
 ·have J:exR t rows[i]=0:=jS λj hj=>l j hj (by omega)
  repeat' first|refine⟨⟨i+1,by omega,hu J⟩,?_,?_⟩|apply wZ;rfl|show Cn _;constructor|exact rfl|omega|simp only[zql];omega|intro h;simp at h
 have g:y<t.checks.length:=by omega
 obtain⟨E,C⟩:=abU (hk _ (zgm g));have G:=oM (f:=λc=>chE (X.EvalR (exOf c) rows[i])) l g;have u:=oF (f:=λc=>chE (X.EvalR (exOf c) rows[i])) l g;change chE _≠0->exR t rows[i]=chE _ at G;change chE (X.EvalR (exOf t.checks[y]) rows[i])=0->_ at u;have A:=X.Eval_spec E F;have d:t.checks[y]?=some (exOf t.checks[y]).cells:=by rw[C,zgg g]
 generalize X.EvalR (exOf t.checks[y]) rows[i]=p at*;generalize exOf t.checks[y]=x at*;obtain⟨M,N,P,O⟩:=x;obtain⟨⟨n,o,s⟩,m⟩:=p;have a:chE (⟨n,o,s⟩,m)≠0->eE (exR t) rows=chE (⟨n,o,s⟩,m):=λh=>by
  have:=G h
  rw[e (by rw[this];exact h),this]
 by_cases v:m=0
 ·by_cases z:n=1/\o=0/\s=e0
  ·have K:chE (⟨n,o,s⟩,m)=9:=by unfold chE;rw[zp v,zp (by simp[z])]
   rw[K]at a;have hf:=a (by decide);obtain⟨rfl,rfl,rfl⟩:=z
   repeat' first|apply wZ;rfl|show Cn _;constructor|exact rfl|apply cL pk;(iterate 6 rfl);rotate_left;rfl;(intro hw;rfl);(intro hw;apply d<;>omega);(intro _;rfl);rfl|apply A|show(_:PV)=_;(rw[hf]);done|apply wY;rfl|omega|intro h;simp at h
  ·have w:chE (⟨n,o,s⟩,m)=0:=by unfold chE;rw[zp v,zn λq=>z (by simpa using q)]
   have hw:=u w
   repeat' first|refine⟨⟨y+1,by omega,hw⟩,?_,?_⟩|apply wZ;rfl|show Cn _;constructor|exact rfl|apply cL pk;(iterate 6 rfl);rotate_left;rfl;(intro hw;rfl);(intro hw;apply d<;>omega);(intro _;rfl);rfl|apply A|apply wY;rfl|omega|simp only[zql];omega|exfalso;simp_all;done|intro h;simp at h
 ·have I:chE (⟨n,o,s⟩,m)=m:=by unfold chE;rw[zn v]
  rw[I]at a;have hf:=a v
  repeat' first|apply wZ;rfl|show Cn _;constructor|exact rfl|apply cL pk;(iterate 6 rfl);rotate_left;rfl;(intro hw;rfl);(intro hw;apply d<;>omega);(intro _;rfl);rfl|apply A|show(_:PV)=_;(rw[hf]);done|apply wY;rfl|omega|intro h;simp at h
theorem akM(hl:rows.length<1000000000000000)(hx:t.foreign.length<1000000000000000)(C:∀f∈t.foreign,0<=f.col/\∀r∈rows,f.col<r.length){n:Nat}(hb:BsS n b)(hn:n<=1000):PF Tryz.prog 67 [.agg (oB t rows b)] (vi (if abF b t rows=false then 10 else 0)):=by
 have u:(∀j (h:j<t.foreign.length),(rows.all λr=> !decide (r[t.foreign[j].col.toNat]!.kind=1)||(cB (aF b t.foreign[j].table) r[t.foreign[j].col.toNat]!.n).isSome)=true)->abF b t rows=true:=λh=>by
  unfold abF
  rw[zal]
  intro f hf
  obtain⟨j,hj,rfl⟩:=zgo hf
  exact h j hj
 have k:∀j (h:j<t.foreign.length),(rows.all λr=> !decide (r[t.foreign[j].col.toNat]!.kind=1)||(cB (aF b t.foreign[j].table) r[t.foreign[j].col.toNat]!.n).isSome)=false->abF b t rows=false:=λj hj h=>by
  unfold abF
  rw[<-Bool.not_eq_true,zal]
  intro q
  rw[q _ (zgm hj)]at h;cases h
 generalize abF b t rows=B at*;refine pF Tryz.func67 rfl λst=>?_
 focus(repeat' first|apply wZ;rfl|show Cn _;constructor)
 refine aC (X:={x:Nat//x<=t.foreign.length/\∀j (h:j<t.foreign.length),j<x->(rows.all λr=> !decide (r[t.foreign[j].col.toNat]!.kind=1)||(cB (aF b t.foreign[j].table) r[t.foreign[j].col.toNat]!.n).isSome)=true}) (λi=>(((((St.nil 51 st).var 1 136 (oB t rows b)).pv 11 (.seq (t.foreign.map Fr.cells))).pv 12 (vi ((t.foreign.map Fr.cells).length:Nat))).pv 13 (vi (i.1:Nat)))) (λi=>t.foreign.length-i.1) ⟨0,by omega,by omega⟩ ?_ λi=>?_
 ·repeat' first|show Cn _;constructor|exact rfl
 obtain⟨i,hi,E⟩:=i;dsimp only;by_cases F:t.foreign.length<=i
 ·have e:B=true:=u λj hj=>E j hj (by omega)
  repeat' first|apply wZ;rfl|show Cn _;constructor|exact rfl|show(_:PV)=_;(rw[e];rfl);done|simp only[zql];omega|intro h;simp at h
 have o:i<t.foreign.length:=by omega
 obtain⟨I,z⟩:=C _ (zgm o);have k:=k i o;have D:(rows.all λr=> !decide (r[t.foreign[i].col.toNat]!.kind=1)||(cB (aF b t.foreign[i].table) r[t.foreign[i].col.toNat]!.n).isSome)=true->∀j (h:j<t.foreign.length),j<i+1->(rows.all λr=> !decide (r[t.foreign[j].col.toNat]!.kind=1)||(cB (aF b t.foreign[j].table) r[t.foreign[j].col.toNat]!.n).isSome)=true:=λh j hj g=>by
  rcases zls.1 g with q|q
  ·exact E j hj q
  ·subst q;exact h
 focus(repeat' first|apply wZ;rfl|show Cn _;constructor|exact rfl|apply wI;rfl|apply gE;omega|simp only[zql];omega|intro h;simp at h)
 refine aC (X:={x:Nat//x<=rows.length/\∀j (h:j<rows.length),j<x->(!decide (rows[j][t.foreign[i].col.toNat]!.kind=1)||(cB (aF b t.foreign[i].table) rows[j][t.foreign[i].col.toNat]!.n).isSome)=true}) (λy=>(((((((((St.nil 51 st).var 1 136 (oB t rows b)).var 4 111 (t.foreign[i].cells)).pv 11 (.seq (t.foreign.map Fr.cells))).pv 12 (vi ((t.foreign.map Fr.cells).length:Nat))).pv 13 (vi (i:Nat))).pv 18 (.seq (rows.map roC))).pv 19 (vi ((rows.map roC).length:Nat))).pv 20 (vi (y.1:Nat)))) (λy=>rows.length-y.1) ⟨0,by omega,by omega⟩ ?_ λy=>?_
 ·repeat' first|show Cn _;constructor|exact rfl
 obtain⟨y,hy,s⟩:=y;dsimp only;by_cases w:rows.length<=y
 ·have hw:=D (by
   rw[zal];intro r C;obtain⟨j,hj,rfl⟩:=zgo C;exact s j hj (by omega))
  repeat' first|refine⟨⟨i+1,by omega,hw⟩,?_,?_⟩|apply wZ;rfl|show Cn _;constructor|exact rfl|omega|simp only[zql];omega|intro h;simp at h
 have v:y<rows.length:=by omega
 have H:=z _ (zgm v);have l:=zB hb hn t.foreign[i].table rows[y][t.foreign[i].col.toNat]!.n;have d:(!decide (rows[y][t.foreign[i].col.toNat]!.kind=1)||(cB (aF b t.foreign[i].table) rows[y][t.foreign[i].col.toNat]!.n).isSome)=false->B=false:=λh=>k (by
  rw[<-Bool.not_eq_true,zal]
  intro q
  rw[q _ (zgm v)]at h;cases h)
 have c:(!decide (rows[y][t.foreign[i].col.toNat]!.kind=1)||(cB (aF b t.foreign[i].table) rows[y][t.foreign[i].col.toNat]!.n).isSome)=true->∀j (h:j<rows.length),j<y+1->(!decide (rows[j][t.foreign[i].col.toNat]!.kind=1)||(cB (aF b t.foreign[i].table) rows[j][t.foreign[i].col.toNat]!.n).isSome)=true:=λh j hj g=>by
  rcases zls.1 g with q|q
  ·exact s j hj q
  ·subst q;exact h
 have a:t.foreign[i].col=((t.foreign[i].col.toNat:Nat):Int):=by omega
 have A:t.foreign[i].col.toNat<rows[y].length:=by omega
 have m:=getElem!_pos rows[y] t.foreign[i].col.toNat A;rw[m]at l d c;clear m;generalize(cB (aF b t.foreign[i].table) rows[y][t.foreign[i].col.toNat].n).isSome=G at*;cases G<;>by_cases p:rows[y][t.foreign[i].col.toNat].kind=1
 ·have e:B=false:=d (by simp[p])
  repeat' first|apply iX;(intro hw;exact a);(apply gE;omega);rfl|apply wZ;rfl|show Cn _;constructor|exact rfl|apply KR.mk;kernel_rfl|apply l|show(_:PV)=_;(rw[e];rfl);done|apply wY;rfl|apply wI;rfl|apply gE;omega|simp only[zql];omega|intro h;simp at h;omega|intro h;simp at h
 ·have hw:=c (by simp[p])
  repeat' first|apply iX;(intro hw;exact a);(apply gE;omega);rfl|refine⟨⟨y+1,by omega,hw⟩,?_,?_⟩|apply wZ;rfl|show Cn _;constructor|exact rfl|apply KR.mk;kernel_rfl|apply l|apply wY;rfl|apply wI;rfl|apply gE;omega|omega|simp only[zql];omega|intro h;simp at h;omega|intro h;simp at h
 ·have hw:=c (by simp)
  repeat' first|apply iX;(intro hw;exact a);(apply gE;omega);rfl|refine⟨⟨y+1,by omega,hw⟩,?_,?_⟩|apply wZ;rfl|show Cn _;constructor|exact rfl|apply KR.mk;kernel_rfl|apply l|apply wY;rfl|apply wI;rfl|apply gE;omega|omega|simp only[zql];omega|intro h;simp at h;done|intro h;simp at h
 ·have hw:=c (by simp)
  repeat' first|apply iX;(intro hw;exact a);(apply gE;omega);rfl|refine⟨⟨y+1,by omega,hw⟩,?_,?_⟩|apply wZ;rfl|show Cn _;constructor|exact rfl|apply KR.mk;kernel_rfl|apply l|apply wY;rfl|apply wI;rfl|apply gE;omega|omega|simp only[zql];omega|intro h;simp at h;done|intro h;simp at h
end
section
attribute [local irreducible] Ev PWp
set_option maxRecDepth 10000
set_option maxHeartbeats 4000000
structure TotOK (m:Su) (rows:List (List Vl)):Prop where
 len:rows.length<=2000
 c0:0<=m.col
 b0:0<=m.by_
 cl:∀r∈rows,m.col<r.length/\m.by_<r.length
 num:∀r∈rows,(-1099511627776<=r[m.col.toNat]!.n/\r[m.col.toNat]!.n<=1099511627776)/\(r[m.col.toNat]!.kind≠1->r[m.col.toNat]!.n=0)
theorem TotOK.ns{m:Su}{rows:List (List Vl)}(h:TotOK m rows):aDh m rows:=λr a=>(h.num r a).2
theorem sI{m:Su}{g:Int}:∀{rows:List (List Vl)},(∀r∈rows, -1099511627776<=r[m.col.toNat]!.n/\r[m.col.toNat]!.n<=1099511627776)-> -1099511627776*(rows.length:Int)<=jL m g rows/\jL m g rows<=1099511627776*(rows.length:Int)
 |[],_=>by simp[jL]
 |r::rows,h=>by
  have a:=sI (m:=m) (g:=g) (rows:=rows) λx hx=>h x (List.mem_cons_of_mem _ hx)
  have h0:=h r (List.mem_cons_self ..)
  rw[amJ]
  have: -1099511627776<=amO m g r/\amO m g r<=1099511627776:=by
   unfold amO;split
   ·exact h0
   ·omega
  simp only[zlc]
  omega
theorem aFq{m:Su}{rows:List (List Vl)}(h:aDh m rows)(g:Int):(cC g (mX m rows)).getD 0=jL m g rows:=by
 have:=akX g [] h;simp only[cC,Option.getD_none,Int.zero_add]at this;exact this
theorem aFJ{m:Su}{rows:List (List Vl)}{k:Nat}(h:k<rows.length):sZ m (rows.take (k+1))=(sZ m (rows.take k)&&decide (rows[k][m.col.toNat]!.n>=0)):=by
 unfold sZ;rw[List.take_succ_eq_append_getElem h,List.all_append];simp
theorem zT(m:Su)(rows:List (List Vl))(h:TotOK m rows):PF Tryz.prog 36 [.agg m.cells, .seq (rows.map roC)] (.tup [.fmap (aV Ie mU (mX m rows)),vb (sZ m rows)]):=by
 have A:=h.len;refine pF Tryz.func36 rfl λst=>?_
 focus(repeat' first|apply mkM (enc:=Ie) (f:=mU);rfl;intro id p|apply wZ;rfl|show Cn _;constructor)
 have q:st id=none:=p;clear p;refine aC (X:={x:Nat//x<=rows.length}) (λi=>(((((((St.nil 52 (upd st id (some (.map (aV Ie mU (mX m (rows.take i.1))))))).var 2 74 (m.cells)).pv 6 (.mref id)).pv 7 (vb (sZ m (rows.take i.1)))).pv 11 (.seq (rows.map roC))).pv 12 (vi ((rows.map roC).length:Nat))).pv 13 (vi (i.1:Nat)))) (λi=>rows.length-i.1) ⟨0,by omega⟩ ?_ λi=>?_
 ·repeat' first|show Cn (.t _ _);exact Cn.t0|show Cn _;constructor|exact rfl
 obtain⟨i,hi⟩:=i;dsimp only;by_cases o:rows.length<=i
 ·rw[ztl o]
  repeat' first|apply jW 4;rfl;exact aA _ _ _|exact Cn.any ⟨_,_,st,rfl,zwr _,rW q,rfl,rfl⟩|apply wZ;rfl|show Cn _;constructor|simp only[zql];omega|intro h;simp at h
 have c:i<rows.length:=by omega
 obtain⟨c1,c2⟩:=h.cl _ (zgm c);have C:=h.c0;have B:=h.b0;have H:=(h.num _ (zgm c)).1;have w:aDh m (rows.take i):=λr y=>h.ns r (List.mem_of_mem_take y);have hg:=aFq w rows[i][m.by_.toNat]!.n;have e:=sI (m:=m) (g:=rows[i][m.by_.toNat]!.n) (rows:=rows.take i) λr y=>(h.num r (List.mem_of_mem_take y)).1;have D:(rows.take i).length<=2000:=by rw[zlt];omega
 have a:=aGh m c;have d:=aFJ (m:=m) c;have l:m.col=((m.col.toNat:Nat):Int):=by omega
 have j:m.by_=((m.by_.toNat:Nat):Int):=by omega
 have E:m.col.toNat<rows[i].length:=by omega
 have F:m.by_.toNat<rows[i].length:=by omega
 rw[hg]at a;have s:=getElem!_pos rows[i] m.col.toNat E;have u:=getElem!_pos rows[i] m.by_.toNat F;rw[u]at hg e;rw[s,u]at a;rw[s]at d H;clear s u;generalize mX m (rows.take i)=M at*;generalize sZ m (rows.take i)=G at*;generalize jL m rows[i][m.by_.toNat].n (rows.take i)=T at*;have t1: -2199023255552000<=T:=by omega
 have t2:T<=2199023255552000:=by omega
 clear e;by_cases hk:rows[i][m.by_.toNat].kind=1
 ·rw[zp hk]at a
  repeat' first|apply wD pk [15] [7];kernel_rfl;rfl;rfl|apply iX;(intro hw;exact(by first|exact l|exact j));(apply gE;omega);rfl|refine⟨⟨i+1,by omega⟩,?_,?_⟩;(dsimp only;rw[a,d])|show Cn (.t _ _);exact .any (cN (by((simp only[St.pv,St.put,St.sst,St.setv,St.nil,St.var,eI]);(done))))|apply wZ;rfl|show Cn _;constructor|exact rfl|apply lkD pk xV (f:=mU) (z:=0) (k:=rows[i][m.by_.toNat].n) (n:=T);(iterate 5 rfl);rotate_left;rfl;exact aA _ _ _;rfl;exact hg|apply muA pk xV (f:=mU) (k:=rows[i][m.by_.toNat].n) (v:=T+rows[i][m.col.toNat].n);(exact .inr rfl);(iterate 5 rfl);exact aA _ _ _;rfl|apply wI;rfl|apply gE;omega|omega|simp only[zql];omega|intro h;simp at h|intro h
 ·rw[zn hk]at a
  repeat' first|apply iX;(intro hw;exact(by first|exact l|exact j));(apply gE;omega);rfl|refine⟨⟨i+1,by omega⟩,?_,?_⟩;(dsimp only;rw[a,d])|show Cn (.t _ _);exact Cn.t0|apply wZ;rfl|show Cn _;constructor|exact rfl|apply wI;rfl|apply gE;omega|omega|simp only[zql];omega|intro h;simp at h|intro h
theorem vA{α β:Type}(f:α->β):∀(l:List α)(i:Nat),(l.map f).eraseIdx i=(l.eraseIdx i).map f
 |[],_=>rfl
 |_::_,0=>rfl
 |a::l,i+1=>by simp only[zmp,List.eraseIdx_cons_succ,vA f l i]
theorem aAT(es:List (Int×Int))(i:Nat):(aV Ie mU es).eraseIdx i=aV Ie mU (es.eraseIdx i):=by unfold aV;rw[vA]
theorem aHs{es:List (Int×Int)}{i:Nat}{e:Value×PV}(h:(aV Ie mU es)[i]?=some e):∃x,es[i]?=some x/\e=(Ie x.1,mU x.2):=by
 unfold aV at h;rw[List.getElem?_map]at h;cases hx:es[i]? with
 |none=>rw[hx]at h;cases h
 |some x=>rw[hx]at h;exact⟨x,rfl,(Option.some.inj h).symm⟩
theorem ayO{es:List (Int×Int)}(h:aV Ie mU es=[]):es=[]:=by cases es with
 |nil=>rfl
 |cons x l=>cases h
theorem ahP{α:Type}{p:α->Bool}:∀{l:List α}{i:Nat}{x:α},l[i]?=some x->l.all p=(p x&&(l.eraseIdx i).all p)
 |[],_,_,h=>by simp at h
 |a::l,0,x,h=>by simp at h;subst h;rfl
 |a::l,i+1,x,h=>by
  simp only[List.getElem?_cons_succ]at h
  rw[List.eraseIdx_cons_succ,List.all_cons,List.all_cons,ahP h]
  cases p a<;>cases p x<;>simp
theorem aHe(x:Int)(g:G):Rep g (vi x) (Ie x):=by unfold Rep;rfl
theorem asE(t:Tb)(rows:List (List Vl))(b:Bs)(hx:t.sums.length<1000000000000000)(hT:∀m∈t.sums,TotOK m rows):PF Tryz.prog 68 [.agg (oB t rows b)] (vi (if adA t rows=false then 11 else 0)):=by
 have u:(∀j (h:j<t.sums.length),(sZ t.sums[j] rows&&(mX t.sums[j] rows).all λe=>decide (e.2<=t.sums[j].max))=true)->adA t rows=true:=λh=>by
  unfold adA
  rw[zal]
  intro m hm
  obtain⟨j,hj,rfl⟩:=zgo hm
  rw[<-aAf (hT _ hm).ns];exact h j hj
 have f:∀j (h:j<t.sums.length),(sZ t.sums[j] rows&&(mX t.sums[j] rows).all λe=>decide (e.2<=t.sums[j].max))=false->adA t rows=false:=λj hj h=>by
  unfold adA
  rw[<-Bool.not_eq_true,zal]
  intro q
  have:=q _ (zgm hj)
  rw[<-aAf (hT _ (zgm hj)).ns,h]at this;cases this
 generalize adA t rows=B at*;refine pF Tryz.func68 rfl λst=>?_
 focus(repeat' first|apply wZ;rfl|show Cn _;constructor)
 refine aC (X:={x:Nat//x<=t.sums.length/\∀j (h:j<t.sums.length),j<x->(sZ t.sums[j] rows&&(mX t.sums[j] rows).all λe=>decide (e.2<=t.sums[j].max))=true}) (λi=>(((((St.nil 40 st).var 1 136 (oB t rows b)).pv 11 (.seq (t.sums.map Su.cells))).pv 12 (vi ((t.sums.map Su.cells).length:Nat))).pv 13 (vi (i.1:Nat)))) (λi=>t.sums.length-i.1) ⟨0,by omega,by omega⟩ ?_ λi=>?_
 ·repeat' first|show Cn _;constructor|exact rfl
 obtain⟨i,hi,F⟩:=i;dsimp only;by_cases H:t.sums.length<=i
 ·have e:B=true:=u λj hj=>F j hj (by omega)
  repeat' first|apply wZ;rfl|show Cn _;constructor|exact rfl|show(_:PV)=_;(rw[e];rfl);done|simp only[zql];omega|intro h;simp at h
 have n:i<t.sums.length:=by omega
 have D:=zT t.sums[i] rows (hT _ (zgm n));have f:=f i n;have r:(sZ t.sums[i] rows&&(mX t.sums[i] rows).all λe=>decide (e.2<=t.sums[i].max))=true->∀j (h:j<t.sums.length),j<i+1->(sZ t.sums[j] rows&&(mX t.sums[j] rows).all λe=>decide (e.2<=t.sums[j].max))=true:=λh j hj z=>by
  rcases zls.1 z with q|q
  ·exact F j hj q
  ·subst q;exact h
 generalize mX t.sums[i] rows=M at*;generalize sZ t.sums[i] rows=G at*
 focus(repeat' first|apply aFk pk;(iterate 5 rfl);intro E o|apply wZ;rfl|show Cn _;constructor|exact rfl|apply D|apply wY;rfl|apply wI;rfl|apply gE;omega|simp only[zql];omega|intro h;simp at h)
 have c:st E=none:=o;clear o;refine aC (X:={x:List (Int×Int)×Bool×Option (Value×PV)//(G&&M.all λe=>decide (e.2<=t.sums[i].max))=(x.2.1&&x.1.all λe=>decide (e.2<=t.sums[i].max))}) (λy=>((((((((St.nil 40 (upd st E (some (.iter y.1.2.2 (aV Ie mU y.1.1))))).var 1 136 (oB t rows b)).var 4 74 (t.sums[i].cells)).pv 6 (vb y.1.2.1)).pv 11 (.seq (t.sums.map Su.cells))).pv 12 (vi ((t.sums.map Su.cells).length:Nat))).pv 13 (vi (i:Nat))).pv 25 (.ref E 0))) (λy=>y.1.1.length) ⟨(M,G,none),rfl⟩ ?_ λy=>?_
 ·repeat' first|show Cn (.t _ _);exact Cn.t0|show Cn _;constructor|exact rfl
 obtain⟨⟨a,g,cur⟩,d⟩:=y;dsimp only at d;dsimp only;have k:aV Ie mU a=[]->g=true->∀j (h:j<t.sums.length),j<i+1->(sZ t.sums[j] rows&&(mX t.sums[j] rows).all λe=>decide (e.2<=t.sums[j].max))=true:=λv w=>r (by
  obtain rfl:=ayO v
  rw[d,w];rfl)
 have l:aV Ie mU a=[]->g=false->B=false:=λv w=>f (by
  obtain rfl:=ayO v
  rw[d,w];rfl)
 have p:∀{j:Nat}{x:Int×Int},a[j]?=some x->(a.eraseIdx j).length<a.length:=fun{j x} hx=>by
  have:=(zge.1 hx).1
  rw[List.length_eraseIdx_of_lt this];omega
 have C:∀{j:Nat}{x:Int×Int},a[j]?=some x->(G&&M.all λe=>decide (e.2<=t.sums[i].max))=((g&&decide (x.2<=t.sums[i].max))&&(a.eraseIdx j).all λe=>decide (e.2<=t.sums[i].max)):=fun{j x} hx=>by
  rw[d,ahP hx,Bool.and_assoc]
 clear r f d
 repeat' first|exact Cn.any ⟨_,_,st,rfl,zwr _,(by first|exact pL c|exact rW c),(by rw[l ‹_› ‹_›];rfl),rfl⟩|((refine⟨⟨i+1,by omega,k ‹_› ‹_›⟩,?_,by simp only;omega⟩);focus((repeat' first|show Cn (.s _ (St.nil _ _));refine .any ?_;exact Sub.nil _ _ _ (by first|exact rW c|exact pL c) rfl|show Cn _;constructor|exact rfl);done))|((refine⟨⟨(a.eraseIdx j,g&&decide (x.2<=t.sums[i].max),some (Ie x.1,mU x.2)),C hx⟩,?_,by simp only;omega⟩);(dsimp only);focus((repeat' first|show Cn (.t _ _);exact .any (cN (by((simp only[St.pv,St.put,St.sst,St.setv,St.nil,St.var,eI]);(done))))|show Cn _;constructor|exact rfl);done))|apply wZ;rfl|show Cn _;constructor|apply aH9;rfl;exact aA _ _ _;rfl;rfl;rfl;intro A;rotate_left;intro j e I;obtain⟨x,hx,rfl⟩:=aHs I;rw[aAT];have J:=p hx;rotate_left|apply aEE;rfl;rfl;exact aA _ _ _;exact aHe x.1;rotate_left;rfl;rfl|omega|intro h
end
end Go.Proofs.YtnogfoojjaainaaGreatDoor
namespace Go.Proofs.YtnogfoojjaainaaGreatDoor
open Go Go.Abs
attribute [local irreducible] Ev PWp
namespace X
set_option maxRecDepth 10000
set_option maxHeartbeats 4000000
theorem avE(c:Co):PF Tryz.prog 176 [.agg c.cells] (vi (bS c)):=by
 unfold bS;refine pF Tryz.func176 rfl λst=>?_
 repeat' first|apply wZ;rfl|show Cn _;constructor|exact rfl|show(_:PV)=_;(simp[*];done);done|omega|intro h
theorem Right_spec{e:Ex}(m:e.ok)(cols:List Co)(hl:cols.length<10000000000):PF Tryz.prog 111 [.agg e.cells, .seq (cols.map Co.cells)] (vi (RightR e (cols.map bS))):=by
 have hT:=aAr m (l:=cols.map bS) (by rw[zql];omega);have c:RightR e (cols.map bS)=if(fL e (cols.map bS)).2=0 then(if(fL e (cols.map bS)).1=2 then 6 else 0)else(fL e (cols.map bS)).2:=rfl
 generalize fL e (cols.map bS)=T at*;generalize RightR e (cols.map bS)=R at*;unfold gU at hT;obtain⟨k,n,v,of⟩:=e;obtain⟨q,T2⟩:=T;dsimp only at*;refine pF Tryz.func111 rfl λst=>?_
 focus(repeat' first|apply wZ;rfl|show Cn _;constructor)
 refine vP 5 3 rfl rfl λid a=>?_;have a:st id=none:=a;refine aC (X:={x:Nat×Nat//x.1<=cols.length/\st x.2=none}) (λi=>((((((St.nil 35 (upd st i.1.2 (some (.tok 3)))).var 2 62 ((Ex.mk k n v of).cells)).pv 5 (.own i.1.2 (((cols.take i.1.1).map bS).map I1))).pv 10 (.seq (cols.map Co.cells))).pv 11 (vi ((cols.map Co.cells).length:Nat))).pv 12 (vi (i.1.1:Nat)))) (λi=>cols.length-i.1.1) ⟨(0,id),by simp,a⟩ ?_ λi=>?_
 ·repeat' first|show Cn (.t _ _);exact Cn.t0|show Cn _;constructor|exact rfl
 obtain⟨⟨i,id⟩,hi,a⟩:=i;simp only at hi a;dsimp only;by_cases d:cols.length<=i
 ·rw[ztl d]
  by_cases h0:T2=0<;>by_cases p:q=2
  ·rw[zp h0,zp p]at c
   subst c
   repeat' first|apply cV;focus((apply hT);done)|show Cn (.e _ _ _ _);refine .any ?_;(refine⟨_,_,_,rfl,zwr _,bK ‹_›,?_,rfl⟩;(rfl))|apply wZ;rfl|show Cn _;constructor|apply wY;rfl|simp only[zql];omega|intro h;simp at h;omega|intro h;simp at h
  ·rw[zp h0,zn p]at c
   subst c;subst h0
   repeat' first|apply cV;focus((apply hT);done)|show Cn (.e _ _ _ _);refine .any ?_;(refine⟨_,_,_,rfl,zwr _,bK ‹_›,?_,rfl⟩;(rfl))|apply wZ;rfl|show Cn _;constructor|apply wY;rfl|omega|simp only[zql];omega|intro h;simp at h|intro h
  ·rw[zn h0]at c
   subst c
   repeat' first|apply cV;focus((apply hT);done)|show Cn (.e _ _ _ _);refine .any ?_;(refine⟨_,_,_,rfl,zwr _,bK ‹_›,?_,rfl⟩;(rfl))|apply wZ;rfl|show Cn _;constructor|apply wY;rfl|simp only[zql];omega|intro h;simp at h;omega|intro h;simp at h
  ·rw[zn h0]at c
   subst c
   repeat' first|apply cV;focus((apply hT);done)|show Cn (.e _ _ _ _);refine .any ?_;(refine⟨_,_,_,rfl,zwr _,bK ‹_›,?_,rfl⟩;(rfl))|apply wZ;rfl|show Cn _;constructor|apply wY;rfl|simp only[zql];omega|intro h;simp at h;omega|intro h;simp at h
 have j:i<cols.length:=by omega
 have hs:=avE cols[i];have g:((cols.take (i+1)).map bS).map I1=((cols.take i).map bS).map I1++[I1 (bS cols[i])]:=by rw[List.take_succ_eq_append_getElem j,List.map_append,List.map_append];rfl
 have r:((cols.take i).map bS).length<=i:=by rw[zql];exact List.length_take_le ..
 generalize bS cols[i]=K at*
 repeat' first|refine⟨⟨(i+1,o),by simp only;omega,gX f⟩,?_,?_⟩;(dsimp only;rw[g])|show Cn (.t _ _);exact .any (bI ‹_›)|apply wZ;rfl|show Cn _;constructor|exact rfl|apply hs|show _=_;(simp[I1];done)|apply apS pk (K) 8;(iterate 8 rfl);exact aA _ _ _;exactλ_=>rfl;exactλ_=>rfl;exact kQ;(omega);(omega);rfl;intro o f|apply wY;rfl|apply wI;rfl|apply gE;omega|omega|simp only[zql];omega|intro h;simp at h
end X
theorem apA(s:Sc)(hl:s.length<200000000000000)(A:∀t∈s,TbB t)(hT:∀t∈s,tM t)(hc:∀t∈s,t.cols.length<10000000000):PF Tryz.prog 60 [.agg (scC s)] (vi (rightC s)):=by
 have z:=zR s hl A;by_cases h0:¬bT s=0
 ·have e:rightC s=bT s:=by unfold rightC;rw[zn h0]
  rw[e];generalize bT s=R at*;refine pF Tryz.func60 rfl λst=>?_
  repeat' first|apply wZ;rfl|show Cn _;constructor|exact rfl|apply z|apply wY;rfl|omega|intro h
 replace h0:=zdn h0
 have e:rightC s=eE rightX s:=by unfold rightC;rw[zp h0]
 rw[e];rw[h0]at z;clear e h0;refine pF Tryz.func60 rfl λst=>?_
 focus(repeat' first|apply wZ;rfl|show Cn _;constructor|apply z|apply wY;rfl)
 refine aC (X:={x:Nat//x<=s.length/\∀j (h:j<s.length),j<x->rightX s[j]=0}) (λi=>((((St.nil 37 st).pv 15 (.seq (s.map Tb.cells))).pv 16 (vi ((s.map Tb.cells).length:Nat))).pv 17 (vi (i.1:Nat)))) (λi=>s.length-i.1) ⟨0,by omega,by omega⟩ ?_ λi=>?_
 ·repeat' first|show Cn _;constructor|exact rfl
 obtain⟨i,hi,o⟩:=i;dsimp only;by_cases C:s.length<=i
 ·have e:eE rightX s=0:=jS λj hj=>o j hj (by omega)
  repeat' first|apply wZ;rfl|show Cn _;constructor|exact rfl|show(_:PV)=_;(rw[e]);done|simp only[zql];omega|intro h;simp at h
 have a:i<s.length:=by omega
 have hk:=hT _ (zgm a);have r:=hc _ (zgm a);have E:=(A _ (zgm a)).k;have e:=oM o a;have hu:=oF o a
 focus(repeat' first|apply wZ;rfl|show Cn _;constructor|exact rfl|apply wI;rfl|apply gE;omega|simp only[zql];omega|intro h;simp at h)
 refine aC (X:={x:Nat//x<=s[i].checks.length/\∀j (h:j<s[i].checks.length),j<x->X.RightR (exOf s[i].checks[j]) (s[i].cols.map bS)=0}) (λy=>((((((((St.nil 37 st).var 5 57 (s[i].cells)).pv 15 (.seq (s.map Tb.cells))).pv 16 (vi ((s.map Tb.cells).length:Nat))).pv 17 (vi (i:Nat))).pv 22 (.seq s[i].checks)).pv 23 (vi (s[i].checks.length:Nat))).pv 24 (vi (y.1:Nat)))) (λy=>s[i].checks.length-y.1) ⟨0,by omega,by omega⟩ ?_ λy=>?_
 ·repeat' first|show Cn _;constructor|exact rfl
 obtain⟨y,hy,l⟩:=y;dsimp only;by_cases v:s[i].checks.length<=y
 ·have D:rightX s[i]=0:=jS λj hj=>l j hj (by omega)
  repeat' first|refine⟨⟨i+1,by omega,hu D⟩,?_,?_⟩|apply wZ;rfl|show Cn _;constructor|exact rfl|omega|simp only[zql];omega|intro h;simp at h
 have d:y<s[i].checks.length:=by omega
 obtain⟨w,q⟩:=abU (hk _ (zgm d));have u:=oM (f:=λc=>X.RightR (exOf c) (s[i].cols.map bS)) l d;have n:=oF (f:=λc=>X.RightR (exOf c) (s[i].cols.map bS)) l d;change X.RightR (exOf s[i].checks[y]) (s[i].cols.map bS)≠0->rightX s[i]=X.RightR (exOf s[i].checks[y]) (s[i].cols.map bS)at u;change X.RightR (exOf s[i].checks[y]) (s[i].cols.map bS)=0->_ at n;have B:=X.Right_spec w s[i].cols r;have g:s[i].checks[y]?=some (exOf s[i].checks[y]).cells:=by rw[q,zgg d]
 generalize X.RightR (exOf s[i].checks[y]) (s[i].cols.map bS)=p at*;generalize exOf s[i].checks[y]=x at*;obtain⟨F,G,I,H⟩:=x;by_cases hp:p=0
 ·repeat' first|refine⟨⟨y+1,by omega,n hp⟩,?_,?_⟩|apply wZ;rfl|show Cn _;constructor|exact rfl|apply cL pk;(iterate 6 rfl);rotate_left;rfl;(intro hw;rfl);(intro hw;apply g<;>omega);(intro _;rfl);rfl|apply B|apply wY;rfl|omega|simp only[zql];omega|intro h;simp at h|intro h
 ·have m:eE rightX s=p:=by rw[e (by rw[u hp];exact hp),u hp]
  repeat' first|apply wZ;rfl|show Cn _;constructor|exact rfl|apply cL pk;(iterate 6 rfl);rotate_left;rfl;(intro hw;rfl);(intro hw;apply g<;>omega);(intro _;rfl);rfl|apply B|show(_:PV)=_;(rw[m]);done|apply wY;rfl|omega|intro h;simp at h|intro h
end Go.Proofs.YtnogfoojjaainaaGreatDoor
namespace Go.Proofs.YtnogfoojjaainaaGreatDoor
open Go Go.Abs
attribute [local irreducible] Ev PWp
set_option maxRecDepth 10000
set_option maxHeartbeats 4000000
def dH(xs:List Vl)(i:Nat)(a:List Vl):List Vl:=xs.take i++a++xs.drop i
theorem apU(xs:List Vl)(i:Nat)(a:List Vl):(dH xs i a).map Vl.cells=(xs.map Vl.cells).take i++a.map Vl.cells++(xs.map Vl.cells).drop i:=by
 unfold dH;rw[List.map_append,List.map_append,List.map_take,List.map_drop]
theorem aaQ{xs:List Vl}{i:Nat}{a:List Vl}(hi:i<=xs.length):(dH xs i a).length=xs.length+a.length:=by
 unfold dH;simp only[zla,zlt,zld];omega
def aJT(st:aD)(id:Nat)(zs:List Vl)(r:PV)(S:aD):Prop:=∃a,r= .vec a 3 0 zs.length/\upd st id none a=none/\S=upd (upd st id none) a (some (.arr 60 (zs.map Vl.cells)))
theorem anZ(xs g:List Vl)(i id n:Nat)(st:aD)(O:st id=some (.arr 60 (xs.map Vl.cells)))(hn:xs.length=n)(hi:i<=n)(hy:g≠[])(hl:n+g.length<1000000000000):PC Tryz.prog 297 [.vec id 3 0 n,vi (i:Nat), .seq (g.map Vl.cells)] st (aJT st id (dH xs i g)):=by
 obtain⟨m,hm⟩:∃m,g.length=m:=⟨_,rfl⟩;have u:(g.map Vl.cells).length=m:=(zql _).trans hm;have V:0<m:=by rw[<-hm];exact List.length_pos_iff.2 hy
 rw[hm]at hl;have x:(dH xs i g).length=n+m:=by rw[aaQ (by omega),hn,hm]
 have G:=apU xs i g;have R:=amD;refine pC Tryz.func297 rfl ?_;by_cases N:i=n
 ·subst N
  have hz:dH xs i g=xs++g:=by unfold dH;rw[ztl (by omega),List.drop_of_length_le (by omega),List.append_nil]
  repeat' first|show Cn (.r _ _ _);refine .rr ?_;(exact⟨Q,(by rw[x,hm]),kH F,(by rw[hz];rfl)⟩);done|apply wZ;rfl|show Cn _;constructor|apply apV pk (f:=Vl.cells) g 32;(iterate 9 rfl);(assumption);(omega);exactλ_=>rfl;exactλ_=>rfl;exact R;(omega);(omega);rfl;intro Q F|apply azI pk i i;(iterate 4 rfl);rotate_left;rfl;(intro _;exact aL rfl rfl);(intro _;exact aX);(intro _;omega);(intro _;omega);rfl|omega|intro h;simp at h
 have U:i<n:=by omega
 have s:(xs.map Vl.cells).length=n:=(zql _).trans hn;have y:∀r∈xs.map Vl.cells,r.all PV.one=true:=λr q=>by obtain⟨a,_,rfl⟩:=List.mem_map.1 q;rfl
 have A:∀r∈xs.map Vl.cells,r.length=3:=λr q=>by obtain⟨a,_,rfl⟩:=List.mem_map.1 q;rfl
 have C:∀r∈g.map Vl.cells,r.all PV.one=true:=λr q=>by obtain⟨a,_,rfl⟩:=List.mem_map.1 q;rfl
 have p:∀r∈g.map Vl.cells,r.length=3:=λr q=>by obtain⟨a,_,rfl⟩:=List.mem_map.1 q;rfl
 have hj:∀k,(xs.map Vl.cells++aT k 3).length=n+k:=λk=>by rw[zla,s];unfold aT;rw[List.length_replicate]
 generalize S:xs.map Vl.cells=X at*;generalize T:g.map Vl.cells=Y at*;have J:Y≠[]:=λe=>by rw[e]at u;simp at u;omega
 obtain⟨yc,Z,yr,I⟩:∃c cs H,Y=(c::cs)::H:=by
  cases B:Y with
  |nil=>exact absurd B J
  |cons a b=>
   cases ha:a with
   |nil=>have:=p a (by rw[B];simp);rw[ha]at this;cases this
   |cons c cs=>exact⟨c,cs,b,rfl⟩
 refine vH 0 m (id:=id) (rows:=X) rfl O sK s (by omega) (by omega) (λk o hk d=>?_) λo d=>?_
 ·have d:st o=none:=d
  have P:(X++aT k 3).take i=X.take i:=List.take_append_of_le_length (by omega);have M:(X.take i++aT (n+m-i) 3).length=n+m:=by rw[zla,zlt];unfold aT;rw[List.length_replicate];omega
  have L:(aQ (X.take i++aT (n+m-i) 3) i Y).length=n+m:=by rw[dM (by omega),M]
  have v:aQ (aQ (X.take i++aT (n+m-i) 3) i Y) (i+m) (X.drop i)=(dH xs i g).map Vl.cells:=by rw[G];rw[<-s];exact vR u (by omega)
  repeat' first|refine Cn.any ⟨_,_,upd (upd st id none) id2 (some (.arr 60 ((dH xs i g).map Vl.cells))),rfl,zwr _,oO (by rw[v]) d,id2,(by rw[x];congr 1;omega),mQ l,rfl⟩|apply wD pk [8] [];kernel_rfl;rfl;rfl|apply wZ;rfl|show Cn _;constructor|refine amT pk (rows:=X++aT k 3) rfl rfl rfl rfl (.inr (aA _ _ _)) (by rw[hj];omega) rfl λc D E=>?_;have K:=E (aA _ _ _);rw[hj]at K|apply aaM pk (j:=i) (rows:=X++aT k 3);(iterate 4 rfl);rotate_left;rfl;rfl;exact .inr (aA _ _ _);(rw[hj];omega);exact aL rfl rfl;(rw[hj];omega)|refine apZ pk (kq:= .i64) (kn:= .i64) (i:=i) (m:=n+m-i) (sz:=3) (rows:=X++aT k 3) 32 rfl (congrArg (λz=>some (PV.val (.int .i64 z))) (show _=((n+m-i:Nat):Int)from by omega)) rfl (by kernel_rfl) rfl rfl rfl rfl (aA _ _ _) (by rw[hj];omega) (by rw[hj];omega) (by rw[hj];omega) R (by omega) (by omega) (by omega) rfl λid2 l=>?_;rw[P];have W:o≠id2:=(λe=>by rw[<-e]at l;have l:=(aA _ _ _).symm.trans l;cases l)|apply eM pk (i) (n+m-i);(iterate 4 rfl);rotate_left;rfl;(intro _;exact⟨_,aL rfl rfl,by omega⟩);(intro _;exact⟨_,aX,by omega⟩);(intro _;omega);(intro _;omega);rfl|apply eM pk (i+m) (n-i);(iterate 4 rfl);rotate_left;rfl;(intro _;exact⟨_,aL rfl (show _=((i+m:Nat):Int)from by omega),by omega⟩);(intro _;exact⟨_,aX,by omega⟩);(intro _;omega);(intro _;omega);rfl|apply eM pk (i) (n-i);(iterate 4 rfl);rotate_left;rfl;(intro _;exact⟨_,aL rfl rfl,by omega⟩);(intro _;exact⟨_,aX,by omega⟩);(intro _;omega);(intro _;omega);rfl|refine kR pk (e:=60) (sz:=3) (rows:=X.take i++aT (n+m-i) 3) (new:=Y) (m:=Y.length) (n:=Y.length) (len:=n+m-i) rfl rfl rfl rfl rfl (aA _ _ _) (by omega) (rS aS rfl rfl rfl p C) rfl p (by omega) (by omega) rfl ?_|refine kR pk (e:=60) (sz:=3) (rows:=aQ (X.take i++aT (n+m-i) 3) i Y) (new:=X.drop i) (m:=n-i) (n:=n-i) (len:=n-i) rfl rfl rfl rfl rfl (aA _ _ _) (by omega) (mP (k:=k) rfl (.inr ((aB ‹_›).trans ((aB ‹_›).trans (aA _ _ _)))) s (by omega) sK y (by omega) (by omega)) (by rw[zld];omega) (λr q=>A r (List.mem_of_mem_drop q)) (by omega) (by omega) rfl ?_|omega|intro h;simp at h|intro h
 ·have d:st o=none:=d
  have L:(aQ (X++aT m 3) (i+m) (X.drop i)).length=n+m:=by rw[dM (by rw[zld,hj];omega),hj]
  have v:aQ (aQ (X++aT m 3) (i+m) (X.drop i)) i Y=(dH xs i g).map Vl.cells:=by rw[G];exact wS u (by omega)
  repeat' first|refine Cn.any ⟨_,_,upd (upd st id none) o (some (.arr 60 ((dH xs i g).map Vl.cells))),rfl,zwr _,oN (by rw[v]),o,(by rw[x]),kH d,rfl⟩|apply wD pk [8] [];kernel_rfl;rfl;rfl|apply wZ;rfl|show Cn _;constructor|apply eM pk (i) (n-i);(iterate 4 rfl);rotate_left;rfl;(intro _;exact⟨_,aL rfl rfl,by omega⟩);(intro _;exact⟨_,aX,by omega⟩);(intro _;omega);(intro _;omega);rfl|apply eM pk (i) (n+m-i);(iterate 4 rfl);rotate_left;rfl;(intro _;exact⟨_,aL rfl rfl,by omega⟩);(intro _;exact⟨_,aX,by omega⟩);(intro _;omega);(intro _;omega);rfl|apply eM pk (i+m) (n-i);(iterate 4 rfl);rotate_left;rfl;(intro _;exact⟨_,aL rfl (show _=((i+m:Nat):Int)from by omega),by omega⟩);(intro _;exact⟨_,aX,by omega⟩);(intro _;omega);(intro _;omega);rfl|refine amT pk (rows:=X++aT m 3) rfl rfl rfl rfl (.inl (aA _ _ _)) (by rw[hj];omega) rfl λc D E=>?_;rw[hj]at D|apply aaM pk (j:=n+m) (rows:=X++aT m 3);(iterate 4 rfl);rotate_left;rfl;rfl;exact .inl (aA _ _ _);(rw[hj];omega);exact aL rfl (show _=((n+m:Nat):Int)from by omega);(rw[hj];omega)|refine ovA pk (w:=true) (tS:=66) (tR:=4) (off:=i+m) (len:=n-i) (e:=60) (sz:=3) (rows:=X++aT m 3) rfl rfl Tryz.func342 (by kernel_rfl) (by kernel_rfl) (by kernel_rfl) (by kernel_rfl) rfl rfl rfl I rfl (.inl (aA _ _ _)) (by rw[hj];omega) sK (by omega) ?_ rfl rfl ?_;rotate_left|refine kR pk (e:=60) (sz:=3) (rows:=X++aT m 3) (new:=X.drop i) (m:=n+m-i) (n:=n-i) (len:=n-i) rfl rfl rfl rfl rfl (aA _ _ _) (by rw[hj];omega) (mP (k:=m) rfl (.inl (aA _ _ _)) s (by omega) sK y (by omega) (by omega)) (by rw[zld];omega) (λr q=>A r (List.mem_of_mem_drop q)) (by omega) (by omega) rfl ?_|refine kR pk (e:=60) (sz:=3) (rows:=aQ (X++aT m 3) (i+m) (X.drop i)) (new:=Y) (m:=Y.length) (n:=Y.length) (len:=n+m-i) rfl rfl rfl rfl rfl (aA _ _ _) (by omega) (rS aS rfl rfl rfl p C) rfl p (by omega) (by omega) rfl ?_|omega|intro h;simp at h|intro h
end Go.Proofs.YtnogfoojjaainaaGreatDoor
