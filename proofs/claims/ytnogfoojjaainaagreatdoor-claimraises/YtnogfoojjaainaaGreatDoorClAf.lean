import Derived.Test.YtnogfoojjaainaaGreatDoorClAc
import Derived.Test.YtnogfoojjaainaaGreatDoorClAe
import Derived.Test.YtnogfoojjaainaaGreatDoorClAd
import Derived.Test.YtnogfoojjaainaaGreatDoorClAa
set_option linter.unusedSimpArgs false
set_option linter.unusedVariables false
namespace Go.Proofs.YtnogfoojjaainaaGreatDoor
open Go Go.Abs
attribute [local irreducible] Ev PWp
set_option maxRecDepth 10000
set_option maxHeartbeats 4000000
def cU(a b:Vl):Bool:=if a.kind≠b.kind then decide (a.kind<b.kind)else if a.n≠b.n then decide (a.n<b.n)else Op.bytesLess a.s.toList b.s.toList
def vZ(a b:Vl):Bool:= !cU a b&& !cU b a
theorem uD(a b:Vl):PF Tryz.prog 295 [.agg a.cells, .agg b.cells] (vb (cU a b)):=by
 unfold cU;refine pF Tryz.func295 rfl λst=>?_
 repeat' first|apply wZ;rfl|show Cn _;constructor|exact rfl|show(_:PV)=_;(simp[*];done);done|intro h
theorem auC(a b:Vl):PF Tryz.prog 296 [.agg a.cells, .agg b.cells] (vb (vZ a b)):=by
 have c:=uD a b;have d:=uD b a;unfold vZ;refine pF Tryz.func296 rfl λst=>?_
 repeat' first|apply wZ;rfl|show Cn _;constructor|exact rfl|(first|apply c|apply d)|apply wY;rfl
def atV(o:List Vl)(v:Vl):Nat:=(o.findIdx? λx=> !cU x v).getD o.length
def abD(o:List Vl)(v:Vl):List Vl:=if atV o v<o.length/\vZ o[atV o v]! v=true then o else dH o (atV o v) [v]
def fT(l:List Pt):List Vl:=l.foldl (λo p=>abD o p.val) []
theorem aEx(o:List Vl)(v:Vl):atV o v<=o.length:=by
 unfold atV;cases h:o.findIdx? λx=> !cU x v with
 |none=>exact Nat.le_refl _
 |some k=>exact Nat.le_of_lt (List.findIdx?_eq_some_iff_getElem.1 h).1
theorem aC6{o:List Vl}{v:Vl}{a:Nat}(ha:a<=o.length)(c:∀j (h:j<o.length),j<a->cU o[j] v=true)(d:∀h:a<o.length,cU o[a] v=false):atV o v=a:=by
 unfold atV;rcases Nat.lt_or_ge a o.length with h|h
 ·rw[List.findIdx?_eq_some_iff_getElem.2 ⟨h,by rw[d h];rfl,λj hj=>by rw[c j (by omega) hj];simp⟩];rfl
 ·rw[List.findIdx?_eq_none_iff.2 λx hx=>by
   obtain⟨j,hj,rfl⟩:=zgo hx;rw[c j hj (by omega)];rfl]
  show o.length=a;omega
theorem aE9(o:List Vl)(v:Vl):(abD o v).length<=o.length+1:=by
 unfold abD;split
 ·omega
 ·rw[aaQ (aEx o v)];exact Nat.le_refl _
theorem alD{l:List Pt}{i:Nat}(h:i<l.length):fT (l.take (i+1))=abD (fT (l.take i)) l[i].val:=by
 unfold fT;rw[List.take_succ_eq_append_getElem h,List.foldl_append];rfl
theorem arF(l:List Pt):(fT l).length<=l.length:=by
 have key:∀i,i<=l.length->(fT (l.take i)).length<=i:=by
  intro i
  induction i with
  |zero=>intro _;simp[fT]
  |succ i ih=>
   intro h;rw[alD (by omega)];have:=aE9 (fT (l.take i)) l[i].val;have:=ih (by omega);omega
 have:=key l.length (Nat.le_refl _);rwa[List.take_length]at this
theorem aGb(c:Cl)(hl:c.parts.length<1000000000)(st:aD):PC Tryz.prog 230 [.agg c.cells] st λr S=>∃id,r= .vec id 3 0 (fT c.parts).length/\st id=none/\S=upd st id (some (.arr 60 ((fT c.parts).map Vl.cells))):=by
 refine pC Tryz.func230 rfl ?_
 focus(repeat' first|apply wZ;rfl|show Cn _;constructor)
 refine eC 3 60 3 rfl rfl rfl λid k=>?_;refine aC (X:={x:Nat×Nat×List Vl//x.1<=c.parts.length/\st x.2.1=none/\x.2.2=fT (c.parts.take x.1)}) (λi=>(((((St.nil 51 (upd st i.1.2.1 (some (.arr 60 (i.1.2.2.map Vl.cells))))).pv 3 (.vec i.1.2.1 3 0 i.1.2.2.length)).pv 8 (.seq (c.parts.map Pt.cells))).pv 9 (vi ((c.parts.map Pt.cells).length:Nat))).pv 10 (vi (i.1.1:Nat)))) (λi=>c.parts.length-i.1.1) ⟨(0,id,[]),by simp,k,rfl⟩ ?_ λi=>?_
 ·dsimp only
  repeat' first|show Cn (.t _ _);exact Cn.t0|show Cn _;constructor|exact rfl
 obtain⟨⟨i,id,o⟩,hi,k,ho⟩:=i;simp only at hi k ho;dsimp only;have G:o.length<=i:=by rw[ho];have:=arF (c.parts.take i);rw[zlt]at this;omega
 by_cases p:c.parts.length<=i;have e:o=fT c.parts:=by rw[ho,ztl p]
 subst e
 focus(repeat' first|show Cn (.r _ _ _);refine .rr ?_;(exact⟨id,rfl,k,rfl⟩);done|apply wZ;rfl|show Cn _;constructor|simp only[zql];omega|intro h;simp at h)
 have D:i<c.parts.length:=by omega
 have hu:=alD D;rw[<-ho]at hu
 focus(repeat' first|apply wZ;rfl|show Cn _;constructor|exact rfl|apply wI;rfl|apply gE;omega|simp only[zql];omega|intro h;simp at h)
 refine aC (X:={x:Nat//x<=o.length/\∀j (h:j<o.length),j<x->cU o[j] c.parts[i].val=true}) (λy=>(((((((St.nil 51 (upd st id (some (.arr 60 (o.map Vl.cells))))).pv 3 (.vec id 3 0 o.length)).var 5 177 (c.parts[i].cells)).pv 6 (vi (y.1:Nat))).pv 8 (.seq (c.parts.map Pt.cells))).pv 9 (vi ((c.parts.map Pt.cells).length:Nat))).pv 10 (vi (i:Nat)))) (λy=>o.length-y.1) ⟨0,by omega,by omega⟩ ?_ λy=>?_
 ·repeat' first|show Cn (.t _ _);exact Cn.t0|show Cn _;constructor|exact rfl
 obtain⟨a,ha,A⟩:=y;dsimp only;by_cases l:a<o.length;have u:o.toArray[a]! =o[a]:=by rw[getElem!_pos o.toArray a (by simpa using l)];simp
 have d:=uD o.toArray[a]! c.parts[i].val;have g:=auC o.toArray[a]! c.parts[i].val;have F:cU o[a] c.parts[i].val=true->∀j (h:j<o.length),j<a+1->cU o[j] c.parts[i].val=true:=λh j hj E=>by
  rcases zls.1 E with q|q
  ·exact A j hj q
  ·subst q;exact h
 have C:=λh:cU o[a] c.parts[i].val=false=>aC6 (v:=c.parts[i].val) ha A λ_=>h;have f:abD o c.parts[i].val=if atV o c.parts[i].val<o.length/\vZ o[atV o c.parts[i].val]! c.parts[i].val=true then o else dH o (atV o c.parts[i].val) [c.parts[i].val]:=rfl
 cases w:cU o[a] c.parts[i].val with
 |true=>
  rw[show cU o.toArray[a]! c.parts[i].val=true from by rw[u];exact w]at d;have B:=F w
  (repeat' first|apply wDx pk;rfl;kernel_rfl;rfl;rfl|apply Cn.cf;focus((apply d);done)|refine⟨⟨a+1,by omega,B⟩,?_,?_⟩|show Cn (.t _ _);exact Cn.t0|apply wZ;rfl|show Cn _;constructor|exact rfl|apply ixA pk;(iterate 5 rfl);rotate_left;rfl;(intro hw;(exact(show _=((a:Nat):Int)from by omega)));(intro hw;(omega));rfl;(exact Nat.zero_add _)|apply ldA pk Vl.elem;rfl;rfl;rotate_left;rfl;(exact aA _ _ _);(intro hw;(omega));rfl|apply wY;rfl|omega|simp only[zql];omega|intro h;simp at h;omega|intro h;simp at h)
 |false=>
  rw[show cU o.toArray[a]! c.parts[i].val=false from by rw[u];exact w]at d;rw[C w,getElem!_pos o a l]at f;cases z:vZ o[a] c.parts[i].val with
  |true=>
   rw[show vZ o.toArray[a]! c.parts[i].val=true from by rw[u];exact z]at g;rw[z]at f;rw[zp ⟨l,rfl⟩]at f;rw[f]at hu;have m:o=fT (c.parts.take (i+1)):=hu.symm
   (repeat' first|apply wDx pk;rfl;kernel_rfl;rfl;rfl|apply Cn.cf;focus(((first|apply d|apply g));done)|refine⟨⟨(i+1,id,o),by simp only;omega,k,m⟩,?_,?_⟩|show Cn (.t _ _);exact Cn.t0|apply wZ;rfl|show Cn _;constructor|exact rfl|apply ixA pk;(iterate 5 rfl);rotate_left;rfl;(intro hw;(exact(show _=((a:Nat):Int)from by omega)));(intro hw;(omega));rfl;(exact Nat.zero_add _)|apply ldA pk Vl.elem;rfl;rfl;rotate_left;rfl;(exact aA _ _ _);(intro hw;(omega));rfl|apply wY;rfl|omega|simp only[zql];omega|intro h;simp at h;done|intro h;simp at h;omega|intro h;simp at h)
  |false=>
   rw[show vZ o.toArray[a]! c.parts[i].val=false from by rw[u];exact z]at g;rw[z]at f;rw[zn (by simp)]at f;rw[f]at hu;have m:dH o a [c.parts[i].val]=fT (c.parts.take (i+1)):=hu.symm
   repeat' first|apply wDx pk;rfl;kernel_rfl;rfl;rfl|apply Cn.cf;focus(((first|apply d|apply g));done)|apply cP;rfl;(apply(anZ o [c.parts[i].val] a id o.length _ (aA _ _ _) rfl (by omega) (by simp) (by simp;omega)));rintro _ st' (⟨id2,rfl,hid2,rfl⟩)|refine⟨⟨(i+1,id2,dH o a [c.parts[i].val]),by simp only;omega,iO k hid2,m⟩,?_,?_⟩|show Cn (.t _ _);exact .any (bI ‹_›)|apply wZ;rfl|show Cn _;constructor|exact rfl|apply ixA pk;(iterate 5 rfl);rotate_left;rfl;(intro hw;(exact(show _=((a:Nat):Int)from by omega)));(intro hw;(omega));rfl;(exact Nat.zero_add _)|apply ldA pk Vl.elem;rfl;rfl;rotate_left;rfl;(exact aA _ _ _);(intro hw;(omega));rfl|apply wY;rfl|omega|simp only[zql];omega|intro h;simp at h;done|intro h;simp at h
 have f:abD o c.parts[i].val=dH o a [c.parts[i].val]:=by
  unfold abD;rw[aC6 (v:=c.parts[i].val) ha A λh=>absurd h l,zn (by simp[l])]
 rw[f]at hu;have m:dH o a [c.parts[i].val]=fT (c.parts.take (i+1)):=hu.symm;obtain rfl:a=o.length:=by omega
 repeat' first|apply wDx pk;rfl;kernel_rfl;rfl;rfl|apply cW;focus(intro _;(apply(show PF Tryz.prog 295 [_,_] (vb false)from by rename_i hh;simp[gw]at hh));done)|apply cW;focus(intro _;(apply(show PF Tryz.prog 296 [_,_] (vb false)from by rename_i hh;simp[gw]at hh));done)|apply cP;rfl;(apply(anZ o [c.parts[i].val] o.length id o.length _ (aA _ _ _) rfl (by omega) (by simp) (by simp;omega)));rintro _ st' (⟨id2,rfl,hid2,rfl⟩)|refine⟨⟨(i+1,id2,dH o o.length [c.parts[i].val]),by simp only;omega,iO k hid2,m⟩,?_,?_⟩|show Cn (.t _ _);exact .any (bI ‹_›)|apply wZ;rfl|show Cn _;constructor|exact rfl|apply ixA pk;(iterate 5 rfl);rotate_left;rfl;(intro hw;(exact(show _=((o.length:Nat):Int)from by omega)));(intro hw;(focus(simp[gw]at hw;done)));rfl;(exact Nat.zero_add _)|apply ldA pk Vl.elem;rfl;rfl;rotate_left;rfl;(exact aA _ _ _);(intro hw;(focus(simp[gw]at hw;done)));rfl|apply wY;rfl|omega|simp only[zql];omega|intro h;simp at h;done|intro h;simp at h
def dN(xs:Array Int):Nat->Nat
 |0=>0
 |1=>0
 |i+2=>dN xs (i+1)+if xs[i+1]! =xs[i]! then 0 else 1
theorem aaO(xs:Array Int){k:Nat}(h:1<=k):dN xs (k+1)=dN xs k+if xs[k]! =xs[k-1]! then 0 else 1:=by
 obtain⟨i,rfl⟩:∃i,k=i+1:=⟨k-1,by omega⟩;rfl
theorem azH(xs:Array Int)(k:Nat):∀y,1<=k->dN xs (k+y)<=dN xs k+y
 |0,_=>Nat.le_refl _
 |y+1,h=>by
  have:=azH xs k y h
  rw[show k+(y+1)=k+y+1 from rfl,aaO xs (by omega)]
  split<;>omega
def abE(xs:Array Int):Nat:=if xs.size<2 then xs.size else 1+dN xs xs.size
theorem atX(xs:Array Int){st:aD}{id n:Nat}(o:st id=some (.arr 3 (xs.toList.map I1)))(hn:xs.size=n)(E:n<1000000000000):
  PC Tryz.prog 23 [.vec id 1 0 n] st λr S=>r= .vec id 1 0 (abE xs)/\∃rows,S=upd st id (some (.arr 3 rows)):=by
 by_cases p:n<2
 ·have e:abE xs=n:=by unfold abE;rw[zp (by omega),hn]
  rw[e];refine pC Tryz.func23 rfl ?_
  repeat' first|show Cn (.r _ _ _);refine .rr ?_;(exact⟨rfl,_,(kV o).symm⟩);done|apply wZ;rfl|show Cn _;constructor|omega|intro h
 have e:abE xs=1+dN xs n:=by unfold abE;rw[zn (by omega),hn]
 rw[e]
 refine pC Tryz.func23 rfl ?_
 focus(repeat' first|apply wZ;rfl|show Cn _;constructor|omega|intro h;simp at h)
 refine aC (X:={x:Nat//1<=x/\x<=n/\dN xs x+1=x}) (λi=>(((St.nil 61 (st)).pv 0 (.vec id 1 0 n)).pv 3 (vi (i.1:Nat)))) (λi=>n-i.1) ⟨1,by omega,by omega,rfl⟩ ?_ λi=>?_
 ·repeat' first|show Cn (.t _ _);exact Cn.t0|show Cn _;constructor|exact rfl
 obtain⟨k,v,F,G⟩:=i
 dsimp only
 by_cases B:n<=k
 ·obtain rfl:k=n:=by omega
  have C:1+dN xs k=k:=by omega
  rw[C]
  repeat' first|show Cn (.r _ _ _);refine .rr ?_;(exact⟨rfl,_,(kV o).symm⟩);done|apply wZ;rfl|show Cn _;constructor|omega|intro h;simp at h
 have H:k<n:=by omega
 have hu:=aaO xs v
 by_cases hd:¬xs[k]! =xs[k-1]!
 ·rw[zn hd]at hu
  have w:dN xs (k+1)+1=k+1:=by omega
  repeat' first|apply wDx pk;rfl;kernel_rfl;rfl;rfl|refine⟨⟨k+1,by omega,by omega,w⟩,?_,?_⟩|show Cn (.t _ _);exact Cn.t0|apply wZ;rfl|show Cn _;constructor|exact rfl|apply ixA pk;(iterate 5 rfl);rotate_left;rfl;(intro hw;(first|exact(show _=((k:Nat):Int)from by omega)|exact(show _=((k-1:Nat):Int)from by omega)));(intro hw;(omega));rfl;(exact Nat.zero_add _)|apply ldA pk I1.elem;rfl;rfl;rotate_left;rfl;(assumption);(intro hw;(omega));rfl|omega|simp only[zql];omega|intro h;simp at h|intro h
 replace hd:=zdn hd
 rw[zp hd]at hu
 focus(repeat' first|apply wDx pk;rfl;kernel_rfl;rfl;rfl|apply wZ;rfl|show Cn _;constructor|apply ixA pk;(iterate 5 rfl);rotate_left;rfl;(intro hw;(first|exact(show _=((k:Nat):Int)from by omega)|exact(show _=((k-1:Nat):Int)from by omega)));(intro hw;(omega));rfl;(exact Nat.zero_add _)|apply ldA pk I1.elem;rfl;rfl;rotate_left;rfl;(assumption);(intro hw;(omega));rfl|apply eM pk k (n-k);(iterate 4 rfl);rotate_left;rfl;(intro _;exact⟨_,aL rfl rfl,by omega⟩);(intro _;exact⟨_,aX,by omega⟩);(intro _;omega);(intro _;omega);rfl|omega|intro h;simp at h|intro h)
 refine aC (X:={x:Nat×Array Int//1<=x.1/\x.1<=n-k/\x.2.size=n/\∀j,k+x.1<=j+1->j<n->x.2[j]! =xs[j]!}) (λy=>(((((St.nil 61 (upd st id (some (.arr 3 (y.1.2.toList.map I1))))).pv 0 (.vec id 1 0 n)).pv 3 (vi ((1+dN xs (k+y.1.1):Nat):Int))).pv 4 (.vec id 1 k (n-k))).pv 5 (vi (y.1.1:Nat)))) (λy=>n-y.1.1) ⟨(1,xs),by omega,by omega,hn,λ_ _ _=>rfl⟩ ?_ λy=>?_
 ·dsimp only
  repeat' first|show Cn (.t _ _);exact .any (cN (by(exact kV ‹_›)))|show Cn _;constructor|exact rfl|congr 2;omega
 obtain⟨⟨y,c⟩,z,A,a,hy⟩:=y
 simp only at z A a hy
 dsimp only
 have g:=azH xs (k+1) (y-1) (by omega)
 rw[show k+1+(y-1)=k+y by omega]at g
 by_cases u:n-k<=y
 ·obtain rfl:y=n-k:=by omega
  rw[show k+(n-k)=n by omega]at g⊢;have I:(c.toList.map I1).length=n:=by rw[zql,Array.length_toList,a]
  repeat' first|show Cn (.r _ _ _);refine .rr ?_;(exact⟨rfl,_,eI _ _ _ _⟩);done|apply wZ;rfl|show Cn _;constructor|apply eM pk (1+dN xs n) (n-(1+dN xs n));(iterate 4 rfl);rotate_left;rfl;(intro _;exact⟨_,aL rfl rfl,by omega⟩);(intro _;exact⟨_,aX,by omega⟩);(intro _;omega);(intro _;omega);rfl|refine aDQ pk (id:=id) (off:=1+dN xs n) (len:=n-(1+dN xs n)) (rows:=c.toList.map I1) rfl rfl rfl rfl rfl rfl rfl rfl (aA _ _ _) (by omega) (by omega) (by omega) rfl ?_|apply aEq pk (1+dN xs n);(iterate 4 rfl);rotate_left;rfl;(intro _;exact aL rfl rfl);(intro _;omega);(intro _;omega);rfl|omega|intro h;simp at h
 have l:=hy (k+y) (by omega) (by omega)
 have m:=hy (k+(y-1)) (by omega) (by omega)
 have d:=aaO xs (show 1<=k+y by omega)
 rw[show k+y-1=k+(y-1) by omega,show k+y+1=k+(y+1)from rfl]at d
 by_cases q:xs[k+y]! =xs[k+(y-1)]!
 ·rw[zp q]at d
  have f:∀j,k+(y+1)<=j+1->j<n->c[j]! =xs[j]!:=λj D p=>hy j (by omega) p;rw[<-l,<-m]at q
  repeat' first|apply wDx pk;rfl;kernel_rfl;rfl;rfl|refine⟨⟨(y+1,c),by simp only;omega,by simp only;omega,a,f⟩,?_,?_⟩;(dsimp only)|show Cn (.t _ _);exact Cn.t0|apply wZ;rfl|show Cn _;constructor|exact rfl|show _=_;(congr 2;omega)|apply ixA pk;(iterate 5 rfl);rotate_left;rfl;(intro hw;(first|exact(show _=((y:Nat):Int)from by omega)|exact(show _=((y-1:Nat):Int)from by omega)));(intro hw;(omega));rfl;(rfl)|apply ldA pk I1.elem;rfl;rfl;rotate_left;rfl;(exact aA _ _ _);(intro hw;(omega));rfl|omega|simp only[zql];omega|intro h;simp at h|intro h
 ·rw[zn q]at d
  have f:∀j,k+(y+1)<=j+1->j<n->(c.setIfInBounds (1+dN xs (k+y)) c[k+y]!)[j]! =xs[j]!:=λj D p=>by
   rw[getElem!_pos _ j (by rw[zqs];omega),Array.getElem_setIfInBounds_ne (by omega) (by omega),<-getElem!_pos c j (by omega)]
   exact hy j (by omega) p
  rw[<-l,<-m]at q
  repeat' first|apply wDx pk;rfl;kernel_rfl;rfl;rfl|refine⟨⟨(y+1,c.setIfInBounds (1+dN xs (k+y)) c[k+y]!),by simp only;omega,by simp only;omega,by rw[zqs];exact a,f⟩,?_,?_⟩;(dsimp only)|show Cn (.t _ _);exact .any (cN (by((simp only[St.pv,St.put,St.sst,St.setv,St.nil,St.var,eI]);(done))))|apply wZ;rfl|show Cn _;constructor|exact rfl|show _=_;(congr 2;omega)|apply ixA pk;(iterate 5 rfl);rotate_left;rfl;(intro hw;(first|exact(show _=((y:Nat):Int)from by omega)|exact(show _=((y-1:Nat):Int)from by omega)|exact(show _=((1+dN xs (k+y):Nat):Int)from by omega)));(intro hw;(omega));rfl;(first|exact Nat.zero_add _|exact rfl)|apply ldA pk I1.elem;rfl;rfl;rotate_left;rfl;(exact aA _ _ _);(intro hw;(omega));rfl|apply stA pk I1.elem;rfl;rfl;rfl;(exact aA _ _ _);(omega);rfl|omega|simp only[zql];omega|intro h;simp at h|intro h
end Go.Proofs.YtnogfoojjaainaaGreatDoor
namespace Go.Proofs.YtnogfoojjaainaaGreatDoor.T
open Go Go.Abs
attribute [local irreducible] Ev PWp
set_option maxRecDepth 10000
set_option maxHeartbeats 4000000
def qX :List Pt->List Int->List Int
 |[],acc=>acc
 |p::r,acc=>qX r (if p.gone=false/\acc.length<200 then acc++[p.val.n]else acc)
def showP(c:Cl):Vl:=if rightP c=0 then⟨2,0,iY (qX c.parts [])⟩else Vl.zero
theorem aaV{l:List Pt}{i:Nat}(h:i<l.length)(acc:List Int):qX (l.drop i) acc=qX (l.drop (i+1)) (if l[i].gone=false/\acc.length<200 then acc++[l[i].val.n]else acc):=by
 rw[List.drop_eq_getElem_cons h];rfl
theorem aJt :Tryz.prog.bytesOf 5=1:=by kernel_rfl
theorem iE{c:Cl}(h:rightP c=0):c.kind=4/\c.val=Vl.zero/\Whole c.parts/\c.parts.length<=2000/\cS c.parts=c.parts:=by
 unfold rightP at h;split at h
 ·cases h
 ·split at h
  ·cases h
  ·split at h
   ·cases h
   ·split at h
    ·cases h
    ·rename_i d a e h4
     simp only[ne_eq,not_or,Decidable.not_not,Bool.not_eq_false]at d a h4;exact⟨d,a.1,(eB _).1 a.2,by omega,h4⟩
theorem aqP{p:Pt}(h:bM p=true):0<=p.val.n/\p.val.n<=255:=by
 simp only[bM,withinB,zba,zde]at h;exact⟨h.1.1.1.2.1,h.1.1.1.2.2⟩
theorem gX{st:aD}{id a:Nat}{o:AObj}(h:upd st id (some o) a=none):st a=none:=by
 by_cases e:a=id
 ·rw[e,aA]at h;cases h
 ·rwa[aB e]at h
theorem show_spec(c:Cl)(hl:c.parts.length<4611686018427387904):PF Tryz.prog 155 [.agg c.cells] (.agg (showP c).cells):=by
 refine pF Tryz.func155 rfl λst=>?_
 repeat' first|apply wZ;rfl|show Cn _;constructor|exact rfl|apply right_spec c hl|show(_:PV)=_;(rw[showP,zn ‹_›];rfl);done|apply wY;rfl|intro h
 have h0:rightP c=0:=h;have hb:=λp (hp:p∈c.parts)=>aqP ((iE h0).2.2.1.formed p hp);refine vP 3 5 rfl rfl λid d=>?_;have d:st id=none:=d;refine aC (X:={x:Nat×List Int×Nat//x.1<=c.parts.length/\st x.2.2=none/\x.2.1.length<=200/\qX (c.parts.drop x.1) x.2.1=qX c.parts []}) (λi=>((((((St.nil 36 (upd st i.1.2.2 (some (.tok 5)))).var 2 60 ([vi 0,vi 0,vs e0])).pv 3 (.own i.1.2.2 (i.1.2.1.map U8))).pv 11 (.seq (c.parts.map Pt.cells))).pv 12 (vi (c.parts.length:Nat))).pv 13 (vi (i.1.1:Nat)))) (λi=>c.parts.length-i.1.1) ⟨(0,[],id),by simp,d,by simp,rfl⟩ ?_ λi=>?_
 ·repeat' first|show Cn (.t _ _);exact Cn.t0|show Cn _;constructor|exact rfl|simp
 obtain⟨⟨i,acc,id⟩,hi,d,ha,a⟩:=i;simp only at hi d ha a;dsimp only;have hs:=λh:i<c.parts.length=>aaV h acc;have f:=λh:i<c.parts.length=>hb _ (zgm h)
 repeat' first|show Cn (.e _ _ _ _);refine .any ?_;(refine⟨_,_,_,rfl,zwr _,bK ‹_›,?_,rfl⟩;((rw[showP,zp h0,<-a,List.drop_eq_nil_of_le (by omega)];rfl);done))|((first|refine⟨⟨(i+1,acc++[(c.parts[i]'‹_›).val.n],j),by simp only;omega,gX g,by simp only[zla,List.length_singleton];omega,by rw[<-a,hs ‹_›,zp ⟨h.1,by omega⟩]⟩,?_,by simp only;omega⟩|refine⟨⟨(i+1,acc,id),by simp only;omega,d,ha,by rw[<-a,hs ‹_›,zn λq=>by have:=h q.1;omega]⟩,?_,by simp only;omega⟩);focus((repeat' first|show Cn (.t _ _);exact Cn.t0|show Cn (.t _ _);exact .any (bI ‹_›)|show Cn _;constructor|exact rfl);done))|apply wZ;rfl|show Cn _;constructor|exact rfl|apply cvA pk.htt;(iterate 5 rfl);(refine⟨?_,?_⟩<;>(first|exact(f ‹_›).1|have:=(f ‹_›).2;omega));rfl|apply aKk pk acc;(iterate 6 rfl);rotate_left;rfl;rfl|apply apS pk ((c.parts[i]'‹_›).val.n) 1;(iterate 8 rfl);exact aA _ _ _;exactλ_=>rfl;exactλ_=>rfl;exact aJt;(omega);(omega);rfl;intro j g|apply wI;rfl|apply gE;omega|omega|intro h;simp at h
end Go.Proofs.YtnogfoojjaainaaGreatDoor.T
namespace Go.Proofs.YtnogfoojjaainaaGreatDoor
open Go Go.Abs
section
attribute [local irreducible] Ev PWp
set_option maxRecDepth 10000
set_option maxHeartbeats 4000000
def fP(c:Cl):List Int:=(c.parts.map (·.val.n)).mergeSort λx y=>decide (x<=y)
theorem aHD{c:Cl}{i:Nat}(h:i<c.parts.length):(c.parts.take (i+1)).map (·.val.n)=(c.parts.take i).map (·.val.n)++[c.parts[i].val.n]:=by
 rw[List.take_succ_eq_append_getElem h,List.map_append];rfl
theorem aF4(c:Cl)(hl:c.parts.length<1000000000)(st:aD):PC Tryz.prog 232 [.agg c.cells] st λr S=>∃id,r= .vec id 1 0 (abE (fP c).toArray)/\st id=none/\∃o,S=upd st id (some o):=by
 refine pC Tryz.func232 rfl ?_
 focus(repeat' first|apply wZ;rfl|show Cn _;constructor)
 refine eC 3 3 1 rfl rfl rfl λid a=>?_;refine aC (X:={x:Nat×Nat//x.1<=c.parts.length/\st x.2=none}) (λi=>(((((St.nil 24 (upd st i.1.2 (some (.arr 3 (((c.parts.take i.1.1).map (·.val.n)).map I1))))).pv 3 (.vec i.1.2 1 0 i.1.1)).pv 7 (.seq (c.parts.map Pt.cells))).pv 8 (vi ((c.parts.map Pt.cells).length:Nat))).pv 9 (vi (i.1.1:Nat)))) (λi=>c.parts.length-i.1.1) ⟨(0,id),by simp,a⟩ ?_ λi=>?_
 ·dsimp only
  repeat' first|show Cn (.t _ _);exact Cn.t0|show Cn _;constructor|exact rfl
 obtain⟨⟨i,id⟩,hi,a⟩:=i;simp only at hi a;dsimp only;by_cases p:c.parts.length<=i
 ·obtain rfl:i=c.parts.length:=by omega
  rw[List.take_length];have l:=aiQ (c.parts.map (·.val.n)) (st:=upd st id (some (.arr 3 ((c.parts.map (·.val.n)).map I1)))) (id:=id) (n:=c.parts.length) (aA _ _ _) (zql _) (by omega);have k:(fP c).toArray.size=c.parts.length:=by simp[fP]
  have g:=atX (fP c).toArray (st:=upd (upd st id (some (.arr 3 ((c.parts.map (·.val.n)).map I1)))) id (some (.arr 3 ((fP c).map I1)))) (id:=id) (n:=c.parts.length) (aA _ _ _) k (by omega)
  repeat' first|apply cP;rfl;(apply l);rintro _ st' (rfl)|apply cP;rfl;(apply g);rintro _ st' (⟨rfl,rows,rfl⟩)|show Cn (.r _ _ _);refine .rr ?_;(exact⟨id,rfl,a,_,(eI _ _ _ _).trans (eI _ _ _ _)⟩);done|apply wZ;rfl|show Cn _;constructor|apply wY;rfl|simp only[zql];omega|intro h;simp at h
 have j:i<c.parts.length:=by omega
 have q:((c.parts.take i).map (·.val.n)).length=i:=by rw[zql,zlt];omega
 have e:=aHD j
 repeat' first|refine⟨⟨(i+1,m),by simp only;omega,cG d⟩,?_,?_⟩;(dsimp only;try rw[e])|show Cn (.t _ _);exact .any (bI ‹_›)|apply wZ;rfl|show Cn _;constructor|exact rfl|apply apV pk (f:=I1) [c.parts[i].val.n] 8;(iterate 9 rfl);(exact aA _ _ _);(omega);exactλ_=>rfl;exactλ_=>rfl;exact kQ;(focus(simp;omega));(focus(simp;omega));rfl;intro m d|apply wI;rfl|apply gE;omega|omega|simp only[zql];omega|intro h;simp at h
def amG(c:Cl):Vl:=⟨1,(abE (fP c).toArray:Nat),e0⟩
theorem asK(c:Cl)(hl:c.parts.length<1000000000):PF Tryz.prog 154 [.agg c.cells] (.agg (amG c).cells):=by
 intro st;have hn:=aF4 c hl st;refine pC Tryz.func154 rfl ?_
 repeat' first|exact Cn.any ⟨_,_,st,rfl,zwr _,aR (zsr _) hid,rfl,rfl⟩|apply cP;rfl;(apply hn);rintro _ st' (⟨id,rfl,hid,o,rfl⟩)|apply wZ;rfl|show Cn _;constructor|apply wY;rfl
def acU(c:Cl):Vl:=((fT c.parts).getLast?).getD Vl.zero
theorem awM(c:Cl)(hl:c.parts.length<1000000000):PF Tryz.prog 152 [.agg c.cells] (.agg (acU c).cells):=by
 intro st;have hn:=aGb c hl st;have a:=arF c.parts;unfold acU;generalize fT c.parts=o at*;rcases Nat.eq_zero_or_pos o.length with h0|h0
 ·obtain rfl:o=[]:=List.eq_nil_of_length_eq_zero h0
  refine pC Tryz.func152 rfl ?_
  repeat' first|exact Cn.any ⟨_,_,st,rfl,zwr _,aR (zsr _) hid,rfl,rfl⟩|apply cP;rfl;(apply hn);rintro _ st' (⟨id,rfl,hid,rfl⟩)|apply wZ;rfl|show Cn _;constructor|apply wY;rfl
 ·have e:o.getLast?.getD Vl.zero=o.toArray[o.length-1]!:=by
   rw[List.getLast?_eq_getElem?,zgg (by omega),getElem!_pos o.toArray (o.length-1) (by simp;omega)];simp
  rw[e];refine pC Tryz.func152 rfl ?_
  repeat' first|exact Cn.any ⟨_,_,st,rfl,zwr _,aR (zsr _) hid,rfl,rfl⟩|apply cP;rfl;(apply hn);rintro _ st' (⟨id,rfl,hid,rfl⟩)|apply wZ;rfl|show Cn _;constructor|apply ixA pk;(iterate 5 rfl);rotate_left;rfl;(intro hw;(exact(show _=((o.length-1:Nat):Int)from by omega)));(intro hw;(omega));rfl;(exact Nat.zero_add _)|apply ldA pk Vl.elem;rfl;rfl;rotate_left;rfl;exact aA _ _ _;(intro _;exact(show o.length-1<o.length by omega));rfl|apply wY;rfl|omega|intro h;simp at h
def bL(c:Cl):Vl:=if c.kind=0 then c.val else if c.kind=1 then acU c else if c.kind=2 then aeI c else if c.kind=3 then amG c else if c.kind=4 then T.showP c else Vl.zero
theorem aGT(c:Cl)(hl:c.parts.length<=1000):aDG bL c:=by
 have a:=awM c (by omega);have d:=auJ c;have e:=asK c (by omega);have h4:=T.show_spec c (by omega);show PF Tryz.prog 78 [.agg c.cells] (.agg (bL c).cells);unfold bL;generalize acU c=A at*;generalize aeI c=B at*;generalize amG c=C at*;generalize T.showP c=D at*;refine pF Tryz.func78 rfl λst=>?_
 repeat' first|apply wZ;rfl|show Cn _;constructor|exact rfl|(first|apply a|apply d|apply e|apply h4)|show(_:PV)=_;((repeat first|rw[zp ‹_›]|rw[zn ‹_›]);rfl);done|apply wY;rfl|intro h
end
section
attribute [local irreducible] Ev PWp
set_option maxRecDepth 10000
set_option maxHeartbeats 4000000
section
variable{tx:Cl->Int}
theorem aI7 :∀c:Cl,c.kind=0->bL c=c.val:=λc h=>by unfold bL;rw[zp h]
theorem rows_len{s:Sc}{b:Bs}(hg:bC tx s b=true){k:Nat}(hk:k<s.length):(cT bL b k).length<=2000:=by
 obtain⟨⟨d,e⟩,c⟩:=aU.1 hg;have a:k<b.length:=by omega
 have:=(gT.1 (c k a)).1;unfold cT;rw[gJ a,zql];rw[getElem!_pos b k a]at this;exact this
theorem vV{s:Sc}{b:Bs}(hg:bC tx s b=true){k:Nat}(hk:k<s.length){m:Su}(hm:m∈s[k].sums):TotOK m (cT bL b k):=by
 obtain⟨⟨c,e⟩,_⟩:=aU.1 hg;have hs:=aHW c hk hm;refine⟨rows_len hg hk,by have:=hs.c1;omega,by have:=hs.b1;omega,λr a=>?_,λr a=>?_⟩
 ·have:=(auQ aI7 hg hk a).len
  have:=hs.c2;have:=hs.b2;omega
 ·have hc:=hs.c1
  have d:=hs.c2;exact awL ((auQ aI7 hg hk a).num m.col.toNat (by omega) hs.kc)
theorem lH{s:Sc}(h:bT s=0){k:Nat}(hk:k<s.length):s[k].cols.length<=16/\s[k].checks.length<=16/\s[k].unique.length<=16/\s[k].foreign.length<=16/\s[k].sums.length<=16:=by
 have a:=fU h hk (lk1 s[k]!) (by simp[lks]);rw[getElem!_pos s k hk]at a;unfold lk1 at a;split at a
 ·cases a
 ·omega
theorem aHM{t:Tb}{r:List Vl}(h:eS t r=0)(hl:r.length<=1000):X.rowOK r:=by
 refine⟨by omega,λv hv=>?_⟩;obtain⟨j,hj,rfl⟩:=zgo hv;unfold eS at h;split at h
 ·have:=iC.1 h j (List.mem_range.2 hj)
  rw[getElem!_pos r j hj]at this;unfold vB at this;split at this
  ·cases this
  ·rename_i q
   have q:cE r[j]=true:=by simpa using q
   have:=(awL q).1;unfold X.lim;omega
 ·cases h
end
section
variable(ex:Tb->List Vl->Int)(b:Bs)(t:Tb)(rows:List (List Vl))
def stT :Nat->Int
 |0=>eE (eS t) rows
 |1=>if mL t rows=false then 8 else 0
 |2=>eE (ex t) rows
 |3=>if abF b t rows=false then 10 else 0
 |_=>if adA t rows=false then 11 else 0
variable{ex b t rows}
theorem aEv(h:∀j<5,stT ex b t rows j=0):ckT ex b t rows=0:=by
 have h0:eE (eS t) rows=0:=h 0 (by omega);have a:(if mL t rows=false then(8:Int)else 0)=0:=h 1 (by omega);have d:eE (ex t) rows=0:=h 2 (by omega);have c:(if abF b t rows=false then(10:Int)else 0)=0:=h 3 (by omega);have h4:(if adA t rows=false then(11:Int)else 0)=0:=h 4 (by omega);unfold ckT;rw[zn λq=>q h0,zn (λq=>by rw[zp q]at a;cases a),zn λq=>q d,zn (λq=>by rw[zp q]at c;cases c),zn λq=>by rw[zp q]at h4;cases h4]
theorem aIF{y:Nat}(hy:y<5)(a:∀j<y,stT ex b t rows j=0)(h:stT ex b t rows y≠0):ckT ex b t rows=stT ex b t rows y:=by
 unfold ckT
 match y,hy with
 |0,_=>rw[zp (show eE (eS t) rows≠0 from h)];rfl
 |1,_=>
  have h0:eE (eS t) rows=0:=a 0 (by omega);have q:mL t rows=false:=by
   cases e:mL t rows with
   |false=>rfl
   |true=>exact absurd (show stT ex b t rows 1=0 from by unfold stT;rw[e];rfl) h
  rw[zn λq=>q h0,zp q];exact(show stT ex b t rows 1=8 from zp q).symm
 |2,_=>
  have h0:eE (eS t) rows=0:=a 0 (by omega);have c:(if mL t rows=false then(8:Int)else 0)=0:=a 1 (by omega);rw[zn λq=>q h0,zn (λq=>by rw[zp q]at c;cases c),zp (show eE (ex t) rows≠0 from h)];rfl
 |3,_=>
  have h0:eE (eS t) rows=0:=a 0 (by omega);have c:(if mL t rows=false then(8:Int)else 0)=0:=a 1 (by omega);have d:eE (ex t) rows=0:=a 2 (by omega);have q:abF b t rows=false:=by
   cases e:abF b t rows with
   |false=>rfl
   |true=>exact absurd (show stT ex b t rows 3=0 from by unfold stT;rw[e];rfl) h
  rw[zn λq=>q h0,zn (λq=>by rw[zp q]at c;cases c),zn λq=>q d,zp q];exact(show stT ex b t rows 3=10 from zp q).symm
 |4,_=>
  have h0:eE (eS t) rows=0:=a 0 (by omega);have c:(if mL t rows=false then(8:Int)else 0)=0:=a 1 (by omega);have d:eE (ex t) rows=0:=a 2 (by omega);have f:(if abF b t rows=false then(10:Int)else 0)=0:=a 3 (by omega);have q:adA t rows=false:=by
   cases e:adA t rows with
   |false=>rfl
   |true=>exact absurd (show stT ex b t rows 4=0 from by unfold stT;rw[e];rfl) h
  rw[zn λq=>q h0,zn (λq=>by rw[zp q]at c;cases c),zn λq=>q d,zn (λq=>by rw[zp q]at f;cases f),zp q];exact(show stT ex b t rows 4=11 from zp q).symm
end
structure CkB (n:Nat) (s:Sc) (b:Bs):Prop where
 sb:ScB s
 len:s.length<=20
 col:∀t∈s,t.cols.length<10000000000
 chk:∀t∈s,tM t
 bs:BsS n b
 hn:n<=1000
noncomputable def mayC(s:Sc)(b:Bs):Bool:=decide (rightC s=0)&&bC T.rightP s b
noncomputable def whyC(s:Sc)(b:Bs):Int:=if mayC s b=true then ckW bL exR s b else 1
noncomputable def totC(s:Sc)(b:Bs)(table c a:Int):Int:=
 open Classical in if d:mayC s b=true/\(0<=table/\table<s.length)/\(0<=c/\c<s[table.toNat]!.sums.length)then jL s[table.toNat]!.sums[c.toNat]! a (cT bL b table)else 0
theorem acW{s:Sc}(h:rightC s=0):bT s=0:=by
 unfold rightC at h;split at h
 ·assumption
 ·rename_i q;exact absurd h q
section
variable{n:Nat}{s:Sc}{b:Bs}(hB:CkB n s b)
include hB
theorem CkB.right :PF Tryz.prog 60 [.agg (scC s)] (vi (rightC s)):=apA s (by have:=hB.len;omega) hB.sb hB.chk hB.col
theorem iI :PF Tryz.prog 35 [.agg (scC s), .agg (bsC b)] (vb (mayC s b)):=by
 have a:=hB.right;have c:=fV hB.bs hB.hn hB.sb hB.len;unfold mayC;generalize rightC s=R at*;generalize bC T.rightP s b=B at*;refine pF Tryz.func35 rfl λst=>?_
 repeat' first|apply wZ;rfl|show Cn _;constructor|exact rfl|(first|apply a|apply c)|apply wY;rfl
theorem aaD{k:Nat}(hk:k<b.length):PF Tryz.prog 37 [.agg (bsC b),vi (k:Nat)] (.seq ((cT bL b k).map roC)):=by
 obtain⟨d,a⟩:=hB.bs.2 _ (zgm hk);have hn:=hB.hn;have e:cT bL b k=b[k].lines.map (agD bL):=by unfold cT;rw[gJ hk];rfl
 rw[e];exact atK bL b k hk (by omega) λl hl=>by
  obtain⟨g,h,f⟩:=a l hl
  exact⟨by omega,λc hc=>aGT c (f c hc)⟩
theorem aDF :PF Tryz.prog 34 [.agg (scC s), .agg (bsC b)] (vi (whyC s b)):=by
 have hm:=iI hB;have hsl:=hB.len;cases a:mayC s b with
 |false=>
  rw[a]at hm;have e:whyC s b=1:=by unfold whyC;rw[a];rfl
  rw[e];refine pF Tryz.func34 rfl λst=>?_
  (repeat' first|apply wZ;rfl|show Cn _;constructor|exact rfl|apply hm|apply wY;rfl)
 |true=>
 rw[a]at hm;have e:whyC s b=ckW bL exR s b:=by unfold whyC;rw[a];rfl
 rw[e];clear e;unfold mayC at a;rw[zba,zde]at a;obtain⟨M,hg⟩:=a;have A:=acW M;obtain⟨⟨_,hbl⟩,_⟩:=aU.1 hg;have v:(∀j<s.length,ckT exR b s[j]! (cT bL b j)=0)->ckW bL exR s b=0:=λh=>ahC h;have c:∀i<s.length,(∀j<i,ckT exR b s[j]! (cT bL b j)=0)->ckT exR b s[i]! (cT bL b i)≠0->ckW bL exR s b=ckT exR b s[i]! (cT bL b i):=λi hi V Y=>aAc (f:=λk:Nat=>ckT exR b s[k]! (cT bL b k)) hi V Y;generalize ckW bL exR s b=W at*;refine pF Tryz.func34 rfl λst=>?_
 focus(repeat' first|apply wZ;rfl|show Cn _;constructor|apply hm|apply wY;rfl)
 refine aC (X:={x:Nat//x<=s.length/\∀j<x,ckT exR b s[j]! (cT bL b j)=0}) (λi=>(((((St.nil 41 st).var 3 27 (bsC b)).pv 16 (.seq (s.map Tb.cells))).pv 17 (vi ((s.map Tb.cells).length:Nat))).pv 18 (vi (i.1:Nat)))) (λi=>s.length-i.1) ⟨0,by omega,by omega⟩ ?_ λi=>?_
 ·repeat' first|show Cn _;constructor|exact rfl
 obtain⟨i,hi,I⟩:=i;dsimp only;by_cases P:s.length<=i
 ·have e:W=0:=v λj hj=>I j (by omega)
  repeat' first|apply wZ;rfl|show Cn _;constructor|exact rfl|show(_:PV)=_;(rw[e]);done|simp only[zql];omega|intro h;simp at h
 have d:i<s.length:=by omega
 have L:i<b.length:=by omega
 have N:=aaD hB L;have c:=c i d I;have G:ckT exR b s[i]! (cT bL b i)=0->∀j<i+1,ckT exR b s[j]! (cT bL b j)=0:=λh j hj=>by
  rcases zls.1 hj with q|q
  ·exact I j q
  ·subst q;exact h
 rw[getElem!_pos s i d]at c G;obtain⟨n1,n2,n3,n4,n5⟩:=lH A d;have hrl:=rows_len hg d;have z:=λr (l:r∈cT bL b i)=>auQ aI7 hg d l;have O:=λm (hm:m∈s[i].sums)=>vV hg d hm;have F:=λu (hu:u∈s[i].unique)=>aHT A d hu;have D:=λf (hf:f∈s[i].foreign)=>ayW A d hf;have B:=hB.chk _ (zgm d);generalize cT bL b i=rows at*;have E:∀r∈rows,r.length<=1000:=λr l=>by have:=(z r l).len;omega
 have Q:PF Tryz.prog 64 [.agg (oB s[i] rows b)] (vi (stT exR b s[i] rows 0)):=auY s[i] rows b (by omega) (by omega) λr l=>by have:=E r l;omega
 have R:PF Tryz.prog 65 [.agg (oB s[i] rows b)] (vi (stT exR b s[i] rows 1)):=arD s[i] rows b (by omega) (by omega) λu hu=>⟨by have:=(F u hu).c1;omega,λr l=>by have:=(F u hu).c2;have:=(z r l).len;omega⟩;have H:stT exR b s[i] rows 0=0->PF Tryz.prog 66 [.agg (oB s[i] rows b)] (vi (stT exR b s[i] rows 2)):=λh=>aqJ s[i] rows b (by omega) (by omega) B λr l=>aHM (iC.1 h r l) (E r l);have T:PF Tryz.prog 67 [.agg (oB s[i] rows b)] (vi (stT exR b s[i] rows 3)):=akM s[i] rows b (by omega) (by omega) (λf hf=>⟨by have:=(D f hf).c1;omega,λr l=>by have:=(D f hf).c2;have:=(z r l).len;omega⟩) hB.bs hB.hn;have U:PF Tryz.prog 68 [.agg (oB s[i] rows b)] (vi (stT exR b s[i] rows 4)):=asE s[i] rows b (by omega) O;have w:=aEv (ex:=exR) (b:=b) (t:=s[i]) (rows:=rows);have J:=λy (hy:y<5)=>aIF (ex:=exR) (b:=b) (t:=s[i]) (rows:=rows) hy;generalize ckT exR b s[i] rows=C at*;generalize stT exR b s[i] rows=S at*
 focus(repeat' first|apply wZ;rfl|show Cn _;constructor|exact rfl|apply KR.mk;kernel_rfl|apply N|apply wY;rfl|apply wI;rfl|apply gE;omega|simp only[zql];omega|intro h;simp at h)
 refine aC (X:={x:Nat//x<=5/\∀j<x,S j=0}) (λy=>((((((((St.nil 41 st).var 3 27 (bsC b)).var 7 136 (oB s[i] rows b)).pv 16 (.seq (s.map Tb.cells))).pv 17 (vi ((s.map Tb.cells).length:Nat))).pv 18 (vi (i:Nat))).pv 29 (.agg [.fn 64 [], .fn 65 [], .fn 66 [], .fn 67 [], .fn 68 []])).pv 30 (vi (y.1:Nat)))) (λy=>5-y.1) ⟨0,by omega,by omega⟩ ?_ λy=>?_
 ·repeat' first|show Cn _;constructor|exact rfl
 obtain⟨y,hy,p⟩:=y;dsimp only;by_cases K:5<=y
 ·have hw:=G (w λj hj=>p j (by omega))
  repeat' first|refine⟨⟨i+1,by omega,hw⟩,?_,?_⟩|apply wZ;rfl|show Cn _;constructor|exact rfl|omega|simp only[zql];omega|intro h;simp at h
 have g:S y≠0->W=S y:=λh=>by
  have e:=J y (by omega) p h
  rw[c (by rw[e];exact h),e]
 have o:S y=0->∀j<y+1,S j=0:=λh j hj=>by
  rcases zls.1 hj with q|q
  ·exact p j q
  ·subst q;exact h
 have h5:y=0\/y=1\/y=2\/y=3\/y=4:=by omega
 rcases h5 with rfl|rfl|rfl|rfl|rfl
 ·generalize S 0=Z at*
  repeat' first|refine⟨⟨1,by omega,o ‹_›⟩,?_,?_⟩|apply wZ;rfl|show Cn _;constructor|exact rfl|apply Q|show(_:PV)=_;(rw[g ‹_›]);done|apply ixV pk 0;(iterate 6 rfl);(focus repeat' constructor);rfl;(intro _;rfl);(intro _;decide);(intro _;rfl);rfl|apply wY;rfl|omega|simp only[zql];omega|intro h
 ·generalize S 1=Z at*
  repeat' first|refine⟨⟨2,by omega,o ‹_›⟩,?_,?_⟩|apply wZ;rfl|show Cn _;constructor|exact rfl|apply R|show(_:PV)=_;(rw[g ‹_›]);done|apply ixV pk 1;(iterate 6 rfl);(focus repeat' constructor);rfl;(intro _;rfl);(intro _;decide);(intro _;rfl);rfl|apply wY;rfl|omega|simp only[zql];omega|intro h
 ·have H:=H (p 0 (by omega))
  generalize S 2=Z at*
  repeat' first|refine⟨⟨3,by omega,o ‹_›⟩,?_,?_⟩|apply wZ;rfl|show Cn _;constructor|exact rfl|apply H|show(_:PV)=_;(rw[g ‹_›]);done|apply ixV pk 2;(iterate 6 rfl);(focus repeat' constructor);rfl;(intro _;rfl);(intro _;decide);(intro _;rfl);rfl|apply wY;rfl|omega|simp only[zql];omega|intro h
 ·generalize S 3=Z at*
  repeat' first|refine⟨⟨4,by omega,o ‹_›⟩,?_,?_⟩|apply wZ;rfl|show Cn _;constructor|exact rfl|apply T|show(_:PV)=_;(rw[g ‹_›]);done|apply ixV pk 3;(iterate 6 rfl);(focus repeat' constructor);rfl;(intro _;rfl);(intro _;decide);(intro _;rfl);rfl|apply wY;rfl|omega|simp only[zql];omega|intro h
 ·generalize S 4=Z at*
  repeat' first|refine⟨⟨5,by omega,o ‹_›⟩,?_,?_⟩|apply wZ;rfl|show Cn _;constructor|exact rfl|apply U|show(_:PV)=_;(rw[g ‹_›]);done|apply ixV pk 4;(iterate 6 rfl);(focus repeat' constructor);rfl;(intro _;rfl);(intro _;decide);(intro _;rfl);rfl|apply wY;rfl|omega|simp only[zql];omega|intro h
theorem pQ(table d a:Int):PF Tryz.prog 12 [.agg (scC s), .agg (bsC b),vi table,vi d,vi a] (vi (totC s b table d a)):=by
 have hm:=iI hB;have u:=hB.len;by_cases c:¬mayC s b=true
 ·have e:totC s b table d a=0:=by unfold totC;rw[dif_neg λq=>c q.1]
  have c:mayC s b=false:=by simpa using c
  rw[e];rw[c]at hm;refine pF Tryz.func12 rfl λst=>?_
  repeat' first|apply wZ;rfl|show Cn _;constructor|exact rfl|apply hm|apply cL pk (j:=0) (row:=(default:Tb).cells);(iterate 6 rfl);rotate_left;rfl;(intro hw;exfalso;first|focus(simp[gw]at hw;done)|simp[gw]at hw;omega);(intro hw;exfalso;first|focus(simp[gw]at hw;done)|simp[gw]at hw;omega);(intro hw;exfalso;first|focus(simp[gw]at hw;done)|simp[gw]at hw;omega);rfl|apply wY;rfl
 replace c:=zdn c
 rw[c]at hm;by_cases ht:¬(0<=table/\table<s.length)
 ·have e:totC s b table d a=0:=by unfold totC;rw[dif_neg λq=>ht q.2.1]
  rw[e];refine pF Tryz.func12 rfl λst=>?_
  repeat' first|apply wZ;rfl|show Cn _;constructor|exact rfl|apply hm|apply cL pk (j:=0) (row:=(default:Tb).cells);(iterate 6 rfl);rotate_left;rfl;(intro hw;exfalso;first|focus(simp[gw]at hw;done)|simp[gw]at hw;omega);(intro hw;exfalso;first|focus(simp[gw]at hw;done)|simp[gw]at hw;omega);(intro hw;exfalso;first|focus(simp[gw]at hw;done)|simp[gw]at hw;omega);rfl|apply wY;rfl|intro h;simp at h;omega|intro h;simp at h
 replace ht:=zdn ht
 obtain⟨k,rfl⟩:∃k:Nat,table=(k:Int):=⟨table.toNat,by omega⟩;have hk:k<s.length:=by omega
 have g:=c;unfold mayC at c;rw[zba,zde]at c;obtain⟨l,hg⟩:=c;have m:=acW l;obtain⟨⟨_,r⟩,_⟩:=aU.1 hg;obtain⟨v,w,x,n4,n5⟩:=lH m hk;by_cases hs:¬(0<=d/\d<s[k].sums.length)
 ·have e:totC s b k d a=0:=by
   unfold totC;rw[dif_neg];rintro⟨_,_,q⟩;rw[Int.toNat_natCast,getElem!_pos s k hk]at q;exact hs q
  rw[e];refine pF Tryz.func12 rfl λst=>?_
  repeat' first|apply wZ;rfl|show Cn _;constructor|exact rfl|apply hm|apply wY;rfl|apply wI;rfl|apply gE;omega|intro h;simp at h;omega|intro h;simp at h
 replace hs:=zdn hs
 obtain⟨y,rfl⟩:∃y:Nat,d=(y:Int):=⟨d.toNat,by omega⟩;have hy:y<s[k].sums.length:=by omega
 have hT:=vV hg hk (zgm hy);have e:totC s b k y a=jL s[k].sums[y] a (cT bL b k):=by
  unfold totC;rw[dif_pos ⟨g,ht,by rw[Int.toNat_natCast,getElem!_pos s k hk];exact hs⟩];rw[Int.toNat_natCast,Int.toNat_natCast,getElem!_pos s k hk,getElem!_pos s[k].sums y hy]
 rw[e];have o:=aaD hB (k:=k) (by omega);have p:=zT s[k].sums[y] (cT bL b k) hT;have i:=aFq hT.ns a;generalize jL s[k].sums[y] a (cT bL b k)=R at*;generalize mX s[k].sums[y] (cT bL b k)=M at*;generalize sZ s[k].sums[y] (cT bL b k)=G at*;generalize cT bL b k=rows at*;refine pF Tryz.func12 rfl λst=>?_
 repeat' first|apply wZ;rfl|show Cn _;constructor|exact rfl|apply KR.mk;kernel_rfl|(first|apply hm|apply o|apply p)|apply aLn pk xV (f:=mU) (z:=0) (k:=a) (n:=R);(iterate 5 rfl);rotate_left;rfl;rfl;exact i|apply wY;rfl|apply wI;rfl|apply gE;omega|intro h;simp at h;omega|intro h;simp at h
end
end
section
attribute [local irreducible] Ev PWp
set_option maxRecDepth 10000
set_option maxHeartbeats 4000000
def aFm(t:Tb):Nat:=t.cols.length+t.unique.length+t.checks.length+t.foreign.length+t.sums.length
def akF(s:Sc):Nat:=(s.map aFm).sum
def aeM(s:Sc):Bool:=decide (s.length<=20)&&decide (akF s<=400)
theorem aI0{s:Sc}{i:Nat}(h:i<s.length):akF (s.take (i+1))=akF (s.take i)+aFm s[i]:=by
 unfold akF;rw[List.take_succ_eq_append_getElem h,List.map_append,List.sum_append];simp
theorem aGt{s:Sc}{t:Tb}(h:t∈s):aFm t<=akF s:=by
 unfold akF
 induction s with
 |nil=>cases h
 |cons a s ih=>
  rw[zmp,List.sum_cons];rcases zmc.1 h with rfl|h
  ·omega
  ·have:=ih h;omega
theorem aDe(s:Sc)(hl:s.length<200000000000000)(c:¬s.length<=20):PF Tryz.prog 13 [.agg (scC s)] (vb false):=by
 refine pF Tryz.func13 rfl λst=>?_
 focus(repeat' first|apply wZ;rfl|show Cn _;constructor)
 refine aC (X:={x:Nat×Int//x.1<=s.length}) (λi=>((((St.nil 47 st).var 1 24 (scC s)).pv 3 (vi i.1.2)).pv 4 (vi (i.1.1:Nat)))) (λi=>s.length-i.1.1) ⟨(0,0),by simp⟩ ?_ λi=>?_
 ·repeat' first|show Cn _;constructor|exact rfl
 obtain⟨⟨i,n⟩,hi⟩:=i;simp only at hi;dsimp only;by_cases a:s.length<=i
 ·repeat' first|apply wZ;rfl|show Cn _;constructor|exact rfl|show(_:PV)=_;(rw[zql,decide_eq_false (by omega)];rfl);done|simp only[zql];omega|intro h;simp at h
 have d:i<s.length:=by omega
 focus(repeat' first|apply wZ;rfl|show Cn _;constructor|simp only[zql];omega|intro h;simp at h)
 apply cL pk;(iterate 6 rfl);rotate_left;rfl;(intro hw;rfl);(intro hw;apply axQ<;>omega);(intro _;rfl);rfl
 ·repeat (first|apply mV aS;iterate 4 rfl|apply aqW aS;iterate 4 rfl|apply aoJ aS;iterate 5 rfl)
  refine vC ?_;refine lF ?_
  repeat (first|apply aKy;(iterate 5 rfl);intro n'|apply mV aS;iterate 4 rfl|apply aEb aS;rfl;rfl;exactλ_=>rfl;rfl;rfl|apply aAe aS;rfl;rfl;rfl;rfl;exactλ_=>rfl;rfl;rfl)
  repeat' first|refine⟨⟨(i+1,n'),by simp only;omega⟩,?_,?_⟩|apply wZ;rfl|show Cn _;constructor|exact rfl|omega|simp only[zql];omega
 ·repeat'(show Cn _;constructor)
theorem auI(s:Sc)(hl:s.length<200000000000000)(hB:ScB s):PF Tryz.prog 13 [.agg (scC s)] (vb (aeM s)):=by
 by_cases a:¬s.length<=20
 ·have g:aeM s=false:=by unfold aeM;rw[decide_eq_false a];rfl
  rw[g];exact aDe s hl a
 replace a:=zdn a
 refine pF Tryz.func13 rfl λst=>?_
 focus(repeat' first|apply wZ;rfl|show Cn _;constructor)
 refine aC (X:={x:Nat×Int//x.1<=s.length/\x.2=((akF (s.take x.1):Nat):Int)/\x.2<=x.1*1000000000000000}) (λi=>((((St.nil 47 st).var 1 24 (scC s)).pv 3 (vi i.1.2)).pv 4 (vi (i.1.1:Nat)))) (λi=>s.length-i.1.1) ⟨(0,0),by simp,rfl,by simp⟩ ?_ λi=>?_
 ·repeat' first|show Cn _;constructor|exact rfl
 obtain⟨⟨i,n⟩,hi,hn,f⟩:=i;simp only at hi hn f;dsimp only;by_cases c:s.length<=i
 ·rw[ztl c]at hn
  subst hn;have e:aeM s=(decide ((s.length:Int)<=20)&&decide ((akF s:Int)<=400)):=by unfold aeM;rw[Bool.eq_iff_iff];simp;omega
  rw[e]
  repeat' first|apply wZ;rfl|show Cn _;constructor|exact rfl|show(_:PV)=_;(rw[zql]);done|simp only[zql];omega|intro h;simp at h
 have d:i<s.length:=by omega
 have hu:=aI0 d;have hT:=hB _ (zgm d);obtain⟨c1,c2,l,m,c5⟩:=hT;have hs:aFm s[i]=s[i].cols.length+s[i].unique.length+s[i].checks.length+s[i].foreign.length+s[i].sums.length:=rfl;have o:(s[i].cols.map Co.cells).length=s[i].cols.length:=zql _;have p:(s[i].unique.map I1).length=s[i].unique.length:=zql _;have q:(s[i].foreign.map Fr.cells).length=s[i].foreign.length:=zql _;have r:(s[i].sums.map Su.cells).length=s[i].sums.length:=zql _;have j:n+((s[i].cols.map Co.cells).length:Int)+((s[i].unique.map I1).length:Int)+(s[i].checks.length:Int)+((s[i].foreign.map Fr.cells).length:Int)+((s[i].sums.map Su.cells).length:Int)=((akF (s.take (i+1)):Nat):Int):=by omega
 have k:n+((s[i].cols.map Co.cells).length:Int)+((s[i].unique.map I1).length:Int)+(s[i].checks.length:Int)+((s[i].foreign.map Fr.cells).length:Int)+((s[i].sums.map Su.cells).length:Int)<=((i+1:Nat):Int)*1000000000000000:=by omega
 have u:0<=n:=by omega
 repeat' first|refine⟨⟨(i+1,n+((s[i].cols.map Co.cells).length:Int)+((s[i].unique.map I1).length:Int)+(s[i].checks.length:Int)+((s[i].foreign.map Fr.cells).length:Int)+((s[i].sums.map Su.cells).length:Int)),by simp only;omega,j,k⟩,?_,?_⟩|apply wZ;rfl|show Cn _;constructor|exact rfl|apply wI;rfl|apply gE;omega|omega|simp only[zql];omega|intro h;simp at h
noncomputable def fewX(s:Sc):Bool:=s.all λt=>t.checks.all λc=>decide (X.nodesR 25 (exOf c) 60<=60)
noncomputable def fewC(s:Sc)(b:Bs):Bool:=(aeM s&&xL b)&&fewX s
theorem aBA(s:Sc)(b:Bs)(hl:s.length<200000000000000)(hB:ScB s)(K:∀t∈s,tM t)(hb:BsB b):PF Tryz.prog 5 [.agg (scC s), .agg (bsC b)] (vb (fewC s b)):=by
 have r:=auI s hl hB;have u:=aCV b hb.1 hb.2;unfold fewC;by_cases hg:¬(aeM s&&xL b)=true
 ·have hg:(aeM s&&xL b)=false:=by simpa using hg
  rw[hg];generalize aeM s=A at*;generalize xL b=B at*;refine pF Tryz.func5 rfl λst=>?_
  repeat' first|apply wZ;rfl|show Cn _;constructor|exact rfl|(first|apply r|apply u)|apply wY;rfl|exfalso;simp_all;done|intro h;simp at h
 replace hg:=zdn hg
 rw[hg];rw[zba]at hg;rw[hg.1]at r;rw[hg.2]at u;have J:s.length<=20:=by have:=hg.1;unfold aeM at this;simp at this;exact this.1
 have p:(∀j (h:j<s.length),(s[j].checks.all λc=>decide (X.nodesR 25 (exOf c) 60<=60))=true)->fewX s=true:=λh=>by
  unfold fewX
  rw[zal]
  intro t ht
  obtain⟨j,hj,rfl⟩:=zgo ht
  exact h j hj
 have a:∀j (h:j<s.length),∀y (hy:y<s[j].checks.length),decide (X.nodesR 25 (exOf s[j].checks[y]) 60<=60)=false->fewX s=false:=λj hj y hy h=>by
  unfold fewX
  rw[<-Bool.not_eq_true,zal]
  intro q
  have:=zal.1 (q _ (zgm hj)) _ (zgm hy)
  rw[h]at this;cases this
 generalize fewX s=W at*;refine pF Tryz.func5 rfl λst=>?_
 focus(repeat' first|apply wZ;rfl|show Cn _;constructor|(first|apply r|apply u)|apply wY;rfl)
 refine aC (X:={x:Nat//x<=s.length/\∀j (h:j<s.length),j<x->(s[j].checks.all λc=>decide (X.nodesR 25 (exOf c) 60<=60))=true}) (λi=>(((St.nil 50 st).var 2 24 (scC s)).pv 7 (vi (i.1:Nat)))) (λi=>s.length-i.1) ⟨0,by omega,by omega⟩ ?_ λi=>?_
 ·repeat' first|show Cn _;constructor|exact rfl
 obtain⟨i,hi,G⟩:=i;dsimp only;by_cases I:s.length<=i
 ·have e:W=true:=p λj hj=>G j hj (by omega)
  repeat' first|apply wZ;rfl|show Cn _;constructor|exact rfl|show(_:PV)=_;(rw[e];rfl);done|simp only[zql];omega|intro h;simp at h
 have f:i<s.length:=by omega
 have C:(s[i].checks.all λc=>decide (X.nodesR 25 (exOf c) 60<=60))=true->∀j (h:j<s.length),j<i+1->(s[j].checks.all λc=>decide (X.nodesR 25 (exOf c) 60<=60))=true:=λh j hj g=>by
  rcases zls.1 g with q|q
  ·exact G j hj q
  ·subst q;exact h
 have m:=K _ (zgm f);have H:=(hB _ (zgm f)).k;have a:=a i f
 focus(repeat' first|apply wZ;rfl|show Cn _;constructor|simp only[zql];omega|intro h;simp at h)
 refine aC (X:={x:Nat//x<=s[i].checks.length/\∀j (h:j<s[i].checks.length),j<x->decide (X.nodesR 25 (exOf s[i].checks[j]) 60<=60)=true}) (λy=>((((St.nil 50 st).var 2 24 (scC s)).pv 7 (vi (i:Nat))).pv 8 (vi (y.1:Nat)))) (λy=>s[i].checks.length-y.1) ⟨0,by omega,by omega⟩ ?_ λy=>?_
 ·repeat' first|show Cn _;constructor|exact rfl
 obtain⟨y,hy,o⟩:=y;dsimp only;by_cases w:s[i].checks.length<=y
 ·have hw:=C (by
   rw[zal];intro c hc;obtain⟨j,hj,rfl⟩:=zgo hc;exact o j hj (by omega))
  repeat' first|refine⟨⟨i+1,by omega,hw⟩,?_,?_⟩|apply wZ;rfl|show Cn _;constructor|exact rfl|apply wI;rfl|apply gE;omega|omega|simp only[zql];omega|intro h;simp at h
 have l:y<s[i].checks.length:=by omega
 obtain⟨z,v⟩:=abU (m _ (zgm l));have F:=X.Few_spec z;have a:=a y l;have E:decide (X.nodesR 25 (exOf s[i].checks[y]) 60<=60)=true->∀j (h:j<s[i].checks.length),j<y+1->decide (X.nodesR 25 (exOf s[i].checks[j]) 60<=60)=true:=λh j hj g=>by
  rcases zls.1 g with q|q
  ·exact o j hj q
  ·subst q;exact h
 have d:s[i].checks[y]?=some (exOf s[i].checks[y]).cells:=by rw[v,zgg l]
 generalize decide (X.nodesR 25 (exOf s[i].checks[y]) 60<=60)=D at*;generalize exOf s[i].checks[y]=x at*;obtain⟨L,M,O,N⟩:=x;cases D with
 |true=>
  (repeat' first|refine⟨⟨y+1,by omega,E rfl⟩,?_,?_⟩|apply wZ;rfl|show Cn _;constructor|exact rfl|apply cL pk;(iterate 6 rfl);rotate_left;rfl;(intro hw;rfl);(intro hw;apply d<;>omega);(intro _;rfl);rfl|apply F|apply wY;rfl|apply wI;rfl|apply gE;omega|omega|simp only[zql];omega|intro h;simp at h)
 |false=>
  have e:=a rfl
  repeat' first|apply wZ;rfl|show Cn _;constructor|exact rfl|apply cL pk;(iterate 6 rfl);rotate_left;rfl;(intro hw;rfl);(intro hw;apply d<;>omega);(intro _;rfl);rfl|apply F|show(_:PV)=_;(rw[e];rfl);done|apply wY;rfl|apply wI;rfl|apply gE;omega|omega|intro h;simp at h
theorem CkB.of{s:Sc}{b:Bs}(h:fewC s b=true)(hB:ScB s)(d:∀t∈s,tM t):CkB 100 s b:=by
 unfold fewC aeM at h;simp only[zba,zde]at h;obtain⟨⟨⟨a,e⟩,c⟩,h4⟩:=h;exact⟨hB,a,λt ht=>by have:=aGt ht;unfold aFm at this;omega,d,aH3 c,by omega⟩
theorem aK5{A B:List (List PV)}(hl:A.length=B.length)(h:∀x∈A.zip B,WkL x.1 x.2):Wk (.seq A) (.seq B):=by
 have:=Wk.rows (f:=Prod.fst) (k:=Prod.snd) (l:=A.zip B) h;rwa[List.map_fst_zip (by omega),List.map_snd_zip (by omega)]at this
theorem wk1{a b:List PV}(h:WkL a b):Wk (.seq [a]) (.seq [b]):=aK5 rfl λx hx=>by
 rw[zms.1 hx];exact h
theorem wk2{a b c d:List PV}(h:WkL a b)(k:WkL c d):Wk (.seq [a,c]) (.seq [b,d]):=aK5 rfl λx hx=>by
 simp only[List.zip_cons_cons,List.zip_nil_left,zmc,List.not_mem_nil,or_false]at hx
 rcases hx with rfl|rfl
 ·exact h
 ·exact k
def zI :PV:= .val (.slice none 0 0)
structure ScG (s:Sc):Prop where
 l:s.length<200000000000000
 b:ScB s
 k:∀t∈s,tM t
end
end Go.Proofs.YtnogfoojjaainaaGreatDoor
namespace Go.Proofs.YtnogfoojjaainaaGreatDoor
open Go Go.Abs Go.ChangeShapes Go.WideShapes Go.ChangeAt Go.RowKit
set_option maxRecDepth 10000
theorem aKg{N n:Nat}{ps:List PV}(h:bQ Tryz.prog N n 109 ps):∃v:Co,ps=v.cells:=by
 obtain⟨m,f,_,rfl,e⟩:=cA aS rfl h;cases e with|cons ha e=>cases e with|cons hb e=>cases e with|cons hc e=>cases e with|cons hd e=>cases e with|nil=>
 obtain⟨a,rfl,_⟩:=zM aS rfl ha;obtain⟨b,rfl,_⟩:=bO aS rfl hb;obtain⟨c,rfl,_⟩:=bO aS rfl hc;obtain⟨d,rfl⟩:=aeR aS rfl hd;exact⟨⟨a,b,c,d⟩,rfl⟩
theorem aIa{N n t:Nat}{fs:List (TypeId×Nat)}(ht:tiK tt t=some (.struct fs)){α:Type}{f:α->List PV}(hf:fs.map (·.1)=[3,3,3])(mk:Int->Int->Int->α)(hm:∀a b c,f (mk a b c)=[vi a,vi b,vi c]){ps:List PV}(h:bQ Tryz.prog N n t ps):∃v:α,ps=f v:=by
 obtain⟨m,e,_,rfl,d⟩:=cA aS ht h;rw[hf]at d;cases d with|cons ha d=>cases d with|cons hb d=>cases d with|cons hc d=>cases d with|nil=>
 obtain⟨a,rfl,_⟩:=bO aS rfl ha;obtain⟨b,rfl,_⟩:=bO aS rfl hb;obtain⟨c,rfl,_⟩:=bO aS rfl hc;exact⟨mk a b c,(hm a b c).symm⟩
theorem axU :∀{l:List X.Ex},(∀e∈l,e.ok)->X.Ex.oks l
 |[],_=>by simp[X.Ex.oks]
 |e::l,h=>by
  simp only[X.Ex.oks]
  exact⟨h e (List.mem_cons_self ..),axU λx hx=>h x (List.mem_cons_of_mem _ hx)⟩
theorem aLb :∀{n:Nat}{ps:List PV},bQ Tryz.prog reachBytes n 62 ps->∃e:X.Ex,ps=e.cells/\e.ok:=by
 intro n
 induction n using Nat.strongRecOn with
 |_ n ih=>
  intro ps h;obtain⟨m,q,hm,rfl,d⟩:=cA aS rfl h;cases d with|cons ha d=>cases d with|cons hb d=>cases d with|cons hc d=>cases d with|cons hd d=>cases d with|nil=>
  obtain⟨a,rfl,_⟩:=bO aS rfl ha;obtain⟨b,rfl,_⟩:=bO aS rfl hb;obtain⟨c,rfl⟩:=aoR hc;obtain⟨p,rows,k,rfl,hl,o⟩:=cI aS rfl hd;obtain⟨l,rfl,j,hq⟩:=zY (f:=X.Ex.cells) λr g=>ih p (by omega) (o r g);refine⟨.mk a b c l,by rw[<-X.Ex.rows_map];rfl,?_⟩;simp only[X.Ex.ok];have i:reachBytes<2^62:=by decide
  exact⟨by omega,axU hq⟩
theorem aKH{n:Nat}{ps:List PV}(h:bQ Tryz.prog reachBytes n 57 ps):∃v:Tb,ps=v.cells/\TbB v/\tM v:=by
 obtain⟨m,w,_,rfl,g⟩:=cA aS rfl h;cases g with|cons ha g=>cases g with|cons hb g=>cases g with|cons hc g=>cases g with|cons hd g=>cases g with|cons he g=>cases g with|cons hf g=>cases g with|nil=>
 obtain⟨a,rfl,_⟩:=zM aS rfl ha;obtain⟨_,b,_,rfl,o,j⟩:=cI aS rfl hb;obtain⟨b,rfl⟩:=sS (f:=Co.cells) λr i=>aKg (j r i);obtain⟨_,c,_,rfl,p,j⟩:=cI aS rfl hc;obtain⟨c,rfl⟩:=sS (f:=I1) λr i=>by
  obtain⟨x,rfl,_⟩:=bO aS rfl (j r i);exact⟨x,rfl⟩
 obtain⟨_,d,_,rfl,ld,l⟩:=cI aS rfl hd;have k:∀c∈d,∃e:X.Ex,e.ok/\e.cells=c:=λc hc=>by
  obtain⟨e,u,g⟩:=aLb (l c hc)
  exact⟨e,g,u.symm⟩
 obtain⟨_,e,_,rfl,le,j⟩:=cI aS rfl he;obtain⟨e,rfl⟩:=sS (f:=Fr.cells) λr i=>aIa rfl rfl Fr.mk (λ_ _ _=>rfl) (j r i);obtain⟨_,f,_,rfl,q,j⟩:=cI aS rfl hf;obtain⟨f,rfl⟩:=sS (f:=Su.cells) λr i=>aIa rfl rfl Su.mk (λ_ _ _=>rfl) (j r i);rw[zql]at o p le q;have h:=show reachBytes<200000000000000 by decide
 exact⟨⟨a,b,c,d,e,f⟩,rfl,⟨Nat.lt_of_le_of_lt o h,Nat.lt_of_le_of_lt p h,Nat.lt_of_le_of_lt ld h,Nat.lt_of_le_of_lt le h,Nat.lt_of_le_of_lt q h⟩,k⟩
theorem aHh :Tryz.prog.bytesOf 57=136:=by kernel_rfl
theorem aKr{n:Nat}{ps:List PV}(h:bQ Tryz.prog reachBytes n 24 ps):∃v:{s:Sc//ScG s/\s.length<2000000000000},ps=scC v.1:=by
 obtain⟨m,g,_,rfl,a⟩:=cA aS rfl h;cases a with|cons ha a=>cases a with|nil=>
 obtain⟨_,c,_,rfl,f,e⟩:=ajO aS rfl ha;obtain⟨c,rfl,hl,hq⟩:=zY λr d=>aKH (e r d);rw[aHh,zql]at f;have h:reachBytes=140737488351232:=by decide
 exact⟨⟨c,⟨by omega,λt ht=>(hq t ht).1,λt ht=>(hq t ht).2⟩,by omega⟩,rfl⟩
end Go.Proofs.YtnogfoojjaainaaGreatDoor
namespace Go.Proofs.YtnogfoojjaainaaGreatDoor
open Go Go.Abs
attribute [local irreducible] Ev PWp
set_option maxRecDepth 10000
set_option maxHeartbeats 4000000
theorem auF(l:List Pt)(st:aD)(hl:l.length<1000000000000):PC Tryz.prog 264 [.seq (l.map Pt.cells)] st (LR 177 11 st (l.map Pt.cells)):=by
 refine pC Tryz.func264 rfl ?_
 repeat' first|show Cn (.r _ _ _);refine .rr ?_;(first|exact .inr ⟨rfl,hb h,zsr _⟩|exact .inl ⟨c,by rw[zql],a,aA _ _ _,bU a⟩);done|apply wZ;rfl|show Cn _;constructor|apply ap0 pk (f:=Pt.cells) l 96;(iterate 10 rfl);exactλ_=>rfl;exactλ_=>rfl;exact xE;(omega);(omega);rfl;intro c a|apply aDN pk;(iterate 6 rfl);intro b hb|intro h
theorem yS(l:List Pt)(st:aD)(hl:l.length<1000000000000):PC Tryz.prog 264 [.seq (l.map Pt.cells)] st λp S=>∃id,p= .vec id 11 0 l.length/\st id=none/\S=upd st id (some (.arr 177 (l.map Pt.cells))):=
 yZ (aeE (auF l st hl)) λp st' ⟨id,a,c,d⟩=>⟨p,st',zwr _,zsr _,id,by rw[a,zql],c,d⟩
end Go.Proofs.YtnogfoojjaainaaGreatDoor
namespace Go.Proofs.YtnogfoojjaainaaGreatDoor.T
open Go Go.Abs
attribute [local irreducible] Ev PWp
set_option maxRecDepth 10000
set_option maxHeartbeats 4000000
def ajK(p:Pt):Pt:={p with gone:=true}
def pN(k:Nm)(l:List Pt):List Pt:=l.map λp=>if aG p=k then ajK p else p
def eraseP(c:Cl)(k:Nm):Cl:={c with parts:=pN k c.parts}
def jU(k:Nm)(l:List Pt)(i:Nat):List Pt:=pN k (l.take i)++l.drop i
theorem arT{k:Nm}{l:List Pt}{i:Nat}(h:i<l.length):(jU k l i)[i]?=some l[i]:=by
 unfold jU pN;rw[List.getElem?_append_right (by simp;omega)];simp[Nat.min_eq_left (Nat.le_of_lt h)]
theorem wA{k:Nm}{l:List Pt}{i:Nat}(h:i<l.length):jU k l (i+1)=if aG l[i]=k then(jU k l i).set i (ajK l[i])else jU k l i:=by
 unfold jU pN;rw[List.take_succ_eq_append_getElem h,List.map_append];have a:((l.take i).map λp=>if aG p=k then ajK p else p).length=i:=by simp;omega
 split
 ·rename_i e
  rw[List.set_append_right _ _ (by omega),a,List.drop_eq_getElem_cons h];simp only[zmp,List.map_nil,zp e,Nat.sub_self,List.set_cons_zero,List.append_assoc,List.cons_append,List.nil_append]
 ·rename_i e
  rw[List.drop_eq_getElem_cons h];simp[e]
def aJl(st:aD)(c:Cl)(k:Nm)(p:PV)(st':aD):Prop:=
 ∃id,p= .agg [vi c.kind,vi c.val.kind,vi c.val.n,vs c.val.s, .vec id 11 0 c.parts.length]/\st'=upd st id (some (.arr 177 ((pN k c.parts).map Pt.cells)))/\st id=none
theorem azT(p:Pt)(d:Dt)(n:Int):aG p=⟨d,n⟩↔((aG p).dot.dev=d.dev/\(aG p).dot.seq=d.seq)/\(aG p).at_=n:=by
 rw[Nm.ext_iff,Dt.ext_iff]
theorem aFt(c:Cl)(d:Dt)(at_:Int)(st:aD)(hl:c.parts.length<1000000000000):PC Tryz.prog 200 [.agg c.cells, .agg d.cells,vi at_] st (aJl st c ⟨d,at_⟩):=by
 refine pC Tryz.func200 rfl ?_
 repeat' first|apply cP;rfl;(apply yS c.parts _ hl);rintro _ st' (⟨id,rfl,g,rfl⟩)|apply wZ;rfl|show Cn _;constructor|apply wY;rfl
 ·have g:st id=none:=g
  have j:jU ⟨d,at_⟩ c.parts 0=c.parts:=rfl;refine aC (X:={x:Nat//x<=c.parts.length}) (λi=>((((((((St.nil 34 (upd st id (some (.arr 177 ((jU ⟨d,at_⟩ c.parts i.1).map Pt.cells))))).pv 2 (vi at_)).var 3 116 ([vi c.kind,vi c.val.kind,vi c.val.n,vs c.val.s, .vec id 11 0 c.parts.length])).var 4 69 (d.cells)).var 6 116 ([vi 0,vi 0,vi 0,vs e0, .val (.slice none 0 0)])).pv 14 (.vec id 11 0 c.parts.length)).pv 15 (vi (c.parts.length:Nat))).pv 16 (vi (i.1:Nat)))) (λi=>c.parts.length-i.1) ⟨0,by omega⟩ ?_ λi=>?_
  ·repeat' first|show Cn (.t _ _);exact Cn.t0|show Cn _;constructor|exact rfl
  obtain⟨i,hi⟩:=i;dsimp only;have hf:c.parts.length<=i->jU ⟨d,at_⟩ c.parts i=pN ⟨d,at_⟩ c.parts:=λh=>by unfold jU;rw[ztl h,List.drop_eq_nil_of_le h,List.append_nil]
  have hg:=λh:i<c.parts.length=>arT (k:=⟨d,at_⟩) h
  repeat' first|apply wDx pk;rfl;kernel_rfl;rfl;rfl|apply Cn.cf;focus((apply oL);done)|show Cn (.r _ _ _);refine .rr ?_;(have e:=hf (by omega);refine⟨id,rfl,?_,g⟩;show upd st id _=upd st id _;rw[e]);done|((refine⟨⟨i+1,by omega⟩,?_,by simp only;omega⟩);(rw[wA ‹_›,zp ((azT _ _ _).2 h)]);focus((repeat' first|show Cn (.t _ _);exact .any (cN (by((simp only[St.pv,St.put,St.sst,St.setv,St.nil,St.var,eI]);(done))))|show Cn _;constructor|exact rfl);done))|((refine⟨⟨i+1,by omega⟩,?_,by simp only;omega⟩);(rw[wA ‹_›,zn λq=>by have:=(azT _ _ _).1 q;exact h this.1.1 this.1.2 this.2]);focus((repeat' first|show Cn (.t _ _);exact Cn.t0|show Cn _;constructor|exact rfl);done))|apply wZ;rfl|show Cn _;constructor|apply ldL pk Pt.elem (a:=(c.parts[i]'‹_›));rfl;rfl;rotate_left;rfl;(exact aA _ _ _);(intro _;exact hg ‹_›);rfl|apply ixA pk;(iterate 5 rfl);rotate_left;rfl;(intro hw;(exact(show _=((i:Nat):Int)from by omega)));(intro hw;(omega));rfl;(exact Nat.zero_add _)|apply stF pk (f:=Pt.cells) (c.parts[i]'‹_›) (ajK (c.parts[i]'‹_›));rfl;rfl;exact aA _ _ _;rfl;exact hg ‹_›;rfl;rfl|apply wY;rfl|omega|intro h;simp at h
theorem erase_spec(c:Cl)(d:Dt)(at_:Int)(hl:c.parts.length<1000000000000):PF Tryz.prog 200 [.agg c.cells, .agg d.cells,vi at_] (.agg (eraseP c ⟨d,at_⟩).cells):=λst=>
 fD (sz:=11) (aFt c d at_ st hl) λp st' h=>by
  obtain⟨id,rfl,rfl,a⟩:=h
  refine .inl ⟨id,177,(pN ⟨d,at_⟩ c.parts).map Pt.cells,_,st,aA _ _ _,akJ, .agg (.cons .refl (.cons .refl (.cons .refl (.cons .refl (.cons ?_ .nil))))),bU a,rfl,rfl⟩
  have e:((pN ⟨d,at_⟩ c.parts).map Pt.cells).length=c.parts.length:=by simp[pN]
  rw[<-e];exact .all
def wrF(d:Dt)(t:Int):List Pt->Int->Int
 |[],n=>n
 |p::r,n=>if p.dot≠d then wrF d t r n else if p.time≠t then-1 else wrF d t r (max n (p.at_+1))
def dI(c:Cl)(w:Sp):Int:=if withinB w.time 1 1125899906842624=true/\mayN ⟨⟨w.dev,w.seq⟩,0⟩=true then wrF ⟨w.dev,w.seq⟩ w.time c.parts 0 else-1
theorem aEG{d:Dt}{t n:Int}{l:List Pt}{i:Nat}(h:i<l.length):wrF d t (l.drop i) n=if l[i].dot≠d then wrF d t (l.drop (i+1)) n else if l[i].time≠t then-1 else wrF d t (l.drop (i+1)) (max n (l[i].at_+1)):=by
 rw[List.drop_eq_getElem_cons h];rfl
theorem anJ (c:Cl) (w:Sp) (hl:c.parts.length<1000000000000) (hf:∀p∈c.parts,bM p=true):PF Tryz.prog 267 [.agg c.cells, .agg w.cells] (vi (dI c w)):=by
 refine pF Tryz.func267 rfl (λst=> ?_)
 (repeat' first|apply wZ;rfl|show Cn _;constructor|exact rfl|((first|apply rP|apply (iI ⟨⟨w.dev,w.seq⟩,0⟩)))|show (_:PV)=_;(rw [dI,zn (by grind)]);done|apply wY;rfl|(intro h;simp at h))
 have hok:withinB w.time 1 1125899906842624=true/\mayN ⟨⟨w.dev,w.seq⟩,0⟩=true:=by grind
 refine aC (X:={x:Nat×Int//x.1<=c.parts.length/\0<=x.2/\x.2<=2000/\wrF ⟨w.dev,w.seq⟩ w.time (c.parts.drop x.1) x.2=wrF ⟨w.dev,w.seq⟩ w.time c.parts 0}) (λi=>(((((((St.nil 47 st).var 3 36 (w.cells)).var 5 69 ([(vi (w.dev)),(vi (w.seq))])).pv 6 ((vi (i.1.2)))).pv 25 (.seq (c.parts.map Pt.cells))).pv 26 ((vi ((c.parts.length:Nat))))).pv 27 ((vi ((i.1.1:Nat)))))) (λi=>c.parts.length-i.1.1) ⟨(0,0),by simp,by simp,by simp,rfl⟩ ?_ (λi=> ?_)
 ·(repeat' first|show Cn _;constructor|exact rfl|simp)
 obtain ⟨⟨i,n⟩,hi,hn0,hn1,hinv⟩:=i
 simp only at hi hn0 hn1 hinv
 dsimp only
 have hs:=λh:i<c.parts.length=>aEG (d:=⟨w.dev,w.seq⟩) (t:=w.time) (n:=n) h
 have hb:=λh:i<c.parts.length=>nO (hf _ (zgm h))
 have hd:=λh:i<c.parts.length=>(Dt.ext_iff (c.parts[i]'h).dot ⟨w.dev,w.seq⟩)
 by_cases him:i<c.parts.length
 ·have hs:=hs him
  have hb:=hb him
  have hd:=hd him
  (repeat' first|((first|refine ⟨⟨(i+1,n),by simp only;omega,hn0,hn1,by rw [<-hinv,hs];grind⟩, ?_,by simp only;omega⟩|refine ⟨⟨(i+1,max n ((c.parts[i]'him).at_+1)),by simp only;omega,by simp only;omega,by simp only;omega,by rw [<-hinv,hs];grind⟩, ?_,by simp only;omega⟩);focus ((repeat' first|show Cn _;constructor|exact rfl);done))|apply wZ;rfl|show Cn _;constructor|exact rfl|show (_:PV)=_;(rw [dI,zp hok,<-hinv,hs];grind);done|apply wI;rfl|apply gE;omega|omega|(intro h;simp at h)|intro h)
 ·(repeat' first|apply wZ;rfl|show Cn _;constructor|exact rfl|show (_:PV)=_;(rw [dI,zp hok,<-hinv,List.drop_eq_nil_of_le (by omega)];rfl);done|omega|(intro h;simp at h))
theorem aDw(c:FuncId)(caps:List PV)(f:Pt->Bool)(l:List Pt)(hl:l.length<4611686018427387904)(hf:∀p,PF Tryz.prog c ([.agg p.cells]++caps) (vb (f p))):PF Tryz.prog 315 [.seq (l.map Pt.cells), .fn c caps] (vi (match l.findIdx? f with|some k=>((k:Nat):Int)|none=> -1)):=by
 refine pF Tryz.func315 rfl λst=>?_
 repeat' first|apply wZ;rfl|show Cn _;constructor
 refine aC (X:={x:Nat//x<=l.length/\∀j (h:j<x) (d:j<l.length),f l[j]=false}) (λi=>(((((St.nil 19 st).pv 0 (.seq (l.map Pt.cells))).pv 1 (.fn c caps)).pv 7 (vi ((l.map Pt.cells).length:Nat))).pv 8 (vi (i.1:Nat)))) (λi=>l.length-i.1) ⟨0,by omega,by omega⟩ ?_ λi=>?_
 ·repeat' first|show Cn _;constructor|exact rfl
 obtain⟨i,hi,a⟩:=i;dsimp only
 repeat' first|refine⟨⟨i+1,by omega,λj e d=>by rcases zls.1 e with q|q;exact a j q d;subst q;assumption⟩,?_,?_⟩|apply wZ;rfl|show Cn _;constructor|exact rfl|apply hf|show(_:PV)=_;(first|rw[lN ‹_› ‹_› a];done|rw[mS ‹_› a]);done|apply wY;rfl|apply wI;rfl|apply gE;omega|omega|simp only[zql];omega|intro h;simp at h|intro h
def fC(c:Cl)(w:Sp)(up:Nm):Int:=if up=Nm.zero then 0 else match c.parts.findIdx? (λp=>decide (aG p=up))with
 |none=>4
 |some k=>match c.parts[k]? with
  |none=>4
  |some p=>if aM p≠w/\gM (aM p) w=false then 14 else 0
theorem aFC(up:Nm)(p:Pt):PF Tryz.prog 316 ([.agg p.cells]++[.rp up.cells]) (vb (decide (aG p=up))):=by
 refine pF Tryz.func316 rfl λst=>?_
 repeat' first|apply wZ;rfl|show Cn _;constructor|exact rfl|apply KR.mk;kernel_rfl|apply oL|show(_:PV)=_;(rw[Dt.eqb,Nm.eqb]);done|apply wY;rfl
theorem aoV(c:Cl)(w:Sp)(up:Nm)(hl:c.parts.length<1000000000000):PF Tryz.prog 268 [.agg c.cells, .agg w.cells, .agg up.cells] (vi (fC c w up)):=by
 have hz:up=Nm.zero↔(up.dot.dev=0/\up.dot.seq=0)/\up.at_=0:=by rw[Nm.ext_iff,Dt.ext_iff];rfl
 have hx:=aDw _ _ (λp=>decide (aG p=up)) c.parts (by omega) (aFC up);cases a:c.parts.findIdx? (λp=>decide (aG p=up))with
 |none=>
  rw[a]at hx;refine pF Tryz.func268 rfl λst=>?_
  (repeat' first|apply wZ;rfl|show Cn _;constructor|exact rfl|apply hx|show(_:PV)=_;(first|rw[fC,zp (hz.2 h)];done|rw[fC,zn (λq=>by have:=hz.1 q;grind),a]);done|apply bB 5;rfl;rfl|apply wY;rfl|intro h;simp at h)
 |some k=>
  rw[a]at hx;obtain⟨hk,e,f⟩:=List.findIdx?_eq_some_iff_getElem.1 a;have g:=Sp.ext_iff (aM c.parts[k]) w;have d:up≠Nm.zero->fC c w up=if aM c.parts[k]≠w/\gM (aM c.parts[k]) w=false then 14 else 0:=λh=>by
   rw[fC,zn h,a];simp only[zgg hk]
  refine pF Tryz.func268 rfl λst=>?_
  repeat' first|apply wZ;rfl|show Cn _;constructor|exact rfl|(first|apply hx|apply lU (c.parts[k]'hk)|apply nJ (aM (c.parts[k]'hk)) w)|show(_:PV)=_;(first|rw[fC,zp (hz.2 h)];done|rw[d λq=>by have:=hz.1 q;grind];grind);done|apply bB 5;rfl;rfl|apply wY;rfl|apply wI;rfl|apply gE;omega|intro h;simp at h
def tyF(w:Sp):List UInt8->Int->Nm->List Pt
 |[],_,_=>[]
 |b::r,n,up=>⟨⟨1,(b.toNat:Int),e0⟩,⟨w.dev,w.seq⟩,n,w.time,up.dot,up.at_,false⟩::tyF w r (n+1) ⟨⟨w.dev,w.seq⟩,n⟩
def typeP(c:Cl)(s:ByteArray)(w:Sp)(up:Nm):Cl×Int:=
 if rightP c≠0 then(Cl.zero,rightP c)
 else if dI c w<0 then(Cl.zero,1)
 else if 200<s.size\/2000<c.parts.length+s.size\/2000<dI c w+s.size then(Cl.zero,2)
 else if fC c w up≠0 then(Cl.zero,fC c w up)
 else({c with parts:=cS (c.parts++tyF w s.data.toList (dI c w) up)},0)
theorem acA{d:Dt}{t:Int}:∀{l:List Pt}{n:Int},(∀p∈l,bM p=true)->0<=n->n<=2000-> -1<=wrF d t l n/\wrF d t l n<=2000
 |[],n,_,h1,h2=>by simp only[wrF];omega
 |p::r,n,hf,h1,h2=>by
  have hp:=nO (hf p (by simp))
  have a:∀q∈r,bM q=true:=λq hq=>hf q (by simp[hq])
  simp only[wrF]
  split
  ·exact acA a h1 h2
  ·split
   ·omega
   ·exact acA a (by omega) (by omega)
theorem ajX{c:Cl}{w:Sp}(hf:∀p∈c.parts,bM p=true): -1<=dI c w/\dI c w<=2000:=by
 unfold dI;split
 ·exact acA hf (by omega) (by omega)
 ·omega
def upI(w:Sp)(n:Int)(up:Nm)(i:Nat):Nm:=if i=0 then up else⟨⟨w.dev,w.seq⟩,n+i-1⟩
def tyE(w:Sp)(n:Int)(up:Nm)(i:Nat)(b:UInt8):Pt:=⟨⟨1,(b.toNat:Int),e0⟩,⟨w.dev,w.seq⟩,n+i,w.time,(upI w n up i).dot,(upI w n up i).at_,false⟩
theorem azE(w:Sp):∀(bs:List UInt8)(n:Int)(up:Nm)(i:Nat)(b:UInt8),bs[i]?=some b->(tyF w bs n up)[i]?=some (tyE w n up i b)
 |[],_,_,_,_,h=>by simp at h
 |c::bs,n,up,0,b,h=>by
  simp at h;subst h
  simp[tyF,upI,tyE]
 |c::bs,n,up,i+1,b,h=>by
  rw[List.getElem?_cons_succ]at h
  have:=azE w bs (n+1) ⟨⟨w.dev,w.seq⟩,n⟩ i b h
  rw[tyF,List.getElem?_cons_succ,this]
  have e:upI w (n+1) ⟨⟨w.dev,w.seq⟩,n⟩ i=upI w n up (i+1):=by
   unfold upI;by_cases hi:i=0
   ·subst hi;simp
   ·rw[zn hi,zn (by omega)];congr 1;omega
  rw[tyE,tyE,e];congr 2;omega
theorem abX(w:Sp):∀(bs:List UInt8)(n:Int)(up:Nm),(tyF w bs n up).length=bs.length
 |[],_,_=>rfl
 |c::bs,n,up=>by rw[tyF,zlc,abX w bs];rfl
theorem aJX(w:Sp)(n:Int)(up:Nm)(i:Nat)(b:UInt8):PF Tryz.prog 269 [.agg [vi 1,vi (b.toNat:Int),vs e0,vi w.dev,vi w.seq,vi (n+i),vi w.time,vi ((upI w n up i).dot.dev),vi ((upI w n up i).dot.seq),vi ((upI w n up i).at_),vb false]] (.agg [vi w.dev,vi w.seq,vi (n+i)]):=oL (tyE w n up i b)
theorem type_spec (c:Cl) (s:ByteArray) (w:Sp) (d:Dt) (at_:Int) (hl:c.parts.length<1000000000000) (hs:s.size<1000000):PF Tryz.prog 198 [.agg c.cells,(vs (s)), .agg w.cells, .agg d.cells,(vi (at_))] (.tup [.agg (typeP c s w ⟨d,at_⟩).1.cells,(vi ((typeP c s w ⟨d,at_⟩).2))]):=by
 intro st
 by_cases hr:rightP c=0
 ·have hW:=(iE hr).2.2.1
  have hwr:=ajX (c:=c) (w:=w) hW.formed
  have hr0:=hr
  obtain ⟨tyL,htl⟩:∃t,tyF w s.data.toList (dI c w) ⟨d,at_⟩=t:=⟨_,rfl⟩
  have hty0:tyL.length=s.size:=by rw [<-htl,abX];rfl
  refine pC Tryz.func198 rfl ?_
  (repeat' first|(apply Cn.cf;focus (((first|apply (right_spec c (by omega))|apply (anJ c w hl hW.formed)|apply (aoV c w ⟨d,at_⟩ hl)));done))|(apply cP;rfl;(apply (yS c.parts _ hl));rintro _ st' (⟨id,rfl,hid,rfl⟩))|(show Cn (.r _ _ _);refine .any ?_;((refine ⟨_,_,_,rfl,zwf _,zsr _, ?_,rfl⟩;(((first|have e:typeP c s w ⟨d,at_⟩=(Cl.zero,1):=(by unfold typeP;grind);rw [e];rfl|have e:typeP c s w ⟨d,at_⟩=(Cl.zero,2):=(by unfold typeP;grind);rw [e];rfl|have e:typeP c s w ⟨d,at_⟩=(Cl.zero,fC c w ⟨d,at_⟩):=(by unfold typeP;grind);rw [e];rfl);done)))))|apply wZ;rfl|show Cn _;constructor|apply wY;rfl|omega|simp only [zql];omega|(intro h;simp at h)|intro h)
  ·have hid:st id=none:=hid
   refine aC (X:={x:Nat×Nat//x.1<=s.size/\st x.2=none}) (λi=>((((((((((St.nil 103 (upd st i.1.2 (some (.arr 177 ((c.parts++tyL.take i.1.1).map Pt.cells))))).pv 1 ((vs (s)))).var 5 116 (c.cells)).var 7 36 (w.cells)).var 10 116 ([(vi (0)),(vi (0)),(vi (0)),(vs (e0)), .val (.slice none 0 0)])).pv 13 ((vi (dI c w)))).var 14 303 ([(vi ((upI w (dI c w) ⟨d,at_⟩ i.1.1).dot.dev)),(vi ((upI w (dI c w) ⟨d,at_⟩ i.1.1).dot.seq)),(vi ((upI w (dI c w) ⟨d,at_⟩ i.1.1).at_))])).pv 16 (.vec i.1.2 11 0 (c.parts.length+i.1.1))).pv 68 ((vi ((s.size:Nat))))).pv 69 ((vi ((i.1.1:Nat)))))) (λi=>s.size-i.1.1) ⟨(0,id),by simp,hid⟩ ?_ (λi=> ?_)
   ·dsimp only
    rw [List.take_zero,List.append_nil]
    (repeat' first|show Cn (.t _ _);exact Cn.t0|show Cn _;constructor|exact rfl)
   obtain ⟨⟨i,id⟩,hi,hid⟩:=i
   simp only at hi hid
   dsimp only
   have hlen:(c.parts++tyL.take i).length=c.parts.length+i:=by rw [zla,zlt];omega
   have hlen2:((c.parts++tyL.take i).map Pt.cells).length=c.parts.length+i:=by rw [zql,hlen]
   by_cases him:i<s.size
   ·have hb:s[i]?=some s[i]:=getElem?_pos s i him
    have hp:=azE w s.data.toList (dI c w) ⟨d,at_⟩ i s[i] (by rw [<-hb];simp [him];rfl)
    rw [htl] at hp
    have hsplit:tyL.take (i+1)=tyL.take i++[tyE w (dI c w) ⟨d,at_⟩ i s[i]]:=by rw [List.take_add_one,hp];rfl
    (repeat' first|apply wDx pk;rfl;kernel_rfl;rfl;rfl|(apply Cn.cf;focus ((apply (aJX w (dI c w) ⟨d,at_⟩ i s[i]));done))|refine ⟨⟨(i+1,id'),by simp only;omega,gX hid'⟩, ?_, ?_⟩;((dsimp only;rw [hsplit,<-List.append_assoc]))|show Cn (.t _ _);exact .any (bI ‹_›)|apply wZ;rfl|show Cn _;constructor|exact rfl|show _=_;((focus (simp [upI];omega)))|(apply apV pk (f:=Pt.cells) [tyE w (dI c w) ⟨d,at_⟩ i s[i]] 96;(iterate 9 rfl);(exact aA _ _ _);(omega);exact λ_=>rfl;exact λ_=>rfl;exact xY;((focus (simp;omega)));((focus (simp;omega)));rfl;intro id' hid')|apply cvA pk.htt;(iterate 5 rfl);(refine ⟨?_, ?_⟩<;>(first|omega|have q:=(s[i]'him).toNat_lt;omega));rfl|apply sxA pk.htt i s[i];(iterate 6 rfl);exact hb;rfl|apply wY;rfl|omega|simp only [zql];omega|(intro h;simp at h))
   ·have hfin:tyL.take i=tyL:=ztl (by omega)
    rw [hfin]
    have hty:typeP c s w ⟨d,at_⟩=({c with parts:=cS (c.parts++tyL)},0):=by
     unfold typeP;rw [zn (by omega),zn (by omega),zn (by omega),zn (by omega),<-htl]
    (repeat' first|refine Cn.any ⟨_,_,st,rfl,zwr _,aR (aR (zsr _) hid) hid, ?_,rfl⟩;rw [hty];rfl|(apply Cn.cf;focus ((apply (afH (c.parts++tyL) (by rw [hfin] at hlen;omega)));done))|apply wZ;rfl|show Cn _;constructor|apply aHL 99;rfl;exact aA _ _ _;(rw [hfin] at hlen2;exact hlen2);exact akJ|apply wY;rfl|omega|(intro h;simp at h))
 ·refine pC Tryz.func198 rfl ?_
  (repeat' first|show Cn (.r _ _ _);refine .any ?_;((refine ⟨_,_,_,rfl,zwf _,zsr _, ?_,rfl⟩;(((have e:typeP c s w ⟨d,at_⟩=(Cl.zero,rightP c):=(by unfold typeP;rw [zp hr]);rw [e];rfl);done))))|apply wZ;rfl|show Cn _;constructor|(apply (right_spec c (by omega)))|apply wY;rfl|omega|intro h)
end Go.Proofs.YtnogfoojjaainaaGreatDoor.T
namespace Go.Proofs.YtnogfoojjaainaaGreatDoor
open Go Go.Abs
attribute [local irreducible] Ev PWp
set_option maxRecDepth 10000
set_option maxHeartbeats 4000000
def dQ(xs:List Pt)(i:Nat)(a:List Pt):List Pt:=xs.take i++a++xs.drop i
theorem aoS(xs:List Pt)(i:Nat)(a:List Pt):(dQ xs i a).map Pt.cells=(xs.map Pt.cells).take i++a.map Pt.cells++(xs.map Pt.cells).drop i:=by
 unfold dQ;rw[List.map_append,List.map_append,List.map_take,List.map_drop]
theorem apY{xs:List Pt}{i:Nat}{a:List Pt}(hi:i<=xs.length):(dQ xs i a).length=xs.length+a.length:=by
 unfold dQ;simp only[zla,zlt,zld];omega
def aIw(st:aD)(id:Nat)(zs:List Pt)(r:PV)(S:aD):Prop:=∃a,r= .vec a 11 0 zs.length/\upd st id none a=none/\S=upd (upd st id none) a (some (.arr 177 (zs.map Pt.cells)))
theorem amR(xs g:List Pt)(i id n:Nat)(st:aD)(P:st id=some (.arr 177 (xs.map Pt.cells)))(hn:xs.length=n)(hi:i<=n)(hy:g≠[])(hl:n+g.length<1000000000000):PC Tryz.prog 261 [.vec id 11 0 n,vi (i:Nat), .seq (g.map Pt.cells)] st (aIw st id (dQ xs i g)):=by
 obtain⟨m,hm⟩:∃m,g.length=m:=⟨_,rfl⟩;have v:(g.map Pt.cells).length=m:=(zql _).trans hm;have V:0<m:=by rw[<-hm];exact List.length_pos_iff.2 hy
 rw[hm]at hl;have y:(dQ xs i g).length=n+m:=by rw[apY (by omega),hn,hm]
 have H:=aoS xs i g;have hB:=xE;refine pC Tryz.func261 rfl ?_;by_cases O:i=n
 ·subst O
  have hz:dQ xs i g=xs++g:=by unfold dQ;rw[ztl (by omega),List.drop_of_length_le (by omega),List.append_nil]
  repeat' first|show Cn (.r _ _ _);refine .rr ?_;(exact⟨R,(by rw[y,hm]),kH G,(by rw[hz];rfl)⟩);done|apply wZ;rfl|show Cn _;constructor|apply apV pk (f:=Pt.cells) g 96;(iterate 9 rfl);(assumption);(omega);exactλ_=>rfl;exactλ_=>rfl;exact hB;(omega);(omega);rfl;intro R G|apply azI pk i i;(iterate 4 rfl);rotate_left;rfl;(intro _;exact aL rfl rfl);(intro _;exact aX);(intro _;omega);(intro _;omega);rfl|omega|intro h;simp at h
 have U:i<n:=by omega
 have u:(xs.map Pt.cells).length=n:=(zql _).trans hn;have A:∀r∈xs.map Pt.cells,r.all PV.one=true:=λr q=>by obtain⟨a,_,rfl⟩:=List.mem_map.1 q;rfl
 have B:∀r∈xs.map Pt.cells,r.length=11:=λr q=>by obtain⟨a,_,rfl⟩:=List.mem_map.1 q;rfl
 have D:∀r∈g.map Pt.cells,r.all PV.one=true:=λr q=>by obtain⟨a,_,rfl⟩:=List.mem_map.1 q;rfl
 have p:∀r∈g.map Pt.cells,r.length=11:=λr q=>by obtain⟨a,_,rfl⟩:=List.mem_map.1 q;rfl
 have hj:∀k,(xs.map Pt.cells++aT k 11).length=n+k:=λk=>by rw[zla,u];unfold aT;rw[List.length_replicate]
 generalize S:xs.map Pt.cells=X at*;generalize T:g.map Pt.cells=Y at*;have K:Y≠[]:=λe=>by rw[e]at v;simp at v;omega
 obtain⟨yc,Z,yr,J⟩:∃c cs I,Y=(c::cs)::I:=by
  cases C:Y with
  |nil=>exact absurd C K
  |cons a b=>
   cases ha:a with
   |nil=>have:=p a (by rw[C];simp);rw[ha]at this;cases this
   |cons c cs=>exact⟨c,cs,b,rfl⟩
 refine vH 0 m (id:=id) (rows:=X) rfl P sU u (by omega) (by omega) (λk o hk d=>?_) λo d=>?_
 ·have d:st o=none:=d
  have Q:(X++aT k 11).take i=X.take i:=List.take_append_of_le_length (by omega);have N:(X.take i++aT (n+m-i) 11).length=n+m:=by rw[zla,zlt];unfold aT;rw[List.length_replicate];omega
  have M:(aQ (X.take i++aT (n+m-i) 11) i Y).length=n+m:=by rw[dM (by omega),N]
  have x:aQ (aQ (X.take i++aT (n+m-i) 11) i Y) (i+m) (X.drop i)=(dQ xs i g).map Pt.cells:=by rw[H];rw[<-u];exact vR v (by omega)
  repeat' first|refine Cn.any ⟨_,_,upd (upd st id none) id2 (some (.arr 177 ((dQ xs i g).map Pt.cells))),rfl,zwr _,oO (by rw[x]) d,id2,(by rw[y];congr 1;omega),mQ l,rfl⟩|apply wD pk [8] [];kernel_rfl;rfl;rfl|apply wZ;rfl|show Cn _;constructor|refine amT pk (rows:=X++aT k 11) rfl rfl rfl rfl (.inr (aA _ _ _)) (by rw[hj];omega) rfl λc E F=>?_;have L:=F (aA _ _ _);rw[hj]at L|apply aaM pk (j:=i) (rows:=X++aT k 11);(iterate 4 rfl);rotate_left;rfl;rfl;exact .inr (aA _ _ _);(rw[hj];omega);exact aL rfl rfl;(rw[hj];omega)|refine apZ pk (kq:= .i64) (kn:= .i64) (i:=i) (m:=n+m-i) (sz:=11) (rows:=X++aT k 11) 96 rfl (congrArg (λz=>some (PV.val (.int .i64 z))) (show _=((n+m-i:Nat):Int)from by omega)) rfl (by kernel_rfl) rfl rfl rfl rfl (aA _ _ _) (by rw[hj];omega) (by rw[hj];omega) (by rw[hj];omega) hB (by omega) (by omega) (by omega) rfl λid2 l=>?_;rw[Q];have W:o≠id2:=(λe=>by rw[<-e]at l;have l:=(aA _ _ _).symm.trans l;cases l)|apply eM pk (i) (n+m-i);(iterate 4 rfl);rotate_left;rfl;(intro _;exact⟨_,aL rfl rfl,by omega⟩);(intro _;exact⟨_,aX,by omega⟩);(intro _;omega);(intro _;omega);rfl|apply eM pk (i+m) (n-i);(iterate 4 rfl);rotate_left;rfl;(intro _;exact⟨_,aL rfl (show _=((i+m:Nat):Int)from by omega),by omega⟩);(intro _;exact⟨_,aX,by omega⟩);(intro _;omega);(intro _;omega);rfl|apply eM pk (i) (n-i);(iterate 4 rfl);rotate_left;rfl;(intro _;exact⟨_,aL rfl rfl,by omega⟩);(intro _;exact⟨_,aX,by omega⟩);(intro _;omega);(intro _;omega);rfl|refine kR pk (e:=177) (sz:=11) (rows:=X.take i++aT (n+m-i) 11) (new:=Y) (m:=Y.length) (n:=Y.length) (len:=n+m-i) rfl rfl rfl rfl rfl (aA _ _ _) (by omega) (rS aS rfl rfl rfl p D) rfl p (by omega) (by omega) rfl ?_|refine kR pk (e:=177) (sz:=11) (rows:=aQ (X.take i++aT (n+m-i) 11) i Y) (new:=X.drop i) (m:=n-i) (n:=n-i) (len:=n-i) rfl rfl rfl rfl rfl (aA _ _ _) (by omega) (mP (k:=k) rfl (.inr ((aB ‹_›).trans ((aB ‹_›).trans (aA _ _ _)))) u (by omega) sU A (by omega) (by omega)) (by rw[zld];omega) (λr q=>B r (List.mem_of_mem_drop q)) (by omega) (by omega) rfl ?_|omega|intro h;simp at h|intro h
 ·have d:st o=none:=d
  have M:(aQ (X++aT m 11) (i+m) (X.drop i)).length=n+m:=by rw[dM (by rw[zld,hj];omega),hj]
  have x:aQ (aQ (X++aT m 11) (i+m) (X.drop i)) i Y=(dQ xs i g).map Pt.cells:=by rw[H];exact wS v (by omega)
  repeat' first|refine Cn.any ⟨_,_,upd (upd st id none) o (some (.arr 177 ((dQ xs i g).map Pt.cells))),rfl,zwr _,oN (by rw[x]),o,(by rw[y]),kH d,rfl⟩|apply wD pk [8] [];kernel_rfl;rfl;rfl|apply wZ;rfl|show Cn _;constructor|apply eM pk (i) (n-i);(iterate 4 rfl);rotate_left;rfl;(intro _;exact⟨_,aL rfl rfl,by omega⟩);(intro _;exact⟨_,aX,by omega⟩);(intro _;omega);(intro _;omega);rfl|apply eM pk (i) (n+m-i);(iterate 4 rfl);rotate_left;rfl;(intro _;exact⟨_,aL rfl rfl,by omega⟩);(intro _;exact⟨_,aX,by omega⟩);(intro _;omega);(intro _;omega);rfl|apply eM pk (i+m) (n-i);(iterate 4 rfl);rotate_left;rfl;(intro _;exact⟨_,aL rfl (show _=((i+m:Nat):Int)from by omega),by omega⟩);(intro _;exact⟨_,aX,by omega⟩);(intro _;omega);(intro _;omega);rfl|refine amT pk (rows:=X++aT m 11) rfl rfl rfl rfl (.inl (aA _ _ _)) (by rw[hj];omega) rfl λc E F=>?_;rw[hj]at E|apply aaM pk (j:=n+m) (rows:=X++aT m 11);(iterate 4 rfl);rotate_left;rfl;rfl;exact .inl (aA _ _ _);(rw[hj];omega);exact aL rfl (show _=((n+m:Nat):Int)from by omega);(rw[hj];omega)|refine ovA pk (w:=true) (tS:=114) (tR:=4) (off:=i+m) (len:=n-i) (e:=177) (sz:=11) (rows:=X++aT m 11) rfl rfl Tryz.func310 (by kernel_rfl) (by kernel_rfl) (by kernel_rfl) (by kernel_rfl) rfl rfl rfl J rfl (.inl (aA _ _ _)) (by rw[hj];omega) sU (by omega) ?_ rfl rfl ?_;rotate_left|refine kR pk (e:=177) (sz:=11) (rows:=X++aT m 11) (new:=X.drop i) (m:=n+m-i) (n:=n-i) (len:=n-i) rfl rfl rfl rfl rfl (aA _ _ _) (by rw[hj];omega) (mP (k:=m) rfl (.inl (aA _ _ _)) u (by omega) sU A (by omega) (by omega)) (by rw[zld];omega) (λr q=>B r (List.mem_of_mem_drop q)) (by omega) (by omega) rfl ?_|refine kR pk (e:=177) (sz:=11) (rows:=aQ (X++aT m 11) (i+m) (X.drop i)) (new:=Y) (m:=Y.length) (n:=Y.length) (len:=n+m-i) rfl rfl rfl rfl rfl (aA _ _ _) (by omega) (rS aS rfl rfl rfl p D) rfl p (by omega) (by omega) rfl ?_|omega|intro h;simp at h|intro h
end Go.Proofs.YtnogfoojjaainaaGreatDoor
