import Derived.Test.YtfablfldonhkiaaGreatDoorClAh
import Derived.Test.YtfablfldonhkiaaGreatDoorClAg
import Derived.Test.YtfablfldonhkiaaGreatDoorAbsJ
set_option linter.unusedSimpArgs false
set_option linter.unusedVariables false
namespace Go.Proofs.YtfablfldonhkiaaGreatDoor.X
open Go Go.Abs
attribute [local irreducible] Ev PWp
set_option maxRecDepth 10000
set_option maxHeartbeats 4000000
def wM (e:Ex):Int:=if rG 20 e then 2 else if bT e then 0 else 1
theorem gY {e:Ex} (a:e.ok):PF Tryz.prog 131 [.agg e.cells] (vi (wM e)):=by
 have c:=aAw 20 e 20 rfl (by omega) a;have d:=mF e a;unfold wM;generalize rG 20 e=D at*;generalize bT e=F at*;obtain ⟨k,n,v,of⟩:=e;refine pF Tryz.func131 rfl (λst=> ?_)
 (repeat' first|apply wZ;rfl|show Cn _;constructor|exact rfl|((first|apply c|apply d))|show (_:PV)=_;(simp [*];done);done|apply wY;rfl|intro h)
mutual
def fJ (m:Int):Ex->Bool
 | .mk k n _ o=>(!decide (k=0)||decide (n<m))&&abD m o
def abD (m:Int):List Ex->Bool
 |[]=>true
 |e::es=>fJ m e&&abD m es
end
theorem qB (m:Int):∀l,abD m l=l.all (fJ m)
 |[]=>rfl
 |e::es=>by simp [abD,qB m es]
mutual
theorem adK (m:Int):∀(e:Ex),e.ok->PF Tryz.prog 234 [.agg e.cells,(vi (m))] (vb (fJ m e))
 | .mk k n v of,hok=>by
  simp only [Ex.ok] at hok
  have q:=yT m of
  have o:=Ex.rows_len of
  have hT:fJ m (.mk k n v of)=((!decide (k=0)||decide (n<m))&&of.all (fJ m)):=by rw [fJ,qB]
  refine pF Tryz.func234 rfl (λst=> ?_)
  focus ((repeat' first|apply wZ;rfl|show Cn _;constructor))
  refine aC (X:={i:Nat//i<=of.length/\(of.take i).all (fJ m)=true}) (λi=>((((((St.nil 28 st).pv 1 ((vi (m)))).var 2 129 ((Ex.mk k n v of).cells)).pv 8 (.seq (Ex.rows of))).pv 9 ((vi (((Ex.rows of).length:Nat))))).pv 10 ((vi ((i.1:Nat)))))) (λi=>of.length-i.1) ⟨0,by omega,by simp⟩ ?_ (λi=> ?_)
  ·(repeat' first|show Cn _;constructor|exact rfl)
  obtain ⟨i,hi,a⟩:=i
  dsimp only
  by_cases j:of.length<=i
  ·rw [wV (by omega)] at a
   rw [a,Bool.and_true] at hT
   (repeat' first|apply wZ;rfl|show Cn _;constructor|exact rfl|show (_:PV)=_;((rw [hT];done));done|omega|(intro h;simp at h))
  obtain ⟨x,hx⟩:=fX (l:=of) (i:=i) (by omega)
  have c:=Ex.rows_get hx
  have hm:=List.mem_of_getElem? hx
  have f:=q x hm (Ex.oks_mem hok.2 hm)
  have d:=aoU (p:=fJ m) hx
  have g:=λh=>axT (p:=fJ m) hx h
  generalize fJ m x=D at*
  obtain ⟨k',n',s,r⟩:=x
  cases D with
  |false=>
   rw [g rfl,Bool.and_false] at hT
   (repeat' first|apply wZ;rfl|show Cn _;constructor|exact rfl|apply dM pk;(iterate 6 rfl);rotate_left;rfl;(intro hw;rfl);(intro hw;apply c<;>omega);(intro _;exact (Ex.cells_len _));rfl|(apply f)|show (_:PV)=_;(rw [hT]);done|apply wY;rfl|omega|(intro h;simp at h))
  |true=>
   rw [a] at d
   (repeat' first|(refine ⟨⟨i+1,by omega,d⟩, ?_, ?_⟩)|apply wZ;rfl|show Cn _;constructor|exact rfl|apply dM pk;(iterate 6 rfl);rotate_left;rfl;(intro hw;rfl);(intro hw;apply c<;>omega);(intro _;exact (Ex.cells_len _));rfl|(apply f)|apply wY;rfl|omega|simp only [zql];omega|(intro h;simp at h))
theorem yT (m:Int):∀(l:List Ex) (x:Ex),x∈l->x.ok->PF Tryz.prog 234 [.agg x.cells,(vi (m))] (vb (fJ m x))
 |[],_,h,_=>by cases h
 |e::es,x,h,hok=>by
  rcases zmc.1 h with h|h
  ·rw [h] at hok⊢;exact adK m e hok
  ·exact yT m es x h hok
end
def aaR (nb:Bool):Int->List Int->Bool
 |_,[]=>true
 |last,x::xs=>if ((nb&& !decide (x=0))&& !decide (x=1))||((!decide (x=0)&& !decide (last=0))&& !decide (x=last)) then false else aaR nb (if x=0 then last else x) xs
theorem acA {α:Type} {l:List α} {i:Nat} {x:α} (h:l[i]?=some x):l.drop i=x::l.drop (i+1):=by
 obtain ⟨hl,rfl⟩:=zge.1 h;exact List.drop_eq_getElem_cons hl
theorem axV {α:Type} {l:List α} {i:Nat} (h:¬i<l.length):l.drop i=[]:=List.drop_eq_nil_of_le (by omega)
theorem sR {m:Int} {nb:Bool} {f:FuncId} {caps:List PV} {l:List Int} (hl:l.length<2^62):PF Tryz.prog 211 [.agg [(vi (m)),(vb (nb)), .fn f caps], .seq (kV l)] (vb (aaR nb 0 l)):=by
 have g:=ahQ l;refine pF Tryz.func211 rfl (λst=> ?_)
 focus ((repeat' first|apply wZ;rfl|show Cn _;constructor))
 refine aC (X:={x:Nat×Int//x.1<=l.length/\aaR nb 0 l=aaR nb x.2 (l.drop x.1)}) (λi=>((((((St.nil 41 st).var 2 264 ([(vi (m)),(vb (nb)), .fn f caps])).pv 5 ((vi (i.1.2)))).pv 8 (.seq (kV l))).pv 9 ((vi ((((kV l)).length:Nat))))).pv 10 ((vi ((i.1.1:Nat)))))) (λi=>l.length-i.1.1) ⟨(0,0),by simp,by simp⟩ ?_ (λi=> ?_)
 ·(repeat' first|show Cn _;constructor|exact rfl)
 obtain ⟨⟨i,last⟩,hi,a⟩:=i;dsimp only at hi a;dsimp only;generalize aaR nb 0 l=R at*;by_cases e:l.length<=i
 ·rw [axV (by omega)] at a
  (repeat' first|apply wZ;rfl|show Cn _;constructor|exact rfl|show (_:PV)=_;(rw [a];rfl);done|omega|(intro h;simp at h))
 obtain ⟨x,hx⟩:=fX (l:=l) (i:=i) (by omega);have c:=agM hx;rw [acA hx] at a;simp only [aaR] at a;by_cases hc:(((nb&& !decide (x=0))&& !decide (x=1))||((!decide (x=0)&& !decide (last=0))&& !decide (x=last)))=true
 ·rw [zp hc] at a
  (repeat' first|apply wZ;rfl|show Cn _;constructor|exact rfl|apply dM pk;(iterate 6 rfl);rotate_left;rfl;(intro hw;rfl);(intro hw;apply c<;>omega);(intro _;rfl);rfl|show (_:PV)=_;(rw [a]);done|omega|((exfalso;simp at*;grind))|(intro h;simp at h))
 rw [zn hc] at a;by_cases d:x=0
 ·rw [zp d] at a
  (repeat' first|(refine ⟨⟨(i+1,last),by simp only;omega,a⟩, ?_, ?_⟩)|apply wZ;rfl|show Cn _;constructor|exact rfl|apply dM pk;(iterate 6 rfl);rotate_left;rfl;(intro hw;rfl);(intro hw;apply c<;>omega);(intro _;rfl);rfl|omega|simp only [zql];omega|intro h;simp at h;omega|(intro h;simp at h)|intro h)
 ·rw [zn d] at a
  (repeat' first|(refine ⟨⟨(i+1,x),by simp only;omega,a⟩, ?_, ?_⟩)|apply wZ;rfl|show Cn _;constructor|exact rfl|apply dM pk;(iterate 6 rfl);rotate_left;rfl;(intro hw;rfl);(intro hw;apply c<;>omega);(intro _;rfl);rfl|omega|simp only [zql];omega|((exfalso;simp at*;grind))|(intro h;simp at h)|intro h)
mutual
def bW (l:List Int):Ex->Int×Int
 | .mk k n v o=>if k=0 then (l.getD n.toNat 0,0) else if k=1 then (v.kind,0) else
   match gZ l o with
   |(_,some no)=>(0,no)
   |(got,none)=>if aaR (tD k) 0 got then (1,0) else (0,6)
def gZ (l:List Int):List Ex->List Int×Option Int
 |[]=>([],none)
 |e::es=>if (bW l e).2=0 then ((bW l e).1::(gZ l es).1,(gZ l es).2) else ([],some (bW l e).2)
end
theorem wH {l:List Int}:∀{os:List Ex},(∀x∈os,(bW l x).2=0)->gZ l os=(os.map λx=>(bW l x).1,none)
 |[],_=>rfl
 |e::es,h=>by
  have a:=wH (l:=l) (os:=es) λx hx=>h x (by simp [hx])
  simp [gZ,h e (by simp),a]
theorem wU {l:List Int}:∀{os:List Ex} {i:Nat} {x:Ex},(∀j y,j<i->os[j]?=some y->(bW l y).2=0)->os[i]?=some x->(bW l x).2≠0->(gZ l os).2=some (bW l x).2
 |[],_,_,_,h,_=>by simp at h
 |e::es,0,x,_,h,hx=>by
  simp at h;subst h
  simp [gZ,hx]
 |e::es,i+1,x,h0,h,hx=>by
  simp at h
  have a:=h0 0 e (by omega) (by simp)
  have c:=wU (l:=l) (os:=es) (i:=i) (λj y hj hy=>h0 (j+1) y (by omega) (by simpa using hy)) h hx
  simp [gZ,a,c]
theorem vT {k n:Int} {v:Vl} {of:List Ex} (h:bT (.mk k n v of)=true) (a:¬k=0) (c:¬k=1):(2<=k/\k<=10)/\n=0/\vz v=true/\(of.length:Int)=lN k/\∀x∈of,bT x=true:=by
 simp only [bT,nL,if_false,zba,zde,Bool.or_eq_true,a,c,false_or,oR,zal] at h;exact ⟨h.1.1.1.1,h.1.1.1.2,h.1.1.2,h.1.2,h.2⟩
theorem apW (k:Int):lN k<=2/\1<=lN k:=by unfold lN;split<;>omega
theorem lR :Tryz.prog.bytesOf 3=8:=by kernel_rfl
theorem sQ {α β:Type} {l:List α} {i:Nat} {x:α} (h:l[i]?=some x) (f:α->β):(l.take (i+1)).map f=(l.take i).map f++[f x]:=by
 obtain ⟨hl,rfl⟩:=zge.1 h;rw [List.take_succ_eq_append_getElem hl,List.map_append];rfl
theorem arY {k n:Int} {v:Vl} {of:List Ex} (l:List Int) (hl:l.length<2^62) (hk:k=0\/k=1) (hf:bT (.mk k n v of)=true) (ht:fJ l.length (.mk k n v of)=true):
  PF Tryz.prog 235 [.agg (Ex.mk k n v of).cells, .seq (kV l)] (.tup [(vi ((bW l (.mk k n v of)).1)),(vi ((bW l (.mk k n v of)).2))]):=by
 by_cases c:k=0
 ·subst c
  simp [bT,nL] at hf;simp [fJ] at ht;have hn:n.toNat<l.length:=by omega
  obtain ⟨x,hx⟩:=fX hn;have a:=agM hx;have e:bW l (.mk 0 n v of)=(x,0):=by simp [bW,hx]
  rw [e];have f:n=((n.toNat:Nat):Int):=by omega
  refine pF Tryz.func235 rfl (λst=> ?_)
  (repeat' first|apply wZ;rfl|show Cn _;constructor|exact rfl|apply dM pk;(iterate 6 rfl);rotate_left;rfl;(intro hw;exact f);(intro hw;apply a<;>omega);(intro _;rfl);rfl)
 ·have d:k=1:=by omega
  subst d;have e:bW l (.mk 1 n v of)=(v.kind,0):=by simp [bW]
  rw [e];refine pF Tryz.func235 rfl (λst=> ?_)
  (repeat' first|apply wZ;rfl|show Cn _;constructor|exact rfl)
mutual
theorem acC (l:List Int) (hl:l.length<2^62):∀(e:Ex),e.ok->bT e=true->fJ l.length e=true->PF Tryz.prog 235 [.agg e.cells, .seq (kV l)] (.tup [(vi ((bW l e).1)),(vi ((bW l e).2))])
 | .mk k n v of,hok,hf,ht=>by
  have S:=yZ l hl of
  by_cases B:k=0\/k=1
  ·exact arY l hl B hf ht
  have A:¬k=0:=by omega
  have C:¬k=1:=by omega
  obtain ⟨hk,hn,hv,Q,u⟩:=vT hf A C
  simp only [fJ,zba,qB,zal] at ht
  simp only [Ex.ok] at hok
  have hm:=apW k
  have R:=Ex.rows_len of
  obtain ⟨H,caps,d,_⟩:=abL hk.1 hk.2
  have p:bW l (.mk k n v of)=match gZ l of with|(_,some no)=>(0,no)|(got,none)=>if aaR (tD k) 0 got then (1,0) else (0,6):=by simp only [bW,zn A,zn C];try rfl
  generalize bW l (.mk k n v of)=E at*
  refine pF Tryz.func235 rfl (λst=> ?_)
  focus ((repeat' first|apply wZ;rfl|show Cn _;constructor|omega|intro h))
  refine aaW 6 3 rfl rfl (λid c=> ?_)
  have c:st id=none:=c
  refine aC (X:={x:Nat×Nat//x.1<=of.length/\st x.2=none/\∀j y,j<x.1->of[j]?=some y->(bW l y).2=0}) (λi=>(((((((St.nil 53 (upd st i.1.2 (some (.tok 3)))).pv 1 (.seq (kV l))).var 2 129 ((Ex.mk k n v of).cells)).pv 6 (.own i.1.2 (((of.take i.1.1).map λy=>(bW l y).1).map I1))).pv 26 (.seq (Ex.rows of))).pv 27 ((vi (((Ex.rows of).length:Nat))))).pv 28 ((vi ((i.1.1:Nat)))))) (λi=>of.length-i.1.1) ⟨(0,id),by simp,c,by simp⟩ ?_ (λi=> ?_)
  ·(repeat' first|show Cn (.t _ _);exact Cn.t0|show Cn _;constructor|exact rfl)
  obtain ⟨⟨i,id⟩,hi,c,hz⟩:=i
  simp only at hi c hz
  dsimp only
  by_cases P:of.length<=i
  ·have K:of.take i=of:=wV (by omega)
   have w:gZ l of=(of.map λy=>(bW l y).1,none):=wH λx hx=>by
    obtain ⟨j,hj⟩:=List.mem_iff_getElem?.1 hx
    exact hz j x (by have:=(zge.1 hj).1;omega) hj
   rw [w] at p;simp only at p;rw [K];have s:=sR (m:=lN k) (nb:=tD k) (f:=H) (caps:=caps) (l:=of.map λy=>(bW l y).1) (by simp;omega);unfold kV at s;generalize aaR (tD k) 0 (of.map λy=>(bW l y).1)=G at*;cases G with
   |true=>
    rw [zp rfl] at p
    (repeat' first|(apply Cn.cf;focus (((apply eM));done))|(apply cV;focus (((apply s));done))|show Cn (.e _ _ _ _);refine .any ?_;((refine ⟨_,_,_,rfl,zwr _,cU ‹_›, ?_,rfl⟩;(((rw [p]);done))))|apply wZ;rfl|show Cn _;constructor|apply KR.mk;kernel_rfl|apply lT pk;(iterate 4 rfl);(focus repeat' constructor);rfl;exact d;rfl|apply wY;rfl|omega|(intro h;simp at h))
   |false=>
    rw [zn (by simp)] at p
    (repeat' first|(apply Cn.cf;focus (((apply eM));done))|(apply cV;focus (((apply s));done))|show Cn (.e _ _ _ _);refine .any ?_;((refine ⟨_,_,_,rfl,zwr _,cU ‹_›, ?_,rfl⟩;(((rw [p]);done))))|apply wZ;rfl|show Cn _;constructor|apply KR.mk;kernel_rfl|apply lT pk;(iterate 4 rfl);(focus repeat' constructor);rfl;exact d;rfl|apply wY;rfl|omega|(intro h;simp at h))
  obtain ⟨x,hx⟩:=fX (l:=of) (i:=i) (by omega)
  have q:=Ex.rows_get hx
  have o:=List.mem_of_getElem? hx
  have F:=S x o (Ex.oks_mem hok.2 o) (u x o) (ht.2 x o)
  have g:=λh0=>wU (l:=l) hz hx h0
  have M:(bW l x).2=0->∀j y,j<i+1->of[j]?=some y->(bW l y).2=0:=λh0 j y hj hy=>by
   by_cases J:j=i
   ·subst J;rw [hx] at hy;injection hy with hy;subst hy;exact h0
   ·exact hz j y (by omega) hy
  have D:((of.take (i+1)).map λy=>(bW l y).1).map I1=((of.take i).map λy=>(bW l y).1).map I1++[I1 (bW l x).1]:=by rw [sQ hx (λy=>(bW l y).1),List.map_append];rfl
  have I:(bW l x).2≠0->E=(0,(bW l x).2):=λh0=>by
   have:=g h0
   rw [p]
   revert this
   cases gZ l of with|mk a b=>intro this;simp only at this;subst this;rfl
  clear g p
  generalize W:bW l x=r at*
  obtain ⟨U,V⟩:=r
  obtain ⟨k',n',Y,T⟩:=x
  dsimp only at*
  by_cases O:V=0
  ·have L:=M O
   (repeat' first|refine ⟨⟨(i+1,N),by simp only;omega,jG z,L⟩, ?_, ?_⟩;((dsimp only;rw [D]))|show Cn (.t _ _);exact .any (bR ‹_›)|apply wZ;rfl|show Cn _;constructor|exact rfl|apply dM pk;(iterate 6 rfl);rotate_left;rfl;(intro hw;rfl);(intro hw;apply q<;>omega);(intro _;exact (Ex.cells_len _));rfl|(apply F)|show _=_;((simp [I1];done))|(apply apS pk (U) 8;(iterate 8 rfl);exact aA _ _ _;exact λ_=>rfl;exact λ_=>rfl;exact lR;((simp;omega));((simp;omega));rfl;intro N z)|apply wY;rfl|omega|simp only [zql];omega|(intro h;simp at h)|intro h)
  ·have e:=I O
   (repeat' first|show Cn (.e _ _ _ _);refine .any ?_;((refine ⟨_,_,_,rfl,zwr _,cU ‹_›, ?_,rfl⟩;(((rw [e]);done))))|apply wZ;rfl|show Cn _;constructor|apply dM pk;(iterate 6 rfl);rotate_left;rfl;(intro hw;rfl);(intro hw;apply q<;>omega);(intro _;exact (Ex.cells_len _));rfl|(apply F)|apply wY;rfl|omega|(intro h;simp at h)|intro h)
theorem yZ (l:List Int) (hl:l.length<2^62):∀(os:List Ex) (x:Ex),x∈os->x.ok->bT x=true->fJ l.length x=true->PF Tryz.prog 235 [.agg x.cells, .seq (kV l)] (.tup [(vi ((bW l x).1)),(vi ((bW l x).2))])
 |[],_,h,_=>by cases h
 |e::es,x,h,hok=>by
  rcases zmc.1 h with h|h
  ·rw [h] at hok⊢;exact acC l hl e hok
  ·exact yZ l hl es x h hok
end
def lA (e:Ex) (l:List Int):Int×Int:=if wM e≠0 then (0,wM e) else if fJ l.length e then bW l e else (0,4)
theorem afY {e:Ex} (h:wM e=0):rG 20 e=false/\bT e=true:=by
 unfold wM at h;split at h
 ·omega
 ·rename_i a
  split at h
  ·rename_i c;exact ⟨by simpa using a,c⟩
  ·omega
theorem azG {e:Ex} (f:e.ok) {l:List Int} (hl:l.length<2^62):PF Tryz.prog 168 [.agg e.cells, .seq (kV l)] (.tup [(vi ((lA e l).1)),(vi ((lA e l).2))]):=by
 have g:=gY f;have d:=adK ((l.length:Nat):Int) e f;have a:=ahQ l;rw [<-a] at d;by_cases hm:wM e=0
 ·rw [hm] at g
  cases ht:fJ l.length e with
  |true=>
   have i:=acC l hl e f (afY hm).2 ht;rw [a,ht] at d;rw [<-a] at d;have c:lA e l=bW l e:=by unfold lA;rw [zn (λq=>q hm),zp ht]
   rw [c];generalize bW l e=R at*;clear hm ht c;obtain ⟨k,n,v,of⟩:=e;refine pF Tryz.func168 rfl (λst=> ?_)
   (repeat' first|apply wZ;rfl|show Cn _;constructor|exact rfl|((first|apply g|apply d|apply i))|apply wY;rfl)
  |false=>
   rw [a,ht] at d;rw [<-a] at d;have c:lA e l=(0,4):=by unfold lA;rw [zn (λq=>q hm),zn (by rw [ht];simp)]
   rw [c];clear hm ht c;obtain ⟨k,n,v,of⟩:=e;refine pF Tryz.func168 rfl (λst=> ?_)
   (repeat' first|apply wZ;rfl|show Cn _;constructor|exact rfl|((first|apply g|apply d))|apply wY;rfl)
 ·have c:lA e l=(0,wM e):=by unfold lA;rw [zp hm]
  rw [c];generalize wM e=M at*;clear c d;obtain ⟨k,n,v,of⟩:=e;refine pF Tryz.func168 rfl (λst=> ?_)
  (repeat' first|apply wZ;rfl|show Cn _;constructor|exact rfl|(apply g)|apply wY;rfl|omega|intro h)
mutual
def dT (row:List Vl):Ex->Vl×Int
 | .mk k n v o=>if k=0 then (if n>=row.length then (v0,4) else (row.getD n.toNat v0,0)) else if k=1 then (v,0) else
   match lH row o with
   |(_,some no)=>(v0,no)
   |(got,none)=>if aaR (tD k) 0 (got.map Vl.kind) then vB k (got.getD 0 v0) (got.getD (lN k-1).toNat v0) else (v0,6)
def lH (row:List Vl):List Ex->List Vl×Option Int
 |[]=>([],none)
 |e::es=>if (dT row e).2=0 then ((dT row e).1::(lH row es).1,(lH row es).2) else ([],some (dT row e).2)
end
theorem aaA {row:List Vl}:∀{os:List Ex},(∀x∈os,(dT row x).2=0)->lH row os=(os.map λx=>(dT row x).1,none)
 |[],_=>rfl
 |e::es,h=>by
  have a:=aaA (row:=row) (os:=es) λx hx=>h x (by simp [hx])
  simp [lH,h e (by simp),a]
theorem zL {row:List Vl}:∀{os:List Ex} {i:Nat} {x:Ex},(∀j y,j<i->os[j]?=some y->(dT row y).2=0)->os[i]?=some x->(dT row x).2≠0->(lH row os).2=some (dT row x).2
 |[],_,_,_,h,_=>by simp at h
 |e::es,0,x,_,h,hx=>by
  simp at h;subst h
  simp [lH,hx]
 |e::es,i+1,x,h0,h,hx=>by
  simp at h
  have a:=h0 0 e (by omega) (by simp)
  have c:=zL (row:=row) (os:=es) (i:=i) (λj y hj hy=>h0 (j+1) y (by omega) (by simpa using hy)) h hx
  simp [lH,a,c]
theorem aAV {v:Vl} (h:uC v=true):lim v.n:=by
 unfold uC at h;split at h
 ·simp at h;unfold lim;omega
 ·split at h
  ·simp at h;unfold lim;omega
  ·split at h
   ·simp at h;unfold lim;omega
   ·cases h
theorem tU :lim v0.n:=by unfold lim v0;simp only;omega
theorem aiB (b:Bool):lim (pK b).n:=by unfold lim pK vN;cases b<;>simp
theorem aCo {op:Int->Int->Int} {a b:Vl}:lim (abP op a b).1.n:=by
 unfold abP;split
 ·exact tU
 ·rename_i h
  simp [aoV] at h;unfold lim vN;simp only;omega
theorem ahB {r:Vl->Vl->Vl×Int} {a b:Vl} (h:lim (r a b).1.n):lim (lL r a b).1.n:=by
 unfold lL;split
 ·exact tU
 ·exact h
theorem aE8 (k:Int) (a b:Vl):lim (vB k a b).1.n:=by
 unfold vB
 repeat' split
 all_goals first
  |exact ahB aCo
  |exact ahB (aiB _)
  |exact aiB _
  |(unfold agW;(repeat' split)<;>first|exact tU|unfold lim vN;simp only;omega)
theorem aEu {row:List Vl} (h:∀v∈row,lim v.n) (i:Nat):lim (row.getD i v0).n:=by
 rw [List.getD_eq_getElem?_getD];cases hi:row[i]? with
 |none=>exact tU
 |some x=>exact h x (List.mem_of_getElem? hi)
theorem aEf {row:List Vl} (c:∀v∈row,lim v.n):∀{e:Ex},bT e=true->lim (dT row e).1.n
 | .mk k n v of,hf=>by
  simp only [dT]
  split
  ·split
   ·exact tU
   ·exact aEu c _
  ·split
   ·rename_i h0 a
    subst a;simp [bT,nL] at hf;exact aAV hf.1.2
   ·split
    ·exact tU
    ·split
     ·exact aE8 _ _ _
     ·exact tU
def rowOK (row:List Vl):Prop:=row.length<2^62/\∀v∈row,lim v.n
theorem aBO {k n:Int} {v:Vl} {of:List Ex} {row:List Vl} (j:rowOK row) (hk:k=0\/k=1) (hf:bT (.mk k n v of)=true):
  PF Tryz.prog 132 [.agg (Ex.mk k n v of).cells, .seq (row.map Vl.cells)] (pS (dT row (.mk k n v of))):=by
 have i:(row.map Vl.cells).length=row.length:=zql _
 have l:=j.1
 by_cases c:k=0
 ·subst c
  simp [bT,nL] at hf;by_cases g:n>=row.length
  ·have e:dT row (.mk 0 n v of)=(v0,4):=by simp only [dT,zp];rw [zp g]
   rw [e];refine pF Tryz.func132 rfl (λst=> ?_)
   (repeat' first|apply wZ;rfl|show Cn _;constructor|exact rfl|omega|(intro h;simp at h))
  ·have hn:n.toNat<row.length:=by omega
   have hx:=getElem?_pos row n.toNat hn;have e:dT row (.mk 0 n v of)=(row[n.toNat],0):=by simp only [dT,zp];rw [zn g];simp [hx]
   rw [e];have a:(row.map Vl.cells)[n.toNat]?=some row[n.toNat].cells:=by rw [List.getElem?_map,hx];rfl
   have f:n=((n.toNat:Nat):Int):=by omega
   refine pF Tryz.func132 rfl (λst=> ?_)
   (repeat' first|apply wZ;rfl|show Cn _;constructor|exact rfl|apply dM pk;(iterate 6 rfl);rotate_left;rfl;(intro hw;exact f);(intro hw;apply a<;>omega);(intro _;rfl);rfl|omega|(intro h;simp at h))
 ·have d:k=1:=by omega
  subst d;have e:dT row (.mk 1 n v of)=(v,0):=by simp [dT]
  rw [e];refine pF Tryz.func132 rfl (λst=> ?_)
  (repeat' first|apply wZ;rfl|show Cn _;constructor|exact rfl)
def awW :List PV:=[(vi (0)),(vi (0)),(vs (e0))]
def aK3 :List Vl->List PV
 |[]=>awW++awW
 |[a]=>a.cells++awW
 |a::b::_=>a.cells++b.cells
mutual
theorem ahU {row:List Vl} (hr:rowOK row):∀(e:Ex),e.ok->bT e=true->PF Tryz.prog 132 [.agg e.cells, .seq (row.map Vl.cells)] (pS (dT row e))
 | .mk k n v of,hok,hf=>by
  have ih:=aeE hr of
  by_cases U:k=0\/k=1
  ·exact aBO hr U hf
  have T:¬k=0:=by omega
  have V:¬k=1:=by omega
  obtain ⟨hk,hn,hv,hlen,J⟩:=vT hf T V
  simp only [Ex.ok] at hok
  have hm:=apW k
  have W:=Ex.rows_len of
  obtain ⟨fid,caps,d,F⟩:=abL hk.1 hk.2
  have p:dT row (.mk k n v of)=match lH row of with|(_,some no)=>(v0,no)|(c,none)=>if aaR (tD k) 0 (c.map Vl.kind) then vB k (c.getD 0 v0) (c.getD (lN k-1).toNat v0) else (v0,6):=by simp only [dT,zn T,zn V];try rfl
  generalize dT row (.mk k n v of)=E at*
  refine pF Tryz.func132 rfl (λst=> ?_)
  focus ((repeat' first|apply wZ;rfl|show Cn _;constructor|omega|intro h))
  refine aaW 7 3 rfl rfl (λid z=> ?_)
  have z:st id=none:=z
  refine aC (X:={x:List Vl×Nat//x.1.length<=of.length/\st x.2=none/\x.1=(of.take x.1.length).map (λy=>(dT row y).1)/\∀j y,j<x.1.length->of[j]?=some y->(dT row y).2=0}) (λi=>(((((((((St.nil 81 (upd st i.1.2 (some (.tok 3)))).pv 1 (.seq (row.map Vl.cells))).var 2 129 ((Ex.mk k n v of).cells)).var 4 63 (awW)).var 6 261 (aK3 i.1.1)).pv 7 (.own i.1.2 ((i.1.1.map Vl.kind).map I1))).pv 33 (.seq (Ex.rows of))).pv 34 ((vi (((Ex.rows of).length:Nat))))).pv 35 ((vi ((i.1.1.length:Nat)))))) (λi=>of.length-i.1.1.length) ⟨([],id),by simp,z,by simp,by simp⟩ ?_ (λi=> ?_)
  ·(repeat' first|show Cn (.t _ _);exact Cn.t0|show Cn _;constructor|exact rfl)
  obtain ⟨⟨c,id⟩,hi,z,g,hz⟩:=i
  simp only at hi z g hz
  dsimp only
  by_cases K:of.length<=c.length
  ·have I:c.length=of.length:=by omega
   have Y:of.take c.length=of:=wV (by omega);rw [Y] at g;have u:∀x∈of,(dT row x).2=0:=λx hx=>by
    obtain ⟨j,hj⟩:=List.mem_iff_getElem?.1 hx
    exact hz j x (by have:=(zge.1 hj).1;omega) hj
   have w:lH row of=(c,none):=by rw [g];exact aaA u
   have B:∀v∈c,lim v.n:=λv hv=>by
    rw [g] at hv
    obtain ⟨e,he,rfl⟩:=List.mem_map.1 hv
    exact aEf hr.2 (J e he)
   have o:=sR (m:=lN k) (nb:=tD k) (f:=fid) (caps:=caps) (l:=c.map Vl.kind) (by simp;omega);unfold kV at o;rw [w] at p;simp only at p;clear w u hz g Y;generalize aaR (tD k) 0 (c.map Vl.kind)=G at*;cases G with
   |false=>
    rw [zn (by simp)] at p
    (repeat' first|(apply Cn.cf;focus (((apply eM));done))|(apply cV;focus (((apply o));done))|show Cn (.e _ _ _ _);refine .any ?_;((refine ⟨_,_,_,rfl,zwr _,cU ‹_›, ?_,rfl⟩;(((rw [p];rfl);done))))|apply wZ;rfl|show Cn _;constructor|apply KR.mk;kernel_rfl|apply lT pk;(iterate 4 rfl);(focus repeat' constructor);rfl;exact d;rfl|apply wY;rfl|omega|(intro h;simp at h))
   |true=>
    rw [zp rfl] at p;rcases c with _|⟨a,_|⟨b,_|⟨_,_⟩⟩⟩
    ·simp only [List.length_nil] at I;omega
    ·have N:lN k=1:=by simp only [zlc,List.length_nil] at I;omega
     have ha:=B a (by simp);have hs:=F a.kind a.n a.s a.kind a.n a.s ha ha;rw [N] at p o d;have e:E=vB k a a:=p;rw [e];generalize vB k a a=R at*
     (repeat' first|(apply Cn.cf;focus (((first|apply eM|apply hs));done))|(apply cV;focus (((apply o));done))|show Cn (.e _ _ _ _);refine .any ?_;((refine ⟨_,_,_,rfl,zwr _,cU ‹_›, ?_,rfl⟩;(rfl)))|apply wZ;rfl|show Cn _;constructor|apply KR.mk;kernel_rfl|apply lT pk;(iterate 4 rfl);(focus repeat' constructor);rfl;exact d;rfl|apply kE pk 0;(iterate 5 rfl);(focus repeat' constructor);rfl;(intro _;rfl);(intro _;omega);rfl|apply wY;rfl|omega|(intro h;simp at h))
    ·have N:lN k=2:=by simp only [zlc,List.length_nil] at I;omega
     have ha:=B a (by simp);have hb:=B b (by simp);have hs:=F a.kind a.n a.s b.kind b.n b.s ha hb;rw [N] at p o d;have e:E=vB k a b:=p;rw [e];generalize vB k a b=R at*
     (repeat' first|(apply Cn.cf;focus (((first|apply eM|apply hs));done))|(apply cV;focus (((apply o));done))|show Cn (.e _ _ _ _);refine .any ?_;((refine ⟨_,_,_,rfl,zwr _,cU ‹_›, ?_,rfl⟩;(rfl)))|apply wZ;rfl|show Cn _;constructor|apply KR.mk;kernel_rfl|apply lT pk;(iterate 4 rfl);(focus repeat' constructor);rfl;exact d;rfl|apply kE pk 0;(iterate 5 rfl);(focus repeat' constructor);rfl;(intro _;rfl);(intro _;omega);rfl|apply kE pk 1;(iterate 5 rfl);(focus repeat' constructor);rfl;(intro _;rfl);(intro _;omega);rfl|apply wY;rfl|omega|(intro h;simp at h))
    ·simp only [zlc] at I;omega
  obtain ⟨x,hx⟩:=fX (l:=of) (i:=c.length) (by omega)
  have D:=Ex.rows_get hx
  have M:=List.mem_of_getElem? hx
  have P:=ih x M (Ex.oks_mem hok.2 M) (J x M)
  have H:=λh0=>zL (row:=row) hz hx h0
  have hzs:(dT row x).2=0->∀j y,j<c.length+1->of[j]?=some y->(dT row y).2=0:=λh0 j y hj hy=>by
   by_cases hji:j=c.length
   ·subst hji;rw [hx] at hy;injection hy with hy;subst hy;exact h0
   ·exact hz j y (by omega) hy
  have C:=sQ hx (λy=>(dT row y).1)
  rw [<-g] at C
  have hE2:(dT row x).2≠0->E=(v0,(dT row x).2):=λh0=>by
   have:=H h0
   rw [p]
   revert this
   cases lH row of with|mk a b=>intro this;simp only at this;subst this;rfl
  clear H p
  generalize hrr:dT row x=r at*
  obtain ⟨⟨L,Q,S⟩,re⟩:=r
  obtain ⟨k',n',v',of'⟩:=x
  dsimp only at*
  by_cases h2:re=0
  ·have Z:=hzs h2
   have hg2:c.length<2:=by omega
   rcases c with _|⟨a,_|⟨b,_⟩⟩
   ·simp only [List.length_nil] at K hi
    have hne:¬(Ex.rows of=[]):=λq=>by rw [q] at W;simp only [List.length_nil] at W;omega
    have hz1:(List.map Vl.kind ([]:List Vl)).length=0:=rfl;have w1:([⟨L,Q,S⟩]:List Vl).length<=of.length:=by show 1<=of.length;omega
    have w2:([⟨L,Q,S⟩]:List Vl).length=1:=rfl;have w3:([]:List Vl).length=0:=rfl;have hz3:(List.map I1 (List.map Vl.kind ([]:List Vl))).length=0:=rfl
    (repeat' first|refine ⟨⟨([⟨L,Q,S⟩],O),w1,jG A,C.symm,Z⟩, ?_, ?_⟩;((dsimp only))|show Cn (.t _ _);exact .any (bR ‹_›)|apply wZ;rfl|show Cn _;constructor|exact rfl|apply dM pk;(iterate 6 rfl);rotate_left;rfl;(intro hw;rfl);(intro hw;apply D<;>omega);(intro _;exact (Ex.cells_len _));rfl|(apply P)|apply kE pk 0;(iterate 5 rfl);(focus repeat' constructor);rfl;(intro _;rfl);(intro _;omega);rfl|(apply apS pk (L) 8;(iterate 8 rfl);exact aA _ _ _;exact λ_=>rfl;exact λ_=>rfl;exact lR;(omega);(omega);rfl;intro O A)|apply wY;rfl|omega|simp only [zql];omega|(intro h;simp at h))
   ·simp only [zlc,List.length_nil] at K hi
    have hz1:(List.map Vl.kind [a]).length=1:=rfl;have w1:([a,⟨L,Q,S⟩]:List Vl).length<=of.length:=by show 2<=of.length;omega
    have w2:([a,⟨L,Q,S⟩]:List Vl).length=2:=rfl;have w3:[a].length=1:=rfl;have hz3:(List.map I1 (List.map Vl.kind [a])).length=1:=rfl
    (repeat' first|refine ⟨⟨([a,⟨L,Q,S⟩],O),w1,jG A,C.symm,Z⟩, ?_, ?_⟩;((dsimp only))|show Cn (.t _ _);exact .any (bR ‹_›)|apply wZ;rfl|show Cn _;constructor|exact rfl|apply dM pk;(iterate 6 rfl);rotate_left;rfl;(intro hw;rfl);(intro hw;apply D<;>omega);(intro _;exact (Ex.cells_len _));rfl|(apply P)|apply kE pk 1;(iterate 5 rfl);(focus repeat' constructor);rfl;(intro _;rfl);(intro _;omega);rfl|(apply apS pk (L) 8;(iterate 8 rfl);exact aA _ _ _;exact λ_=>rfl;exact λ_=>rfl;exact lR;(omega);(omega);rfl;intro O A)|apply wY;rfl|omega|simp only [zql];omega|(intro h;simp at h))
   ·exact absurd hg2 (by simp)
  ·have e:=hE2 h2
   (repeat' first|show Cn (.e _ _ _ _);refine .any ?_;((refine ⟨_,_,_,rfl,zwr _,cU ‹_›, ?_,rfl⟩;(((rw [e];rfl);done))))|apply wZ;rfl|show Cn _;constructor|apply dM pk;(iterate 6 rfl);rotate_left;rfl;(intro hw;rfl);(intro hw;apply D<;>omega);(intro _;exact (Ex.cells_len _));rfl|(apply P)|apply wY;rfl|omega|(intro h;simp at h))
theorem aeE {row:List Vl} (a:rowOK row):∀(os:List Ex) (x:Ex),x∈os->x.ok->bT x=true->PF Tryz.prog 132 [.agg x.cells, .seq (row.map Vl.cells)] (pS (dT row x))
 |[],_,h,_=>by cases h
 |e::es,x,h,hok=>by
  rcases zmc.1 h with h|h
  ·rw [h] at hok⊢;exact ahU a e hok
  ·exact aeE a es x h hok
end
def EvalR (e:Ex) (row:List Vl):Vl×Int:=if wM e≠0 then (v0,wM e) else dT row e
theorem Eval_spec {e:Ex} (c:e.ok) {row:List Vl} (g:rowOK row):PF Tryz.prog 83 [.agg e.cells, .seq (row.map Vl.cells)] (pS (EvalR e row)):=by
 have d:=gY c;by_cases hm:wM e=0
 ·have f:=ahU g e c (afY hm).2
  rw [hm] at d;have a:EvalR e row=dT row e:=by unfold EvalR;rw [zn (λq=>q hm)]
  rw [a];generalize dT row e=R at*;clear hm a;obtain ⟨k,n,v,of⟩:=e;refine pF Tryz.func83 rfl (λst=> ?_)
  (repeat' first|apply wZ;rfl|show Cn _;constructor|exact rfl|((first|apply d|apply f))|apply wY;rfl)
 ·have a:EvalR e row=(v0,wM e):=by unfold EvalR;rw [zp hm]
  rw [a];generalize wM e=M at*;clear a;obtain ⟨k,n,v,of⟩:=e;refine pF Tryz.func83 rfl (λst=> ?_)
  (repeat' first|apply wZ;rfl|show Cn _;constructor|exact rfl|(apply d)|apply wY;rfl|omega|intro h)
def oK (f:Ex->Int->Int) (left:Int):Int->List Ex->Int
 |n,[]=>n
 |n,x::xs=>if n<=left then oK f left (n+f x (left-n)) xs else n
def nodesR :Nat->Ex->Int->Int
 |0,_,left=>left+1
 |d+1,e,left=>oK (nodesR d) left 1 e.of
theorem aiK {f:Ex->Int->Int} {left:Int} (hf:∀x l,0<=l->1<=f x l/\f x l<=l+1):∀(l:List Ex) (n:Int),1<=n->n<=left+1->1<=oK f left n l/\oK f left n l<=left+1
 |[],n,h1,h2=>⟨h1,h2⟩
 |x::xs,n,h1,h2=>by
  simp only [oK]
  split
  ·rename_i h
   have:=hf x (left-n) (by omega);exact aiK hf xs _ (by omega) (by omega)
  ·exact ⟨h1,h2⟩
theorem aiI :∀(d:Nat) (e:Ex) (left:Int),0<=left->1<=nodesR d e left/\nodesR d e left<=left+1
 |0,_,left,h=>by simp only [nodesR];omega
 |d+1,e,left,h=>by
  simp only [nodesR]
  exact aiK (λx l hl=>aiI d x l hl) _ _ (by omega) (by omega)
theorem avK :∀(d:Nat) (e:Ex) (left z:Int),z=(d:Nat)->d<=1000->0<=left->left<=1000->e.ok->PF Tryz.prog 88 [.agg e.cells,(vi (left)),(vi (z))] (vi (nodesR d e left)):=by
 intro d
 induction d with
 |zero=>
  intro e left z hz _ w y g;subst hz;obtain ⟨k,n,v,of⟩:=e;refine pF Tryz.func88 rfl (λst=> ?_)
  (repeat' first|apply wZ;rfl|show Cn _;constructor|exact rfl|omega)
 |succ d ih=>
  intro e left z hz hd w y g;subst hz;obtain ⟨k,n,v,of⟩:=e;simp only [Ex.ok] at g;have A:=Ex.rows_len of;refine pF Tryz.func88 rfl (λst=> ?_)
  focus ((repeat' first|apply wZ;rfl|show Cn _;constructor))
  refine aC (X:={x:Nat×Int//x.1<=of.length/\1<=x.2/\x.2<=left+1/\nodesR (d+1) (.mk k n v of) left=oK (nodesR d) left x.2 (of.drop x.1)}) (λi=>((((((St.nil 39 st).pv 1 ((vi (left)))).pv 2 ((vi ((d+1:Nat))))).var 3 129 ((Ex.mk k n v of).cells)).pv 7 ((vi (i.1.2)))).pv 8 ((vi ((i.1.1:Nat)))))) (λi=>of.length-i.1.1) ⟨(0,1),by simp,by simp,by simp only;omega,rfl⟩ ?_ (λi=> ?_)
  ·(repeat' first|show Cn _;constructor|exact rfl)
  obtain ⟨⟨i,m⟩,hi,o,p,a⟩:=i;simp only at hi o p a;dsimp only;by_cases f:¬(i<of.length/\m<=left)
  ·have j:oK (nodesR d) left m (of.drop i)=m:=by
    by_cases c:i<of.length
    ·obtain ⟨x,hx⟩:=fX c
     rw [acA hx];simp only [oK];rw [zn (λq=>f ⟨c,q⟩)]
    ·rw [axV c];rfl
   rw [j] at a
   (repeat' first|apply wZ;rfl|show Cn _;constructor|exact rfl|show (_:PV)=_;(rw [a]);done|intro h;simp at h;omega|(intro h;simp at h))
  obtain ⟨c,s⟩:=zdn f;obtain ⟨x,hx⟩:=fX c;have l:=Ex.rows_get hx;have B:=aiI d x (left-m) (by omega);have u:=λz hz=>ih x (left-m) z hz (by omega) (by omega) (by omega) (Ex.oks_mem g.2 (List.mem_of_getElem? hx));rw [acA hx] at a;simp only [oK] at a;rw [zp s] at a;generalize nodesR d x (left-m)=r at*;obtain ⟨k',n',D,C⟩:=x
  (repeat' first|(refine ⟨⟨(i+1,m+r),by simp only;omega,by simp only;omega,by simp only;omega,a⟩, ?_, ?_⟩)|apply wZ;rfl|show Cn _;constructor|exact rfl|apply dM pk;(iterate 6 rfl);rotate_left;rfl;(intro hw;rfl);(intro hw;apply l<;>omega);(intro _;exact (Ex.cells_len _));rfl|(apply u<;>(omega))|apply wY;rfl|omega|simp only [zql];omega|intro h;simp at h;omega|(intro h;simp at h))
theorem Few_spec {e:Ex} (a:e.ok):PF Tryz.prog 54 [.agg e.cells] (vb (decide (nodesR 25 e 60<=60))):=by
 have h:=avK 25 e 60 25 rfl (by omega) (by omega) (by omega) a;generalize nodesR 25 e 60=N at*;obtain ⟨k,n,v,of⟩:=e;refine pF Tryz.func54 rfl (λst=> ?_)
 (repeat' first|apply wZ;rfl|show Cn _;constructor|exact rfl|(apply h)|apply wY;rfl)
end Go.Proofs.YtfablfldonhkiaaGreatDoor.X
namespace Go.Proofs.YtfablfldonhkiaaGreatDoor
open Go Go.Abs
namespace X
set_option maxRecDepth 10000
set_option maxHeartbeats 4000000
mutual
theorem Ex.inj :∀(a b:Ex),a.cells=b.cells->a=b
 | .mk k n v o, .mk k' n' v' o',h=>by
  simp only [Ex.cells,List.cons.injEq,PV.val.injEq,PV.seq.injEq,Value.int.injEq,Value.string.injEq,true_and,and_true] at h
  obtain ⟨rfl,rfl,d,f,g,h4⟩:=h
  have e:=Ex.injs o o' h4
  obtain ⟨a,b,c⟩:=v
  obtain ⟨i,b',j⟩:=v'
  simp only at d f g
  subst d f g e
  rfl
theorem Ex.injs :∀(a b:List Ex),Ex.rows a=Ex.rows b->a=b
 |[],[],_=>rfl
 |[],_::_,h=>by simp [Ex.rows] at h
 |_::_,[],h=>by simp [Ex.rows] at h
 |a::l,b::m,h=>by
  simp only [Ex.rows,List.cons.injEq] at h
  rw [Ex.inj a b h.1,Ex.injs l m h.2]
end
def RightR (e:Ex) (l:List Int):Int:=if (lA e l).2=0 then (if (lA e l).1=2 then 6 else 0) else (lA e l).2
end X
open Classical in
noncomputable def exOf (c:List PV):X.Ex:=if h:∃e:X.Ex,e.ok/\e.cells=c then h.choose else .mk 0 0 X.v0 []
theorem akL {c:List PV} (h:∃e:X.Ex,e.ok/\e.cells=c):(exOf c).ok/\(exOf c).cells=c:=by
 unfold exOf;rw [dif_pos h];exact h.choose_spec
def vE (t:Tb):Prop:=∀c∈t.checks,∃e:X.Ex,e.ok/\e.cells=c
def chE (p:Vl×Int):Int:=if p.2=0 then (if p.1=⟨1,0,e0⟩ then 9 else 0) else p.2
noncomputable def exR (t:Tb) (r:List Vl):Int:=eJ (λc=>chE (X.EvalR (exOf c) r)) t.checks
noncomputable def rightX (t:Tb):Int:=eJ (λc=>X.RightR (exOf c) (t.cols.map eB)) t.checks
noncomputable def rightC (s:Sc):Int:=if cE s=0 then eJ rightX s else cE s
end Go.Proofs.YtfablfldonhkiaaGreatDoor
namespace Go.Proofs.YtfablfldonhkiaaGreatDoor
open Go Go.Abs
attribute [local irreducible] Ev PWp
set_option maxRecDepth 10000
set_option maxHeartbeats 4000000
def oC (t:Tb) (rows:List (List Vl)) (b:Bs):List PV:=t.cells++[.seq (rows.map roC), .seq (b.map Da.cells)]
variable (t:Tb) (rows:List (List Vl)) (b:Bs)
theorem atW (hc:t.cols.length<1000000000000000) (hl:rows.length<1000000000000000) (f:∀r∈rows,r.length<1000000000000000):PF Tryz.prog 45 [.agg (oC t rows b)] (vi (eJ (fA t) rows)):=by
 refine pF Tryz.func45 rfl (λst=> ?_)
 focus ((repeat' first|apply wZ;rfl|show Cn _;constructor))
 refine aC (X:={x:Nat//x<=rows.length/\∀j (h:j<rows.length),j<x->fA t rows[j]=0}) (λi=>(((((St.nil 22 st).var 1 119 ((oC t rows b))).pv 7 (.seq (rows.map roC))).pv 8 ((vi (((rows.map roC).length:Nat))))).pv 9 ((vi ((i.1:Nat)))))) (λi=>rows.length-i.1) ⟨0,by omega,by omega⟩ ?_ (λi=> ?_)
 ·(repeat' first|show Cn _;constructor|exact rfl)
 obtain ⟨i,hi,c⟩:=i;dsimp only;by_cases d:rows.length<=i
 ·have e:eJ (fA t) rows=0:=oG λj hj=>c j hj (by omega)
  (repeat' first|apply wZ;rfl|show Cn _;constructor|exact rfl|show (_:PV)=_;(rw [e]);done|simp only [zql];omega|(intro h;simp at h))
 have a:i<rows.length:=by omega
 have hk:=ahC t rows[i] hc (f _ (zgm a));have e:=uX c a;have hu:=uQ c a;generalize fA t rows[i]=E at*
 (repeat' first|(refine ⟨⟨i+1,by omega,hu ‹_›⟩, ?_, ?_⟩)|apply wZ;rfl|show Cn _;constructor|exact rfl|(apply hk)|show (_:PV)=_;(rw [e ‹_›]);done|apply wY;rfl|apply wI;rfl|apply gE;omega|omega|simp only [zql];omega|(intro h;simp at h)|intro h)
def bF' (b:Bool):PV:=(vb (b))
theorem rO {st:aD} {id:Nat} {a b:Option AObj} (h:st id=none):StSub st (upd (upd st id a) id b):=λj=>by
 by_cases hj:j=id
 ·subst hj;left;exact h
 ·right;rw [aB hj,aB hj]
theorem pG {st:aD} {id:Nat} {a:Option AObj} (h:st id=none):StSub st (upd st id a):=λj=>by
 by_cases hj:j=id
 ·subst hj;left;exact h
 ·right;rw [aB hj]
theorem aqC (hl:rows.length<1000000000000000) (hu:t.unique.length<1000000000000000) (O:∀u∈t.unique,0<=u/\∀r∈rows,u<r.length):PF Tryz.prog 46 [.agg (oC t rows b)] (vi (if mI t rows=false then 8 else 0)):=by
 have G:=aB8 (t:=t) (rows:=rows);have g:=λj k hj h=>aGj (t:=t) (rows:=rows) (j:=j) (k:=k) hj h;generalize mI t rows=B at*;refine pF Tryz.func46 rfl (λst=> ?_)
 focus ((repeat' first|apply wZ;rfl|show Cn _;constructor))
 refine aC (X:={x:Nat//x<=t.unique.length/\∀j (h:j<t.unique.length),j<x->pwU t.unique[j].toNat rows}) (λi=>(((((St.nil 45 st).var 1 119 ((oC t rows b))).pv 10 (.seq (t.unique.map I1))).pv 11 ((vi (((t.unique.map I1).length:Nat))))).pv 12 ((vi ((i.1:Nat)))))) (λi=>t.unique.length-i.1) ⟨0,by omega,by omega⟩ ?_ (λi=> ?_)
 ·(repeat' first|show Cn _;constructor|exact rfl)
 obtain ⟨i,hi,L⟩:=i;dsimp only;by_cases N:t.unique.length<=i
 ·have e:B=true:=G λj hj=>L j hj (by omega)
  (repeat' first|apply wZ;rfl|show Cn _;constructor|exact rfl|show (_:PV)=_;(rw [e];rfl);done|simp only [zql];omega|(intro h;simp at h))
 have C:i<t.unique.length:=by omega
 obtain ⟨P,K⟩:=O _ (zgm C);have g:=λk=>g i k C;have F:pwU t.unique[i].toNat rows->∀j (h:j<t.unique.length),j<i+1->pwU t.unique[j].toNat rows:=λh j hj H=>by
  rcases zls.1 H with q|q
  ·exact L j hj q
  ·subst q;exact h
 focus ((repeat' first|(apply mkM (enc:=Ie) (f:=bF');rfl;intro id w)|apply wZ;rfl|show Cn _;constructor|exact rfl|apply wI;rfl|apply gE;omega|simp only [zql];omega|(intro h;simp at h)))
 have A:st id=none:=w;clear w;obtain ⟨u,hu⟩:∃u:Nat,t.unique[i]=(u:Int):=⟨t.unique[i].toNat,by omega⟩;have J:t.unique[i].toNat=u:=by omega
 rw [J] at g F;refine aC (X:={x:Nat//x<=rows.length/\pwU u (rows.take x)}) (λy=>((((((((((St.nil 45 (upd st id (some (.map (aX Ie bF' (asD u (rows.take y.1))))))).var 1 119 ((oC t rows b))).pv 4 ((vi (t.unique[i])))).pv 5 (.mref id)).pv 10 (.seq (t.unique.map I1))).pv 11 ((vi (((t.unique.map I1).length:Nat))))).pv 12 ((vi ((i:Nat))))).pv 18 (.seq (rows.map roC))).pv 19 ((vi (((rows.map roC).length:Nat))))).pv 20 ((vi ((y.1:Nat)))))) (λy=>rows.length-y.1) ⟨0,by omega,by unfold pwU;simp⟩ ?_ (λy=> ?_)
 ·(repeat' first|show Cn (.t _ _);exact Cn.t0|show Cn _;constructor|exact rfl)
 obtain ⟨y,hy,l⟩:=y;dsimp only;by_cases m:rows.length<=y
 ·rw [ztl m] at l
  (repeat' first|(refine ⟨⟨i+1,by omega,F l⟩, ?_, ?_⟩)|show Cn (.s _ (St.nil _ _));refine .any ?_;exact Sub.nil _ _ _ (pG A) rfl|apply wZ;rfl|show Cn _;constructor|exact rfl|omega|simp only [zql];omega|(intro h;simp at h))
 have o:y<rows.length:=by omega
 have I:=K _ (zgm o);have E:u<rows[y].length:=by rw [hu] at I;omega
 have p:=getElem!_pos rows[y] u E;have c:=aKs (u:=u) o;have D:=g (y+1);have d:=aCp u rows[y][u]!.n (rows.take y);have a:=aHs u o;rw [p] at c d a;clear p;generalize R:asD u (rows.take y)=M at*;generalize ((rows.take y).any λr=>decide (r[u]!.kind=1)&&decide (r[u]!.n=rows[y][u].n))=Q at*;by_cases hk:rows[y][u].kind=1
 ·rw [zp hk] at a
  cases Q with
  |true=>
   have e:B=false:=D λh=>by have:=(c.1 h).2 hk;cases this
   (repeat' first|apply iX;(intro hw;exact hu);(apply gE;omega);rfl|show Cn (.e _ _ _ _);refine .any ?_;((refine ⟨_,_,_,rfl,zwr _,cU ‹_›, ?_,rfl⟩;(((rw [e];rfl);done))))|apply wZ;rfl|show Cn _;constructor|exact rfl|apply lkD pk xI (f:=bF') (z:=false) (k:=rows[y][u].n) (n:=true);(iterate 5 rfl);rotate_left;rfl;exact aA _ _ _;rfl;exact d|apply wI;rfl|apply gE;omega|omega|simp only [zql];omega|(intro h;simp at h)|intro h)
  |false=>
   have hw:=c.2 ⟨l,λ_=>rfl⟩
   (repeat' first|apply iX;(intro hw;exact hu);(apply gE;omega);rfl|refine ⟨⟨y+1,by omega,hw⟩, ?_, ?_⟩;((dsimp only;rw [a]))|show Cn (.t _ _);exact .any (cM (by (((simp only [St.pv,St.put,St.sst,St.setv,St.nil,St.var,eH]);(done)))))|apply wZ;rfl|show Cn _;constructor|exact rfl|apply lkD pk xI (f:=bF') (z:=false) (k:=rows[y][u].n) (n:=false);(iterate 5 rfl);rotate_left;rfl;exact aA _ _ _;rfl;exact d|apply muA pk xI (f:=bF') (k:=rows[y][u].n) (v:=true);(exact .inr rfl);(iterate 5 rfl);exact aA _ _ _;rfl|apply wI;rfl|apply gE;omega|omega|simp only [zql];omega|(intro h;simp at h)|intro h)
 ·rw [zn hk] at a
  have hw:=c.2 ⟨l,λq=>absurd q hk⟩
  (repeat' first|apply iX;(intro hw;exact hu);(apply gE;omega);rfl|refine ⟨⟨y+1,by omega,hw⟩, ?_, ?_⟩;((dsimp only;rw [a]))|show Cn (.t _ _);exact Cn.t0|apply wZ;rfl|show Cn _;constructor|exact rfl|apply wI;rfl|apply gE;omega|omega|simp only [zql];omega|(intro h;simp at h)|intro h)
end Go.Proofs.YtfablfldonhkiaaGreatDoor
