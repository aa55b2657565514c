import Derived.Test.YtfablfldonhkiaaGreatDoorClAh
import Derived.Test.YtfablfldonhkiaaGreatDoorClAg
import Derived.Test.YtfablfldonhkiaaGreatDoorAbsJ
set_option linter.unusedSimpArgs false
set_option linter.unusedVariables false
namespace Go.Proofs.YtfablfldonhkiaaGreatDoor.X
open Go Go.Abs
attribute [local irreducible] Ev PWp
set_option maxRecDepth 10000
set_option maxHeartbeats 4000000
def uP (e:Ex):Int:=if qJ 20 e then 2 else if bQ e then 0 else 1
theorem gK {e:Ex} (hok:e.ok):PF Tryz.prog 131 [.agg e.cells] (vi (uP e)):=by
 have h1:=ayP 20 e 20 rfl (by omega) hok
 have h2:=lI e hok
 unfold uP
 generalize qJ 20 e=D at*
 generalize bQ e=F at*
 obtain ⟨k,n,v,of⟩:=e
 refine pF Tryz.func131 rfl (λst=> ?_)
 (repeat' first|apply wZ;rfl|show Cn _;constructor|exact rfl|((first|apply h1|apply h2))|show (_:PV)=_;(simp [*];done);done|apply wY;rfl|intro h)
mutual
def eX (m:Int):Ex->Bool
 | .mk k n _ o=>(!decide (k=0)||decide (n<m))&&zF m o
def zF (m:Int):List Ex->Bool
 |[]=>true
 |e::es=>eX m e&&zF m es
end
theorem pB (m:Int):∀l,zF m l=l.all (eX m)
 |[]=>rfl
 |e::es=>by simp [zF,pB m es]
mutual
theorem abI (m:Int):∀(e:Ex),e.ok->PF Tryz.prog 234 [.agg e.cells,(vi (m))] (vb (eX m e))
 | .mk k n v of,hok=>by
  simp only [Ex.ok] at hok
  have ih:=xG m of
  have hlen:=Ex.rows_len of
  have hT:eX m (.mk k n v of)=((!decide (k=0)||decide (n<m))&&of.all (eX m)):=by rw [eX,pB]
  refine pF Tryz.func234 rfl (λst=> ?_)
  focus ((repeat' first|apply wZ;rfl|show Cn _;constructor))
  refine aC (X:={i:Nat//i<=of.length/\(of.take i).all (eX m)=true}) (λi=>((((((St.nil 28 st).pv 1 ((vi (m)))).var 2 129 ((Ex.mk k n v of).cells)).pv 8 (.seq (Ex.rows of))).pv 9 ((vi (((Ex.rows of).length:Nat))))).pv 10 ((vi ((i.1:Nat)))))) (λi=>of.length-i.1) ⟨0,by omega,by simp⟩ ?_ (λi=> ?_)
  ·(repeat' first|show Cn _;constructor|exact rfl)
  obtain ⟨i,hi,hall⟩:=i
  dsimp only
  by_cases hend:of.length<=i
  ·rw [uY (by omega)] at hall
   rw [hall,Bool.and_true] at hT
   (repeat' first|apply wZ;rfl|show Cn _;constructor|exact rfl|show (_:PV)=_;((rw [hT];done));done|omega|(intro h;simp at h))
  obtain ⟨x,hx⟩:=fM (l:=of) (i:=i) (by omega)
  have hrow:=Ex.rows_get hx
  have hm:=List.mem_of_getElem? hx
  have ihx:=ih x hm (Ex.oks_mem hok.2 hm)
  have hup:=alX (p:=eX m) hx
  have hno:=λh=>avS (p:=eX m) hx h
  generalize eX m x=D at*
  obtain ⟨k',n',v',of'⟩:=x
  cases D with
  |false=>
   rw [hno rfl,Bool.and_false] at hT
   (repeat' first|apply wZ;rfl|show Cn _;constructor|exact rfl|apply cN pk;(iterate 6 rfl);rotate_left;rfl;(intro hw;rfl);(intro hw;apply hrow<;>omega);(intro _;exact (Ex.cells_len _));rfl|(apply ihx)|show (_:PV)=_;(rw [hT]);done|apply wY;rfl|omega|(intro h;simp at h))
  |true=>
   rw [hall] at hup
   (repeat' first|(refine ⟨⟨i+1,by omega,hup⟩, ?_, ?_⟩)|apply wZ;rfl|show Cn _;constructor|exact rfl|apply cN pk;(iterate 6 rfl);rotate_left;rfl;(intro hw;rfl);(intro hw;apply hrow<;>omega);(intro _;exact (Ex.cells_len _));rfl|(apply ihx)|apply wY;rfl|omega|simp only [zql];omega|(intro h;simp at h))
theorem xG (m:Int):∀(l:List Ex) (x:Ex),x∈l->x.ok->PF Tryz.prog 234 [.agg x.cells,(vi (m))] (vb (eX m x))
 |[],_,h,_=>by cases h
 |e::es,x,h,hok=>by
  rcases zmc.1 h with h|h
  ·rw [h] at hok⊢;exact abI m e hok
  ·exact xG m es x h hok
end
def yV (nb:Bool):Int->List Int->Bool
 |_,[]=>true
 |last,x::xs=>if ((nb&& !decide (x=0))&& !decide (x=1))||((!decide (x=0)&& !decide (last=0))&& !decide (x=last)) then false else yV nb (if x=0 then last else x) xs
theorem zY {α:Type} {l:List α} {i:Nat} {x:α} (h:l[i]?=some x):l.drop i=x::l.drop (i+1):=by
 obtain ⟨hl,rfl⟩:=zge.1 h
 exact List.drop_eq_getElem_cons hl
theorem avU {α:Type} {l:List α} {i:Nat} (h:¬i<l.length):l.drop i=[]:=List.drop_eq_nil_of_le (by omega)
theorem rN {m:Int} {nb:Bool} {f:FuncId} {caps:List PV} {l:List Int} (hl:l.length<2^62):PF Tryz.prog 211 [.agg [(vi (m)),(vb (nb)), .fn f caps], .seq (kD l)] (vb (yV nb 0 l)):=by
 have hlen:=afJ l
 refine pF Tryz.func211 rfl (λst=> ?_)
 focus ((repeat' first|apply wZ;rfl|show Cn _;constructor))
 refine aC (X:={x:Nat×Int//x.1<=l.length/\yV nb 0 l=yV nb x.2 (l.drop x.1)}) (λi=>((((((St.nil 41 st).var 2 264 ([(vi (m)),(vb (nb)), .fn f caps])).pv 5 ((vi (i.1.2)))).pv 8 (.seq (kD l))).pv 9 ((vi ((((kD l)).length:Nat))))).pv 10 ((vi ((i.1.1:Nat)))))) (λi=>l.length-i.1.1) ⟨(0,0),by simp,by simp⟩ ?_ (λi=> ?_)
 ·(repeat' first|show Cn _;constructor|exact rfl)
 obtain ⟨⟨i,last⟩,hi,hinv⟩:=i
 dsimp only at hi hinv
 dsimp only
 generalize yV nb 0 l=R at*
 by_cases hend:l.length<=i
 ·rw [avU (by omega)] at hinv
  (repeat' first|apply wZ;rfl|show Cn _;constructor|exact rfl|show (_:PV)=_;(rw [hinv];rfl);done|omega|(intro h;simp at h))
 obtain ⟨x,hx⟩:=fM (l:=l) (i:=i) (by omega)
 have hrow:=aeG hx
 rw [zY hx] at hinv
 simp only [yV] at hinv
 by_cases hc:(((nb&& !decide (x=0))&& !decide (x=1))||((!decide (x=0)&& !decide (last=0))&& !decide (x=last)))=true
 ·rw [zp hc] at hinv
  (repeat' first|apply wZ;rfl|show Cn _;constructor|exact rfl|apply cN pk;(iterate 6 rfl);rotate_left;rfl;(intro hw;rfl);(intro hw;apply hrow<;>omega);(intro _;rfl);rfl|show (_:PV)=_;(rw [hinv]);done|omega|((exfalso;simp at*;grind))|(intro h;simp at h))
 rw [zn hc] at hinv
 by_cases hx0:x=0
 ·rw [zp hx0] at hinv
  (repeat' first|(refine ⟨⟨(i+1,last),by simp only;omega,hinv⟩, ?_, ?_⟩)|apply wZ;rfl|show Cn _;constructor|exact rfl|apply cN pk;(iterate 6 rfl);rotate_left;rfl;(intro hw;rfl);(intro hw;apply hrow<;>omega);(intro _;rfl);rfl|omega|simp only [zql];omega|intro h;simp at h;omega|(intro h;simp at h)|intro h)
 ·rw [zn hx0] at hinv
  (repeat' first|(refine ⟨⟨(i+1,x),by simp only;omega,hinv⟩, ?_, ?_⟩)|apply wZ;rfl|show Cn _;constructor|exact rfl|apply cN pk;(iterate 6 rfl);rotate_left;rfl;(intro hw;rfl);(intro hw;apply hrow<;>omega);(intro _;rfl);rfl|omega|simp only [zql];omega|((exfalso;simp at*;grind))|(intro h;simp at h)|intro h)
mutual
def bT (l:List Int):Ex->Int×Int
 | .mk k n v o=>if k=0 then (l.getD n.toNat 0,0) else if k=1 then (v.kind,0) else
   match gL l o with
   |(_,some no)=>(0,no)
   |(got,none)=>if yV (rU k) 0 got then (1,0) else (0,6)
def gL (l:List Int):List Ex->List Int×Option Int
 |[]=>([],none)
 |e::es=>if (bT l e).2=0 then ((bT l e).1::(gL l es).1,(gL l es).2) else ([],some (bT l e).2)
end
theorem uM {l:List Int}:∀{os:List Ex},(∀x∈os,(bT l x).2=0)->gL l os=(os.map λx=>(bT l x).1,none)
 |[],_=>rfl
 |e::es,h=>by
  have ih:=uM (l:=l) (os:=es) λx hx=>h x (by simp [hx])
  simp [gL,h e (by simp),ih]
theorem uX {l:List Int}:∀{os:List Ex} {i:Nat} {x:Ex},(∀j y,j<i->os[j]?=some y->(bT l y).2=0)->os[i]?=some x->(bT l x).2≠0->(gL l os).2=some (bT l x).2
 |[],_,_,_,h,_=>by simp at h
 |e::es,0,x,_,h,hx=>by
  simp at h;subst h
  simp [gL,hx]
 |e::es,i+1,x,h0,h,hx=>by
  simp at h
  have h1:=h0 0 e (by omega) (by simp)
  have ih:=uX (l:=l) (os:=es) (i:=i) (λj y hj hy=>h0 (j+1) y (by omega) (by simpa using hy)) h hx
  simp [gL,h1,ih]
theorem uB {k n:Int} {v:Vl} {of:List Ex} (h:bQ (.mk k n v of)=true) (hk0:¬k=0) (hk1:¬k=1):(2<=k/\k<=10)/\n=0/\vz v=true/\(of.length:Int)=kQ k/\∀x∈of,bQ x=true:=by
 simp only [bQ,mP,if_false,zba,zde,Bool.or_eq_true,hk0,hk1,false_or,nQ,zal] at h
 exact ⟨h.1.1.1.1,h.1.1.1.2,h.1.1.2,h.1.2,h.2⟩
theorem amV (k:Int):kQ k<=2/\1<=kQ k:=by unfold kQ;split<;>omega
theorem lY :Tryz.prog.bytesOf 3=8:=by kernel_rfl
theorem rM {α β:Type} {l:List α} {i:Nat} {x:α} (h:l[i]?=some x) (f:α->β):(l.take (i+1)).map f=(l.take i).map f++[f x]:=by
 obtain ⟨hl,rfl⟩:=zge.1 h
 rw [List.take_succ_eq_append_getElem hl,List.map_append]
 rfl
theorem aoV {k n:Int} {v:Vl} {of:List Ex} (l:List Int) (hl:l.length<2^62) (hk:k=0\/k=1) (hf:bQ (.mk k n v of)=true) (ht:eX l.length (.mk k n v of)=true):
  PF Tryz.prog 235 [.agg (Ex.mk k n v of).cells, .seq (kD l)] (.tup [(vi ((bT l (.mk k n v of)).1)),(vi ((bT l (.mk k n v of)).2))]):=by
 by_cases hk0:k=0
 ·subst hk0
  simp [bQ,mP] at hf
  simp [eX] at ht
  have hn:n.toNat<l.length:=by omega
  obtain ⟨x,hx⟩:=fM hn
  have hrow:=aeG hx
  have e:bT l (.mk 0 n v of)=(x,0):=by simp [bT,hx]
  rw [e]
  have hnn:n=((n.toNat:Nat):Int):=by omega
  refine pF Tryz.func235 rfl (λst=> ?_)
  (repeat' first|apply wZ;rfl|show Cn _;constructor|exact rfl|apply cN pk;(iterate 6 rfl);rotate_left;rfl;(intro hw;exact hnn);(intro hw;apply hrow<;>omega);(intro _;rfl);rfl)
 ·have hk1:k=1:=by omega
  subst hk1
  have e:bT l (.mk 1 n v of)=(v.kind,0):=by simp [bT]
  rw [e]
  refine pF Tryz.func235 rfl (λst=> ?_)
  (repeat' first|apply wZ;rfl|show Cn _;constructor|exact rfl)
mutual
theorem aaA (l:List Int) (hl:l.length<2^62):∀(e:Ex),e.ok->bQ e=true->eX l.length e=true->PF Tryz.prog 235 [.agg e.cells, .seq (kD l)] (.tup [(vi ((bT l e).1)),(vi ((bT l e).2))])
 | .mk k n v of,hok,hf,ht=>by
  have ih:=xO l hl of
  by_cases hk01:k=0\/k=1
  ·exact aoV l hl hk01 hf ht
  have hk0:¬k=0:=by omega
  have hk1:¬k=1:=by omega
  obtain ⟨hk,hn,hv,hlen,hall⟩:=uB hf hk0 hk1
  simp only [eX,zba,pB,zal] at ht
  simp only [Ex.ok] at hok
  have hm:=amV k
  have hrl:=Ex.rows_len of
  obtain ⟨fid,caps,hlook,_⟩:=zK hk.1 hk.2
  have hE:bT l (.mk k n v of)=match gL l of with|(_,some no)=>(0,no)|(got,none)=>if yV (rU k) 0 got then (1,0) else (0,6):=by simp only [bT,zn hk0,zn hk1];try rfl
  generalize bT l (.mk k n v of)=E at*
  refine pF Tryz.func235 rfl (λst=> ?_)
  focus ((repeat' first|apply wZ;rfl|show Cn _;constructor|omega|intro h))
  refine zA 6 3 rfl rfl (λid hid=> ?_)
  have hid:st id=none:=hid
  refine aC (X:={x:Nat×Nat//x.1<=of.length/\st x.2=none/\∀j y,j<x.1->of[j]?=some y->(bT l y).2=0}) (λi=>(((((((St.nil 53 (upd st i.1.2 (some (.tok 3)))).pv 1 (.seq (kD l))).var 2 129 ((Ex.mk k n v of).cells)).pv 6 (.own i.1.2 (((of.take i.1.1).map λy=>(bT l y).1).map I1))).pv 26 (.seq (Ex.rows of))).pv 27 ((vi (((Ex.rows of).length:Nat))))).pv 28 ((vi ((i.1.1:Nat)))))) (λi=>of.length-i.1.1) ⟨(0,id),by simp,hid,by simp⟩ ?_ (λi=> ?_)
  ·(repeat' first|show Cn (.t _ _);exact Cn.t0|show Cn _;constructor|exact rfl)
  obtain ⟨⟨i,id⟩,hi,hid,hz⟩:=i
  simp only at hi hid hz
  dsimp only
  by_cases hend:of.length<=i
  ·have htk:of.take i=of:=uY (by omega)
   have hgot:gL l of=(of.map λy=>(bT l y).1,none):=uM λx hx=>by
    obtain ⟨j,hj⟩:=List.mem_iff_getElem?.1 hx
    exact hz j x (by have:=(zge.1 hj).1;omega) hj
   rw [hgot] at hE
   simp only at hE
   rw [htk]
   have hts:=rN (m:=kQ k) (nb:=rU k) (f:=fid) (caps:=caps) (l:=of.map λy=>(bT l y).1) (by simp;omega)
   unfold kD at hts
   generalize yV (rU k) 0 (of.map λy=>(bT l y).1)=G at*
   cases G with
   |true=>
    rw [zp rfl] at hE
    (repeat' first|(apply Cn.cf;focus (((apply eA));done))|(apply cV;focus (((apply hts));done))|show Cn (.e _ _ _ _);refine .any ?_;((refine ⟨_,_,_,rfl,zwr _,cR ‹_›, ?_,rfl⟩;(((rw [hE]);done))))|apply wZ;rfl|show Cn _;constructor|apply KR.mk;kernel_rfl|apply kW pk;(iterate 4 rfl);(focus repeat' constructor);rfl;exact hlook;rfl|apply wY;rfl|omega|(intro h;simp at h))
   |false=>
    rw [zn (by simp)] at hE
    (repeat' first|(apply Cn.cf;focus (((apply eA));done))|(apply cV;focus (((apply hts));done))|show Cn (.e _ _ _ _);refine .any ?_;((refine ⟨_,_,_,rfl,zwr _,cR ‹_›, ?_,rfl⟩;(((rw [hE]);done))))|apply wZ;rfl|show Cn _;constructor|apply KR.mk;kernel_rfl|apply kW pk;(iterate 4 rfl);(focus repeat' constructor);rfl;exact hlook;rfl|apply wY;rfl|omega|(intro h;simp at h))
  obtain ⟨x,hx⟩:=fM (l:=of) (i:=i) (by omega)
  have hrow:=Ex.rows_get hx
  have hm':=List.mem_of_getElem? hx
  have ihx:=ih x hm' (Ex.oks_mem hok.2 hm') (hall x hm') (ht.2 x hm')
  have hsome:=λh0=>uX (l:=l) hz hx h0
  have hzs:(bT l x).2=0->∀j y,j<i+1->of[j]?=some y->(bT l y).2=0:=λh0 j y hj hy=>by
   by_cases hji:j=i
   ·subst hji;rw [hx] at hy;injection hy with hy;subst hy;exact h0
   ·exact hz j y (by omega) hy
  have hmap:((of.take (i+1)).map λy=>(bT l y).1).map I1=((of.take i).map λy=>(bT l y).1).map I1++[I1 (bT l x).1]:=by rw [rM hx (λy=>(bT l y).1),List.map_append];rfl
  have hE2:(bT l x).2≠0->E=(0,(bT l x).2):=λh0=>by
   have:=hsome h0
   rw [hE]
   revert this
   cases gL l of with|mk a b=>intro this;simp only at this;subst this;rfl
  clear hsome hE
  generalize hr:bT l x=r at*
  obtain ⟨r1,r2⟩:=r
  obtain ⟨k',n',v',of'⟩:=x
  dsimp only at*
  by_cases h2:r2=0
  ·have hz2:=hzs h2
   (repeat' first|refine ⟨⟨(i+1,id'),by simp only;omega,iL hid',hz2⟩, ?_, ?_⟩;((dsimp only;rw [hmap]))|show Cn (.t _ _);exact .any (bP ‹_›)|apply wZ;rfl|show Cn _;constructor|exact rfl|apply cN pk;(iterate 6 rfl);rotate_left;rfl;(intro hw;rfl);(intro hw;apply hrow<;>omega);(intro _;exact (Ex.cells_len _));rfl|(apply ihx)|show _=_;((simp [I1];done))|(apply apS pk (r1) 8;(iterate 8 rfl);exact aA _ _ _;exact λ_=>rfl;exact λ_=>rfl;exact lY;((simp;omega));((simp;omega));rfl;intro id' hid')|apply wY;rfl|omega|simp only [zql];omega|(intro h;simp at h)|intro h)
  ·have e:=hE2 h2
   (repeat' first|show Cn (.e _ _ _ _);refine .any ?_;((refine ⟨_,_,_,rfl,zwr _,cR ‹_›, ?_,rfl⟩;(((rw [e]);done))))|apply wZ;rfl|show Cn _;constructor|apply cN pk;(iterate 6 rfl);rotate_left;rfl;(intro hw;rfl);(intro hw;apply hrow<;>omega);(intro _;exact (Ex.cells_len _));rfl|(apply ihx)|apply wY;rfl|omega|(intro h;simp at h)|intro h)
theorem xO (l:List Int) (hl:l.length<2^62):∀(os:List Ex) (x:Ex),x∈os->x.ok->bQ x=true->eX l.length x=true->PF Tryz.prog 235 [.agg x.cells, .seq (kD l)] (.tup [(vi ((bT l x).1)),(vi ((bT l x).2))])
 |[],_,h,_=>by cases h
 |e::es,x,h,hok=>by
  rcases zmc.1 h with h|h
  ·rw [h] at hok⊢;exact aaA l hl e hok
  ·exact xO l hl es x h hok
end
def kG (e:Ex) (l:List Int):Int×Int:=if uP e≠0 then (0,uP e) else if eX l.length e then bT l e else (0,4)
theorem adV {e:Ex} (h:uP e=0):qJ 20 e=false/\bQ e=true:=by
 unfold uP at h
 split at h
 ·omega
 ·rename_i h1
  split at h
  ·rename_i h2;exact ⟨by simpa using h1,h2⟩
  ·omega
theorem axE {e:Ex} (hok:e.ok) {l:List Int} (hl:l.length<2^62):PF Tryz.prog 168 [.agg e.cells, .seq (kD l)] (.tup [(vi ((kG e l).1)),(vi ((kG e l).2))]):=by
 have h1:=gK hok
 have h2:=abI ((l.length:Nat):Int) e hok
 have hlen:=afJ l
 rw [<-hlen] at h2
 by_cases hm:uP e=0
 ·rw [hm] at h1
  cases ht:eX l.length e with
  |true=>
   have h3:=aaA l hl e hok (adV hm).2 ht
   rw [hlen,ht] at h2
   rw [<-hlen] at h2
   have e1:kG e l=bT l e:=by unfold kG;rw [zn (λq=>q hm),zp ht]
   rw [e1]
   generalize bT l e=R at*
   clear hm ht e1
   obtain ⟨k,n,v,of⟩:=e
   refine pF Tryz.func168 rfl (λst=> ?_)
   (repeat' first|apply wZ;rfl|show Cn _;constructor|exact rfl|((first|apply h1|apply h2|apply h3))|apply wY;rfl)
  |false=>
   rw [hlen,ht] at h2
   rw [<-hlen] at h2
   have e1:kG e l=(0,4):=by unfold kG;rw [zn (λq=>q hm),zn (by rw [ht];simp)]
   rw [e1]
   clear hm ht e1
   obtain ⟨k,n,v,of⟩:=e
   refine pF Tryz.func168 rfl (λst=> ?_)
   (repeat' first|apply wZ;rfl|show Cn _;constructor|exact rfl|((first|apply h1|apply h2))|apply wY;rfl)
 ·have e1:kG e l=(0,uP e):=by unfold kG;rw [zp hm]
  rw [e1]
  generalize uP e=M at*
  clear e1 h2
  obtain ⟨k,n,v,of⟩:=e
  refine pF Tryz.func168 rfl (λst=> ?_)
  (repeat' first|apply wZ;rfl|show Cn _;constructor|exact rfl|(apply h1)|apply wY;rfl|omega|intro h)
mutual
def dI (row:List Vl):Ex->Vl×Int
 | .mk k n v o=>if k=0 then (if n>=row.length then (v0,4) else (row.getD n.toNat v0,0)) else if k=1 then (v,0) else
   match kN row o with
   |(_,some no)=>(v0,no)
   |(got,none)=>if yV (rU k) 0 (got.map Vl.kind) then tJ k (got.getD 0 v0) (got.getD (kQ k-1).toNat v0) else (v0,6)
def kN (row:List Vl):List Ex->List Vl×Option Int
 |[]=>([],none)
 |e::es=>if (dI row e).2=0 then ((dI row e).1::(kN row es).1,(kN row es).2) else ([],some (dI row e).2)
end
theorem yL {row:List Vl}:∀{os:List Ex},(∀x∈os,(dI row x).2=0)->kN row os=(os.map λx=>(dI row x).1,none)
 |[],_=>rfl
 |e::es,h=>by
  have ih:=yL (row:=row) (os:=es) λx hx=>h x (by simp [hx])
  simp [kN,h e (by simp),ih]
theorem xY {row:List Vl}:∀{os:List Ex} {i:Nat} {x:Ex},(∀j y,j<i->os[j]?=some y->(dI row y).2=0)->os[i]?=some x->(dI row x).2≠0->(kN row os).2=some (dI row x).2
 |[],_,_,_,h,_=>by simp at h
 |e::es,0,x,_,h,hx=>by
  simp at h;subst h
  simp [kN,hx]
 |e::es,i+1,x,h0,h,hx=>by
  simp at h
  have h1:=h0 0 e (by omega) (by simp)
  have ih:=xY (row:=row) (os:=es) (i:=i) (λj y hj hy=>h0 (j+1) y (by omega) (by simpa using hy)) h hx
  simp [kN,h1,ih]
theorem azK {v:Vl} (h:sN v=true):lim v.n:=by
 unfold sN at h
 split at h
 ·simp at h;unfold lim;omega
 ·split at h
  ·simp at h;unfold lim;omega
  ·split at h
   ·simp at h;unfold lim;omega
   ·cases h
theorem sH :lim v0.n:=by unfold lim v0;simp only;omega
theorem afV (b:Bool):lim (oM b).n:=by unfold lim oM vN;cases b<;>simp
theorem aBi {op:Int->Int->Int} {a b:Vl}:lim (zO op a b).1.n:=by
 unfold zO
 split
 ·exact sH
 ·rename_i h
  simp [alZ] at h
  unfold lim vN;simp only;omega
theorem aeU {r:Vl->Vl->Vl×Int} {a b:Vl} (h:lim (r a b).1.n):lim (kP r a b).1.n:=by
 unfold kP
 split
 ·exact sH
 ·exact h
theorem aD7 (k:Int) (a b:Vl):lim (tJ k a b).1.n:=by
 unfold tJ
 repeat' split
 all_goals first
  |exact aeU aBi
  |exact aeU (afV _)
  |exact afV _
  |(unfold aeP;(repeat' split)<;>first|exact sH|unfold lim vN;simp only;omega)
theorem aDp {row:List Vl} (h:∀v∈row,lim v.n) (i:Nat):lim (row.getD i v0).n:=by
 rw [List.getD_eq_getElem?_getD]
 cases hi:row[i]? with
 |none=>exact sH
 |some x=>exact h x (List.mem_of_getElem? hi)
theorem aDc {row:List Vl} (hr:∀v∈row,lim v.n):∀{e:Ex},bQ e=true->lim (dI row e).1.n
 | .mk k n v of,hf=>by
  simp only [dI]
  split
  ·split
   ·exact sH
   ·exact aDp hr _
  ·split
   ·rename_i h0 h1
    subst h1
    simp [bQ,mP] at hf
    exact azK hf.1.2
   ·split
    ·exact sH
    ·split
     ·exact aD7 _ _ _
     ·exact sH
def rowOK (row:List Vl):Prop:=row.length<2^62/\∀v∈row,lim v.n
theorem aAH {k n:Int} {v:Vl} {of:List Ex} {row:List Vl} (hr:rowOK row) (hk:k=0\/k=1) (hf:bQ (.mk k n v of)=true):
  PF Tryz.prog 132 [.agg (Ex.mk k n v of).cells, .seq (row.map Vl.cells)] (oU (dI row (.mk k n v of))):=by
 have hlen:(row.map Vl.cells).length=row.length:=zql _
 have hrl:=hr.1
 by_cases hk0:k=0
 ·subst hk0
  simp [bQ,mP] at hf
  by_cases h2:n>=row.length
  ·have e:dI row (.mk 0 n v of)=(v0,4):=by simp only [dI,zp];rw [zp h2]
   rw [e]
   refine pF Tryz.func132 rfl (λst=> ?_)
   (repeat' first|apply wZ;rfl|show Cn _;constructor|exact rfl|omega|(intro h;simp at h))
  ·have hn:n.toNat<row.length:=by omega
   have hx:=getElem?_pos row n.toNat hn
   have e:dI row (.mk 0 n v of)=(row[n.toNat],0):=by simp only [dI,zp];rw [zn h2];simp [hx]
   rw [e]
   have hrow:(row.map Vl.cells)[n.toNat]?=some row[n.toNat].cells:=by rw [List.getElem?_map,hx];rfl
   have hnn:n=((n.toNat:Nat):Int):=by omega
   refine pF Tryz.func132 rfl (λst=> ?_)
   (repeat' first|apply wZ;rfl|show Cn _;constructor|exact rfl|apply cN pk;(iterate 6 rfl);rotate_left;rfl;(intro hw;exact hnn);(intro hw;apply hrow<;>omega);(intro _;rfl);rfl|omega|(intro h;simp at h))
 ·have hk1:k=1:=by omega
  subst hk1
  have e:dI row (.mk 1 n v of)=(v,0):=by simp [dI]
  rw [e]
  refine pF Tryz.func132 rfl (λst=> ?_)
  (repeat' first|apply wZ;rfl|show Cn _;constructor|exact rfl)
def auP :List PV:=[(vi (0)),(vi (0)),(vs (e0))]
def aI1 :List Vl->List PV
 |[]=>auP++auP
 |[a]=>a.cells++auP
 |a::b::_=>a.cells++b.cells
mutual
theorem afN {row:List Vl} (hr:rowOK row):∀(e:Ex),e.ok->bQ e=true->PF Tryz.prog 132 [.agg e.cells, .seq (row.map Vl.cells)] (oU (dI row e))
 | .mk k n v of,hok,hf=>by
  have ih:=abY hr of
  by_cases hk01:k=0\/k=1
  ·exact aAH hr hk01 hf
  have hk0:¬k=0:=by omega
  have hk1:¬k=1:=by omega
  obtain ⟨hk,hn,hv,hlen,hall⟩:=uB hf hk0 hk1
  simp only [Ex.ok] at hok
  have hm:=amV k
  have hrl:=Ex.rows_len of
  obtain ⟨fid,caps,hlook,hsays⟩:=zK hk.1 hk.2
  have hE:dI row (.mk k n v of)=match kN row of with|(_,some no)=>(v0,no)|(got,none)=>if yV (rU k) 0 (got.map Vl.kind) then tJ k (got.getD 0 v0) (got.getD (kQ k-1).toNat v0) else (v0,6):=by simp only [dI,zn hk0,zn hk1];try rfl
  generalize dI row (.mk k n v of)=E at*
  refine pF Tryz.func132 rfl (λst=> ?_)
  focus ((repeat' first|apply wZ;rfl|show Cn _;constructor|omega|intro h))
  refine zA 7 3 rfl rfl (λid hid=> ?_)
  have hid:st id=none:=hid
  refine aC (X:={x:List Vl×Nat//x.1.length<=of.length/\st x.2=none/\x.1=(of.take x.1.length).map (λy=>(dI row y).1)/\∀j y,j<x.1.length->of[j]?=some y->(dI row y).2=0}) (λi=>(((((((((St.nil 81 (upd st i.1.2 (some (.tok 3)))).pv 1 (.seq (row.map Vl.cells))).var 2 129 ((Ex.mk k n v of).cells)).var 4 63 (auP)).var 6 261 (aI1 i.1.1)).pv 7 (.own i.1.2 ((i.1.1.map Vl.kind).map I1))).pv 33 (.seq (Ex.rows of))).pv 34 ((vi (((Ex.rows of).length:Nat))))).pv 35 ((vi ((i.1.1.length:Nat)))))) (λi=>of.length-i.1.1.length) ⟨([],id),by simp,hid,by simp,by simp⟩ ?_ (λi=> ?_)
  ·(repeat' first|show Cn (.t _ _);exact Cn.t0|show Cn _;constructor|exact rfl)
  obtain ⟨⟨got,id⟩,hi,hid,hgot,hz⟩:=i
  simp only at hi hid hgot hz
  dsimp only
  by_cases hend:of.length<=got.length
  ·have hle:got.length=of.length:=by omega
   have htk:of.take got.length=of:=uY (by omega)
   rw [htk] at hgot
   have hall2:∀x∈of,(dI row x).2=0:=λx hx=>by
    obtain ⟨j,hj⟩:=List.mem_iff_getElem?.1 hx
    exact hz j x (by have:=(zge.1 hj).1;omega) hj
   have hgot2:kN row of=(got,none):=by rw [hgot];exact yL hall2
   have hlim:∀v∈got,lim v.n:=λv hv=>by
    rw [hgot] at hv
    obtain ⟨e,he,rfl⟩:=List.mem_map.1 hv
    exact aDc hr.2 (hall e he)
   have hts:=rN (m:=kQ k) (nb:=rU k) (f:=fid) (caps:=caps) (l:=got.map Vl.kind) (by simp;omega)
   unfold kD at hts
   rw [hgot2] at hE
   simp only at hE
   clear hgot2 hall2 hz hgot htk
   generalize yV (rU k) 0 (got.map Vl.kind)=G at*
   cases G with
   |false=>
    rw [zn (by simp)] at hE
    (repeat' first|(apply Cn.cf;focus (((apply eA));done))|(apply cV;focus (((apply hts));done))|show Cn (.e _ _ _ _);refine .any ?_;((refine ⟨_,_,_,rfl,zwr _,cR ‹_›, ?_,rfl⟩;(((rw [hE];rfl);done))))|apply wZ;rfl|show Cn _;constructor|apply KR.mk;kernel_rfl|apply kW pk;(iterate 4 rfl);(focus repeat' constructor);rfl;exact hlook;rfl|apply wY;rfl|omega|(intro h;simp at h))
   |true=>
    rw [zp rfl] at hE
    rcases got with _|⟨a,_|⟨b,_|⟨_,_⟩⟩⟩
    ·simp only [List.length_nil] at hle;omega
    ·have hm1:kQ k=1:=by simp only [zlc,List.length_nil] at hle;omega
     have ha:=hlim a (by simp)
     have hs:=hsays a.kind a.n a.s a.kind a.n a.s ha ha
     rw [hm1] at hE hts hlook
     have e:E=tJ k a a:=hE
     rw [e]
     generalize tJ k a a=R at*
     (repeat' first|(apply Cn.cf;focus (((first|apply eA|apply hs));done))|(apply cV;focus (((apply hts));done))|show Cn (.e _ _ _ _);refine .any ?_;((refine ⟨_,_,_,rfl,zwr _,cR ‹_›, ?_,rfl⟩;(rfl)))|apply wZ;rfl|show Cn _;constructor|apply KR.mk;kernel_rfl|apply kW pk;(iterate 4 rfl);(focus repeat' constructor);rfl;exact hlook;rfl|apply jK pk 0;(iterate 5 rfl);(focus repeat' constructor);rfl;(intro _;rfl);(intro _;omega);rfl|apply wY;rfl|omega|(intro h;simp at h))
    ·have hm1:kQ k=2:=by simp only [zlc,List.length_nil] at hle;omega
     have ha:=hlim a (by simp)
     have hb:=hlim b (by simp)
     have hs:=hsays a.kind a.n a.s b.kind b.n b.s ha hb
     rw [hm1] at hE hts hlook
     have e:E=tJ k a b:=hE
     rw [e]
     generalize tJ k a b=R at*
     (repeat' first|(apply Cn.cf;focus (((first|apply eA|apply hs));done))|(apply cV;focus (((apply hts));done))|show Cn (.e _ _ _ _);refine .any ?_;((refine ⟨_,_,_,rfl,zwr _,cR ‹_›, ?_,rfl⟩;(rfl)))|apply wZ;rfl|show Cn _;constructor|apply KR.mk;kernel_rfl|apply kW pk;(iterate 4 rfl);(focus repeat' constructor);rfl;exact hlook;rfl|apply jK pk 0;(iterate 5 rfl);(focus repeat' constructor);rfl;(intro _;rfl);(intro _;omega);rfl|apply jK pk 1;(iterate 5 rfl);(focus repeat' constructor);rfl;(intro _;rfl);(intro _;omega);rfl|apply wY;rfl|omega|(intro h;simp at h))
    ·simp only [zlc] at hle;omega
  obtain ⟨x,hx⟩:=fM (l:=of) (i:=got.length) (by omega)
  have hrow:=Ex.rows_get hx
  have hm':=List.mem_of_getElem? hx
  have ihx:=ih x hm' (Ex.oks_mem hok.2 hm') (hall x hm')
  have hsome:=λh0=>xY (row:=row) hz hx h0
  have hzs:(dI row x).2=0->∀j y,j<got.length+1->of[j]?=some y->(dI row y).2=0:=λh0 j y hj hy=>by
   by_cases hji:j=got.length
   ·subst hji;rw [hx] at hy;injection hy with hy;subst hy;exact h0
   ·exact hz j y (by omega) hy
  have hmap:=rM hx (λy=>(dI row y).1)
  rw [<-hgot] at hmap
  have hE2:(dI row x).2≠0->E=(v0,(dI row x).2):=λh0=>by
   have:=hsome h0
   rw [hE]
   revert this
   cases kN row of with|mk a b=>intro this;simp only at this;subst this;rfl
  clear hsome hE
  generalize hrr:dI row x=r at*
  obtain ⟨⟨rk,rn,rs⟩,re⟩:=r
  obtain ⟨k',n',v',of'⟩:=x
  dsimp only at*
  by_cases h2:re=0
  ·have hz2:=hzs h2
   have hg2:got.length<2:=by omega
   rcases got with _|⟨a,_|⟨b,_⟩⟩
   ·simp only [List.length_nil] at hend hi
    have hne:¬(Ex.rows of=[]):=λq=>by rw [q] at hrl;simp only [List.length_nil] at hrl;omega
    have hz1:(List.map Vl.kind ([]:List Vl)).length=0:=rfl
    have w1:([⟨rk,rn,rs⟩]:List Vl).length<=of.length:=by show 1<=of.length;omega
    have w2:([⟨rk,rn,rs⟩]:List Vl).length=1:=rfl
    have w3:([]:List Vl).length=0:=rfl
    have hz3:(List.map I1 (List.map Vl.kind ([]:List Vl))).length=0:=rfl
    (repeat' first|refine ⟨⟨([⟨rk,rn,rs⟩],id'),w1,iL hid',hmap.symm,hz2⟩, ?_, ?_⟩;((dsimp only))|show Cn (.t _ _);exact .any (bP ‹_›)|apply wZ;rfl|show Cn _;constructor|exact rfl|apply cN pk;(iterate 6 rfl);rotate_left;rfl;(intro hw;rfl);(intro hw;apply hrow<;>omega);(intro _;exact (Ex.cells_len _));rfl|(apply ihx)|apply jK pk 0;(iterate 5 rfl);(focus repeat' constructor);rfl;(intro _;rfl);(intro _;omega);rfl|(apply apS pk (rk) 8;(iterate 8 rfl);exact aA _ _ _;exact λ_=>rfl;exact λ_=>rfl;exact lY;(omega);(omega);rfl;intro id' hid')|apply wY;rfl|omega|simp only [zql];omega|(intro h;simp at h))
   ·simp only [zlc,List.length_nil] at hend hi
    have hz1:(List.map Vl.kind [a]).length=1:=rfl
    have w1:([a,⟨rk,rn,rs⟩]:List Vl).length<=of.length:=by show 2<=of.length;omega
    have w2:([a,⟨rk,rn,rs⟩]:List Vl).length=2:=rfl
    have w3:[a].length=1:=rfl
    have hz3:(List.map I1 (List.map Vl.kind [a])).length=1:=rfl
    (repeat' first|refine ⟨⟨([a,⟨rk,rn,rs⟩],id'),w1,iL hid',hmap.symm,hz2⟩, ?_, ?_⟩;((dsimp only))|show Cn (.t _ _);exact .any (bP ‹_›)|apply wZ;rfl|show Cn _;constructor|exact rfl|apply cN pk;(iterate 6 rfl);rotate_left;rfl;(intro hw;rfl);(intro hw;apply hrow<;>omega);(intro _;exact (Ex.cells_len _));rfl|(apply ihx)|apply jK pk 1;(iterate 5 rfl);(focus repeat' constructor);rfl;(intro _;rfl);(intro _;omega);rfl|(apply apS pk (rk) 8;(iterate 8 rfl);exact aA _ _ _;exact λ_=>rfl;exact λ_=>rfl;exact lY;(omega);(omega);rfl;intro id' hid')|apply wY;rfl|omega|simp only [zql];omega|(intro h;simp at h))
   ·exact absurd hg2 (by simp)
  ·have e:=hE2 h2
   (repeat' first|show Cn (.e _ _ _ _);refine .any ?_;((refine ⟨_,_,_,rfl,zwr _,cR ‹_›, ?_,rfl⟩;(((rw [e];rfl);done))))|apply wZ;rfl|show Cn _;constructor|apply cN pk;(iterate 6 rfl);rotate_left;rfl;(intro hw;rfl);(intro hw;apply hrow<;>omega);(intro _;exact (Ex.cells_len _));rfl|(apply ihx)|apply wY;rfl|omega|(intro h;simp at h))
theorem abY {row:List Vl} (hr:rowOK row):∀(os:List Ex) (x:Ex),x∈os->x.ok->bQ x=true->PF Tryz.prog 132 [.agg x.cells, .seq (row.map Vl.cells)] (oU (dI row x))
 |[],_,h,_=>by cases h
 |e::es,x,h,hok=>by
  rcases zmc.1 h with h|h
  ·rw [h] at hok⊢;exact afN hr e hok
  ·exact abY hr es x h hok
end
def EvalR (e:Ex) (row:List Vl):Vl×Int:=if uP e≠0 then (v0,uP e) else dI row e
theorem Eval_spec {e:Ex} (hok:e.ok) {row:List Vl} (hr:rowOK row):PF Tryz.prog 83 [.agg e.cells, .seq (row.map Vl.cells)] (oU (EvalR e row)):=by
 have h1:=gK hok
 by_cases hm:uP e=0
 ·have h3:=afN hr e hok (adV hm).2
  rw [hm] at h1
  have e1:EvalR e row=dI row e:=by unfold EvalR;rw [zn (λq=>q hm)]
  rw [e1]
  generalize dI row e=R at*
  clear hm e1
  obtain ⟨k,n,v,of⟩:=e
  refine pF Tryz.func83 rfl (λst=> ?_)
  (repeat' first|apply wZ;rfl|show Cn _;constructor|exact rfl|((first|apply h1|apply h3))|apply wY;rfl)
 ·have e1:EvalR e row=(v0,uP e):=by unfold EvalR;rw [zp hm]
  rw [e1]
  generalize uP e=M at*
  clear e1
  obtain ⟨k,n,v,of⟩:=e
  refine pF Tryz.func83 rfl (λst=> ?_)
  (repeat' first|apply wZ;rfl|show Cn _;constructor|exact rfl|(apply h1)|apply wY;rfl|omega|intro h)
def nK (f:Ex->Int->Int) (left:Int):Int->List Ex->Int
 |n,[]=>n
 |n,x::xs=>if n<=left then nK f left (n+f x (left-n)) xs else n
def nodesR :Nat->Ex->Int->Int
 |0,_,left=>left+1
 |d+1,e,left=>nK (nodesR d) left 1 e.of
theorem agE {f:Ex->Int->Int} {left:Int} (hf:∀x l,0<=l->1<=f x l/\f x l<=l+1):∀(l:List Ex) (n:Int),1<=n->n<=left+1->1<=nK f left n l/\nK f left n l<=left+1
 |[],n,h1,h2=>⟨h1,h2⟩
 |x::xs,n,h1,h2=>by
  simp only [nK]
  split
  ·rename_i h
   have:=hf x (left-n) (by omega)
   exact agE hf xs _ (by omega) (by omega)
  ·exact ⟨h1,h2⟩
theorem agC :∀(d:Nat) (e:Ex) (left:Int),0<=left->1<=nodesR d e left/\nodesR d e left<=left+1
 |0,_,left,h=>by simp only [nodesR];omega
 |d+1,e,left,h=>by
  simp only [nodesR]
  exact agE (λx l hl=>agC d x l hl) _ _ (by omega) (by omega)
theorem atD :∀(d:Nat) (e:Ex) (left z:Int),z=(d:Nat)->d<=1000->0<=left->left<=1000->e.ok->PF Tryz.prog 88 [.agg e.cells,(vi (left)),(vi (z))] (vi (nodesR d e left)):=by
 intro d
 induction d with
 |zero=>
  intro e left z hz _ h1 h2 hok
  subst hz
  obtain ⟨k,n,v,of⟩:=e
  refine pF Tryz.func88 rfl (λst=> ?_)
  (repeat' first|apply wZ;rfl|show Cn _;constructor|exact rfl|omega)
 |succ d ih=>
  intro e left z hz hd h1 h2 hok
  subst hz
  obtain ⟨k,n,v,of⟩:=e
  simp only [Ex.ok] at hok
  have hrl:=Ex.rows_len of
  refine pF Tryz.func88 rfl (λst=> ?_)
  focus ((repeat' first|apply wZ;rfl|show Cn _;constructor))
  refine aC (X:={x:Nat×Int//x.1<=of.length/\1<=x.2/\x.2<=left+1/\nodesR (d+1) (.mk k n v of) left=nK (nodesR d) left x.2 (of.drop x.1)}) (λi=>((((((St.nil 39 st).pv 1 ((vi (left)))).pv 2 ((vi ((d+1:Nat))))).var 3 129 ((Ex.mk k n v of).cells)).pv 7 ((vi (i.1.2)))).pv 8 ((vi ((i.1.1:Nat)))))) (λi=>of.length-i.1.1) ⟨(0,1),by simp,by simp,by simp only;omega,rfl⟩ ?_ (λi=> ?_)
  ·(repeat' first|show Cn _;constructor|exact rfl)
  obtain ⟨⟨i,m⟩,hi,hm1,hm2,hinv⟩:=i
  simp only at hi hm1 hm2 hinv
  dsimp only
  by_cases hend:¬(i<of.length/\m<=left)
  ·have hfin:nK (nodesR d) left m (of.drop i)=m:=by
    by_cases hlt:i<of.length
    ·obtain ⟨x,hx⟩:=fM hlt
     rw [zY hx]
     simp only [nK]
     rw [zn (λq=>hend ⟨hlt,q⟩)]
    ·rw [avU hlt];rfl
   rw [hfin] at hinv
   (repeat' first|apply wZ;rfl|show Cn _;constructor|exact rfl|show (_:PV)=_;(rw [hinv]);done|intro h;simp at h;omega|(intro h;simp at h))
  obtain ⟨hlt,hml⟩:=zdn hend
  obtain ⟨x,hx⟩:=fM hlt
  have hrow:=Ex.rows_get hx
  have hx2:=agC d x (left-m) (by omega)
  have ihx:=λz hz=>ih x (left-m) z hz (by omega) (by omega) (by omega) (Ex.oks_mem hok.2 (List.mem_of_getElem? hx))
  rw [zY hx] at hinv
  simp only [nK] at hinv
  rw [zp hml] at hinv
  generalize nodesR d x (left-m)=r at*
  obtain ⟨k',n',v',of'⟩:=x
  (repeat' first|(refine ⟨⟨(i+1,m+r),by simp only;omega,by simp only;omega,by simp only;omega,hinv⟩, ?_, ?_⟩)|apply wZ;rfl|show Cn _;constructor|exact rfl|apply cN pk;(iterate 6 rfl);rotate_left;rfl;(intro hw;rfl);(intro hw;apply hrow<;>omega);(intro _;exact (Ex.cells_len _));rfl|(apply ihx<;>(omega))|apply wY;rfl|omega|simp only [zql];omega|intro h;simp at h;omega|(intro h;simp at h))
theorem Few_spec {e:Ex} (hok:e.ok):PF Tryz.prog 54 [.agg e.cells] (vb (decide (nodesR 25 e 60<=60))):=by
 have h:=atD 25 e 60 25 rfl (by omega) (by omega) (by omega) hok
 generalize nodesR 25 e 60=N at*
 obtain ⟨k,n,v,of⟩:=e
 refine pF Tryz.func54 rfl (λst=> ?_)
 (repeat' first|apply wZ;rfl|show Cn _;constructor|exact rfl|(apply h)|apply wY;rfl)
end Go.Proofs.YtfablfldonhkiaaGreatDoor.X
namespace Go.Proofs.YtfablfldonhkiaaGreatDoor
open Go Go.Abs
namespace X
set_option maxRecDepth 10000
set_option maxHeartbeats 4000000
mutual
theorem Ex.inj :∀(a b:Ex),a.cells=b.cells->a=b
 | .mk k n v o, .mk k' n' v' o',h=>by
  simp only [Ex.cells,List.cons.injEq,PV.val.injEq,PV.seq.injEq,Value.int.injEq,Value.string.injEq,true_and,and_true] at h
  obtain ⟨rfl,rfl,h1,h2,h3,h4⟩:=h
  have e:=Ex.injs o o' h4
  obtain ⟨a,b,c⟩:=v
  obtain ⟨a',b',c'⟩:=v'
  simp only at h1 h2 h3
  subst h1 h2 h3 e
  rfl
theorem Ex.injs :∀(a b:List Ex),Ex.rows a=Ex.rows b->a=b
 |[],[],_=>rfl
 |[],_::_,h=>by simp [Ex.rows] at h
 |_::_,[],h=>by simp [Ex.rows] at h
 |a::l,b::m,h=>by
  simp only [Ex.rows,List.cons.injEq] at h
  rw [Ex.inj a b h.1,Ex.injs l m h.2]
end
def RightR (e:Ex) (l:List Int):Int:=if (kG e l).2=0 then (if (kG e l).1=2 then 6 else 0) else (kG e l).2
end X
open Classical in
noncomputable def exOf (c:List PV):X.Ex:=if h:∃e:X.Ex,e.ok/\e.cells=c then h.choose else .mk 0 0 X.v0 []
theorem aiD {c:List PV} (h:∃e:X.Ex,e.ok/\e.cells=c):(exOf c).ok/\(exOf c).cells=c:=by
 unfold exOf
 rw [dif_pos h]
 exact h.choose_spec
def tN (t:Tb):Prop:=∀c∈t.checks,∃e:X.Ex,e.ok/\e.cells=c
def chE (p:Vl×Int):Int:=if p.2=0 then (if p.1=⟨1,0,e0⟩ then 9 else 0) else p.2
noncomputable def exR (t:Tb) (r:List Vl):Int:=dZ (λc=>chE (X.EvalR (exOf c) r)) t.checks
noncomputable def rightX (t:Tb):Int:=dZ (λc=>X.RightR (exOf c) (t.cols.map dQ)) t.checks
noncomputable def rightC (s:Sc):Int:=if cB s=0 then dZ rightX s else cB s
end Go.Proofs.YtfablfldonhkiaaGreatDoor
namespace Go.Proofs.YtfablfldonhkiaaGreatDoor
open Go Go.Abs
attribute [local irreducible] Ev PWp
set_option maxRecDepth 10000
set_option maxHeartbeats 4000000
def nD (t:Tb) (rows:List (List Vl)) (b:Bs):List PV:=t.cells++[.seq (rows.map roC), .seq (b.map Da.cells)]
variable (t:Tb) (rows:List (List Vl)) (b:Bs)
theorem arM (hc:t.cols.length<1000000000000000) (hl:rows.length<1000000000000000) (hr:∀r∈rows,r.length<1000000000000000):PF Tryz.prog 45 [.agg (nD t rows b)] (vi (dZ (eH t) rows)):=by
 refine pF Tryz.func45 rfl (λst=> ?_)
 focus ((repeat' first|apply wZ;rfl|show Cn _;constructor))
 refine aC (X:={x:Nat//x<=rows.length/\∀j (h:j<rows.length),j<x->eH t rows[j]=0}) (λi=>(((((St.nil 22 st).var 1 119 ((nD t rows b))).pv 7 (.seq (rows.map roC))).pv 8 ((vi (((rows.map roC).length:Nat))))).pv 9 ((vi ((i.1:Nat)))))) (λi=>rows.length-i.1) ⟨0,by omega,by omega⟩ ?_ (λi=> ?_)
 ·(repeat' first|show Cn _;constructor|exact rfl)
 obtain ⟨i,hi,hI⟩:=i
 dsimp only
 by_cases hend:rows.length<=i
 ·have e:dZ (eH t) rows=0:=nF λj hj=>hI j hj (by omega)
  (repeat' first|apply wZ;rfl|show Cn _;constructor|exact rfl|show (_:PV)=_;(rw [e]);done|simp only [zql];omega|(intro h;simp at h))
 have hil:i<rows.length:=by omega
 have hk:=aeV t rows[i] hc (hr _ (zgm hil))
 have e:=tG hI hil
 have hu:=sY hI hil
 generalize eH t rows[i]=E at*
 (repeat' first|(refine ⟨⟨i+1,by omega,hu ‹_›⟩, ?_, ?_⟩)|apply wZ;rfl|show Cn _;constructor|exact rfl|(apply hk)|show (_:PV)=_;(rw [e ‹_›]);done|apply wY;rfl|apply wI;rfl|apply gE;omega|omega|simp only [zql];omega|(intro h;simp at h)|intro h)
def bF' (b:Bool):PV:=(vb (b))
theorem qQ {st:aD} {id:Nat} {a b:Option AObj} (h:st id=none):StSub st (upd (upd st id a) id b):=λj=>by
 by_cases hj:j=id
 ·subst hj;left;exact h
 ·right;rw [aB hj,aB hj]
theorem oI {st:aD} {id:Nat} {a:Option AObj} (h:st id=none):StSub st (upd st id a):=λj=>by
 by_cases hj:j=id
 ·subst hj;left;exact h
 ·right;rw [aB hj]
theorem anA (hl:rows.length<1000000000000000) (hu:t.unique.length<1000000000000000) (hr:∀u∈t.unique,0<=u/\∀r∈rows,u<r.length):PF Tryz.prog 46 [.agg (nD t rows b)] (vi (if lL t rows=false then 8 else 0)):=by
 have hyes:=aA1 (t:=t) (rows:=rows)
 have hno:=λj k hj h=>aFc (t:=t) (rows:=rows) (j:=j) (k:=k) hj h
 generalize lL t rows=B at*
 refine pF Tryz.func46 rfl (λst=> ?_)
 focus ((repeat' first|apply wZ;rfl|show Cn _;constructor))
 refine aC (X:={x:Nat//x<=t.unique.length/\∀j (h:j<t.unique.length),j<x->pwU t.unique[j].toNat rows}) (λi=>(((((St.nil 45 st).var 1 119 ((nD t rows b))).pv 10 (.seq (t.unique.map I1))).pv 11 ((vi (((t.unique.map I1).length:Nat))))).pv 12 ((vi ((i.1:Nat)))))) (λi=>t.unique.length-i.1) ⟨0,by omega,by omega⟩ ?_ (λi=> ?_)
 ·(repeat' first|show Cn _;constructor|exact rfl)
 obtain ⟨i,hi,hI⟩:=i
 dsimp only
 by_cases hend:t.unique.length<=i
 ·have e:B=true:=hyes λj hj=>hI j hj (by omega)
  (repeat' first|apply wZ;rfl|show Cn _;constructor|exact rfl|show (_:PV)=_;(rw [e];rfl);done|simp only [zql];omega|(intro h;simp at h))
 have hil:i<t.unique.length:=by omega
 obtain ⟨hu0,hur⟩:=hr _ (zgm hil)
 have hno:=λk=>hno i k hil
 have hup:pwU t.unique[i].toNat rows->∀j (h:j<t.unique.length),j<i+1->pwU t.unique[j].toNat rows:=λh j hj hji=>by
  rcases zls.1 hji with q|q
  ·exact hI j hj q
  ·subst q;exact h
 focus ((repeat' first|(apply mkM (enc:=Ie) (f:=bF');rfl;intro id hid)|apply wZ;rfl|show Cn _;constructor|exact rfl|apply wI;rfl|apply gE;omega|simp only [zql];omega|(intro h;simp at h)))
 have hid0:st id=none:=hid
 clear hid
 obtain ⟨u,hu⟩:∃u:Nat,t.unique[i]=(u:Int):=⟨t.unique[i].toNat,by omega⟩
 have hto:t.unique[i].toNat=u:=by omega
 rw [hto] at hno hup
 refine aC (X:={x:Nat//x<=rows.length/\pwU u (rows.take x)}) (λy=>((((((((((St.nil 45 (upd st id (some (.map (aM Ie bF' (apE u (rows.take y.1))))))).var 1 119 ((nD t rows b))).pv 4 ((vi (t.unique[i])))).pv 5 (.mref id)).pv 10 (.seq (t.unique.map I1))).pv 11 ((vi (((t.unique.map I1).length:Nat))))).pv 12 ((vi ((i:Nat))))).pv 18 (.seq (rows.map roC))).pv 19 ((vi (((rows.map roC).length:Nat))))).pv 20 ((vi ((y.1:Nat)))))) (λy=>rows.length-y.1) ⟨0,by omega,by unfold pwU;simp⟩ ?_ (λy=> ?_)
 ·(repeat' first|show Cn (.t _ _);exact Cn.t0|show Cn _;constructor|exact rfl)
 obtain ⟨y,hy,hyI⟩:=y
 dsimp only
 by_cases hend2:rows.length<=y
 ·rw [ztl hend2] at hyI
  (repeat' first|(refine ⟨⟨i+1,by omega,hup hyI⟩, ?_, ?_⟩)|show Cn (.s _ (St.nil _ _));refine .any ?_;exact Sub.nil _ _ _ (oI hid0) rfl|apply wZ;rfl|show Cn _;constructor|exact rfl|omega|simp only [zql];omega|(intro h;simp at h))
 have hyl:y<rows.length:=by omega
 have hru:=hur _ (zgm hyl)
 have hru':u<rows[y].length:=by rw [hu] at hru;omega
 have hgu:=getElem!_pos rows[y] u hru'
 have hup2:=aIA (u:=u) hyl
 have hno2:=hno (y+1)
 have hget:=aBk u rows[y][u]!.n (rows.take y)
 have hmet:=aGe u hyl
 rw [hgu] at hup2 hget hmet
 clear hgu
 generalize hM:apE u (rows.take y)=M at*
 generalize ((rows.take y).any λr=>decide (r[u]!.kind=1)&&decide (r[u]!.n=rows[y][u].n))=Q at*
 by_cases hk:rows[y][u].kind=1
 ·rw [zp hk] at hmet
  cases Q with
  |true=>
   have e:B=false:=hno2 λh=>by have:=(hup2.1 h).2 hk;cases this
   (repeat' first|apply iX;(intro hw;exact hu);(apply gE;omega);rfl|show Cn (.e _ _ _ _);refine .any ?_;((refine ⟨_,_,_,rfl,zwr _,cR ‹_›, ?_,rfl⟩;(((rw [e];rfl);done))))|apply wZ;rfl|show Cn _;constructor|exact rfl|apply lkD pk vJ (f:=bF') (z:=false) (k:=rows[y][u].n) (n:=true);(iterate 5 rfl);rotate_left;rfl;exact aA _ _ _;rfl;exact hget|apply wI;rfl|apply gE;omega|omega|simp only [zql];omega|(intro h;simp at h)|intro h)
  |false=>
   have hw:=hup2.2 ⟨hyI,λ_=>rfl⟩
   (repeat' first|apply iX;(intro hw;exact hu);(apply gE;omega);rfl|refine ⟨⟨y+1,by omega,hw⟩, ?_, ?_⟩;((dsimp only;rw [hmet]))|show Cn (.t _ _);exact .any (cQ (by (((simp only [St.pv,St.put,St.sst,St.setv,St.nil,St.var,eF]);(done)))))|apply wZ;rfl|show Cn _;constructor|exact rfl|apply lkD pk vJ (f:=bF') (z:=false) (k:=rows[y][u].n) (n:=false);(iterate 5 rfl);rotate_left;rfl;exact aA _ _ _;rfl;exact hget|apply muA pk vJ (f:=bF') (k:=rows[y][u].n) (v:=true);(exact .inr rfl);(iterate 5 rfl);exact aA _ _ _;rfl|apply wI;rfl|apply gE;omega|omega|simp only [zql];omega|(intro h;simp at h)|intro h)
 ·rw [zn hk] at hmet
  have hw:=hup2.2 ⟨hyI,λq=>absurd q hk⟩
  (repeat' first|apply iX;(intro hw;exact hu);(apply gE;omega);rfl|refine ⟨⟨y+1,by omega,hw⟩, ?_, ?_⟩;((dsimp only;rw [hmet]))|show Cn (.t _ _);exact Cn.t0|apply wZ;rfl|show Cn _;constructor|exact rfl|apply wI;rfl|apply gE;omega|omega|simp only [zql];omega|(intro h;simp at h)|intro h)
end Go.Proofs.YtfablfldonhkiaaGreatDoor
