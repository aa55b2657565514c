import Derived.Test.YtfablfldonhkiaaGreatDoorClAc
import Derived.Test.YtfablfldonhkiaaGreatDoorAbsI
import Derived.Test.YtfablfldonhkiaaGreatDoorAbsG
set_option linter.unusedSimpArgs false
set_option linter.unusedVariables false
namespace Go.Proofs.YtfablfldonhkiaaGreatDoor
open Go Go.Abs
section
attribute [local irreducible] Ev PWp
set_option maxRecDepth 10000
set_option maxHeartbeats 4000000
theorem aAq (a b:List Dt) (hb:a.length<4611686018427387904):PF Tryz.prog 35 [.seq (a.map Dt.cells), .seq (b.map Dt.cells)] (vb (decide (a=b))):=by
 by_cases hl:¬(a.length=b.length)
 ·have e:decide (a=b)=false:=decide_eq_false λq=>hl (by rw [q])
  refine pF Tryz.func35 rfl (λst=> ?_)
  (repeat' first|apply wZ;rfl|show Cn _;constructor|exact rfl|show (_:PV)=_;((rw [e];done));done|simp only [zql];omega|(intro h;simp at h))
 replace hl:=zdn hl
 refine pF Tryz.func35 rfl (λst=> ?_)
 (repeat' first|apply wZ;rfl|show Cn _;constructor|simp only [zql];omega|(intro h;simp at h))
 refine aC (X:={x:Nat//x<=a.length/\∀j (h:j<x) (c:j<a.length) (f:j<b.length),a[j]=b[j]}) (λi=>((((St.nil 26 st).pv 0 (.seq (a.map Dt.cells))).pv 1 (.seq (b.map Dt.cells))).pv 5 ((vi ((i.1:Nat)))))) (λi=>a.length-i.1) ⟨0,by omega,λ_ h=>absurd h (Nat.not_lt_zero _)⟩ ?_ (λi=> ?_)
 ·(repeat' first|show Cn _;constructor|exact rfl)
 obtain ⟨i,hi,k⟩:=i;dsimp only;by_cases n:a.length<=i
 ·have e:decide (a=b)=true:=decide_eq_true (List.ext_getElem hl λj c f=>k j (by omega) c f)
  (repeat' first|apply wZ;rfl|show Cn _;constructor|exact rfl|show (_:PV)=_;(rw [e]);done|simp only [zql];omega|(intro h;simp at h))
 have c:i<a.length:=by omega
 have f:i<b.length:=by omega
 have g:¬a[i]=b[i]->decide (a=b)=false:=λh=>decide_eq_false λq=>h (by subst q;rfl);have m:a[i]=b[i]->∀j (h:j<i+1) (c:j<a.length) (f:j<b.length),a[j]=b[j]:=λh j hj c f=>by
  rcases zls.1 hj with q|q
  ·exact k j q c f
  ·subst q;exact h
 rw [Dt.ext_iff] at g m
 (repeat' first|(refine ⟨⟨i+1,by omega,m ‹_›⟩, ?_, ?_⟩)|apply wZ;rfl|show Cn _;constructor|exact rfl|apply KR.mk;kernel_rfl|show (_:PV)=_;(rw [g (by grind)]);done|apply wI;rfl|apply gE;omega|omega|simp only [zql];omega|(intro h;simp at h))
theorem aBv (a b:Cl) (hb:a.parts.length<4611686018427387904):PF Tryz.prog 36 [.agg a.cells, .agg b.cells] (vb (decide (a=b))):=by
 by_cases hl:¬(a.kind=b.kind/\(a.val.kind=b.val.kind/\a.val.n=b.val.n/\a.val.s=b.val.s)/\a.parts.length=b.parts.length)
 ·have e:decide (a=b)=false:=decide_eq_false λq=>hl (by rw [q];simp)
  rw [e];have hx:(a.kind=b.kind/\a.val.kind=b.val.kind/\a.val.n=b.val.n/\a.val.s=b.val.s)/\(a.parts.length:Int)=(b.parts.length:Int)->False:=λh=>hl ⟨h.1.1,h.1.2,by omega⟩;refine pF Tryz.func36 rfl (λst=> ?_)
  (repeat' first|exact (hx ‹_›).elim|apply wZ;rfl|show Cn _;constructor|exact rfl|(intro h;simp at h))
 replace hl:=zdn hl
 obtain ⟨k1,⟨k2,p,u⟩,v⟩:=hl;have hv:a.val=b.val:=(Vl.ext_iff _ _).2 ⟨k2,p,u⟩;refine pF Tryz.func36 rfl (λst=> ?_)
 (repeat' first|apply wZ;rfl|show Cn _;constructor|exact rfl|show (_:PV)=_;(exfalso;grind);done|(intro h;simp at h))
 refine aC (X:={x:Nat//x<=a.parts.length/\∀j (h:j<x) (c:j<a.parts.length) (f:j<b.parts.length),a.parts[j]=b.parts[j]}) (λi=>((((St.nil 45 st).var 2 110 (a.cells)).var 3 110 (b.cells)).pv 5 ((vi ((i.1:Nat)))))) (λi=>a.parts.length-i.1) ⟨0,by omega,λ_ h=>absurd h (Nat.not_lt_zero _)⟩ ?_ (λi=> ?_)
 ·(repeat' first|show Cn _;constructor|exact rfl)
 obtain ⟨i,hi,k⟩:=i;dsimp only;by_cases o:a.parts.length<=i
 ·have e:decide (a=b)=true:=decide_eq_true ((Cl.ext_iff _ _).2 ⟨k1,hv,List.ext_getElem v λj c f=>k j (by omega) c f⟩)
  (repeat' first|apply wZ;rfl|show Cn _;constructor|exact rfl|show (_:PV)=_;(rw [e]);done|simp only [zql];omega|(intro h;simp at h))
 have c:i<a.parts.length:=by omega
 have f:i<b.parts.length:=by omega
 have g:¬a.parts[i]=b.parts[i]->decide (a=b)=false:=λh=>decide_eq_false λq=>h (by subst q;rfl);have m:a.parts[i]=b.parts[i]->∀j (h:j<i+1) (c:j<a.parts.length) (f:j<b.parts.length),a.parts[j]=b.parts[j]:=λh j hj c f=>by
  rcases zls.1 hj with q|q
  ·exact k j q c f
  ·subst q;exact h
 rw [Pt.ext_iff,Vl.ext_iff,Dt.ext_iff,Dt.ext_iff] at g m
 (repeat' first|(refine ⟨⟨i+1,by omega,m (by grind)⟩, ?_, ?_⟩)|apply wZ;rfl|show Cn _;constructor|exact rfl|apply KR.mk;kernel_rfl|show (_:PV)=_;(rw [g (by grind)]);done|apply wI;rfl|apply gE;omega|omega|simp only [zql];omega|(intro h;simp at h))
theorem afN (a b:Ln) (f:a.by_.length<4611686018427387904) (hb:a.cells_.length<4611686018427387904) (hp:∀c∈a.cells_,c.parts.length<4611686018427387904):PF Tryz.prog 12 [.agg a.cells, .agg b.cells] (vb (decide (a=b))):=by
 have hd:=aAq a.by_ b.by_ f;by_cases hl:¬((a.key=b.key/\a.cells_.length=b.cells_.length)/\a.by_=b.by_)
 ·have e:decide (a=b)=false:=decide_eq_false λq=>hl (by rw [q];simp)
  rw [e];have hx:(a.key=b.key/\(a.cells_.length:Int)=(b.cells_.length:Int))/\a.by_=b.by_->False:=λh=>hl ⟨⟨h.1.1,by omega⟩,h.2⟩;refine pF Tryz.func12 rfl (λst=> ?_)
  (repeat' first|exact (hx ‹_›).elim|apply wZ;rfl|show Cn _;constructor|exact rfl|(apply hd)|apply wY;rfl|(intro h;simp at h))
 replace hl:=zdn hl
 obtain ⟨⟨k1,p⟩,k2⟩:=hl;refine pF Tryz.func12 rfl (λst=> ?_)
 (repeat' first|apply wZ;rfl|show Cn _;constructor|exact rfl|(apply hd)|show (_:PV)=_;(exfalso;grind);done|apply wY;rfl|(intro h;simp at h))
 refine aC (X:={x:Nat//x<=a.cells_.length/\∀j (h:j<x) (f:j<a.cells_.length) (g:j<b.cells_.length),a.cells_[j]=b.cells_[j]}) (λi=>((((St.nil 47 st).var 2 47 (a.cells)).var 3 47 (b.cells)).pv 5 ((vi ((i.1:Nat)))))) (λi=>a.cells_.length-i.1) ⟨0,by omega,λ_ h=>absurd h (Nat.not_lt_zero _)⟩ ?_ (λi=> ?_)
 ·(repeat' first|show Cn _;constructor|exact rfl)
 obtain ⟨i,hi,k⟩:=i;dsimp only;by_cases m:a.cells_.length<=i
 ·have e:decide (a=b)=true:=decide_eq_true ((Ln.ext_iff _ _).2 ⟨k1,List.ext_getElem p λj f g=>k j (by omega) f g,k2⟩)
  (repeat' first|apply wZ;rfl|show Cn _;constructor|exact rfl|show (_:PV)=_;(rw [e]);done|simp only [zql];omega|(intro h;simp at h))
 have f:i<a.cells_.length:=by omega
 have g:i<b.cells_.length:=by omega
 have n:¬a.cells_[i]=b.cells_[i]->decide (a=b)=false:=λh=>decide_eq_false λq=>h (by subst q;rfl);have o:a.cells_[i]=b.cells_[i]->∀j (h:j<i+1) (f:j<a.cells_.length) (g:j<b.cells_.length),a.cells_[j]=b.cells_[j]:=λh j hj f g=>by
  rcases zls.1 hj with q|q
  ·exact k j q f g
  ·subst q;exact h
 have hs:=aBv a.cells_[i] b.cells_[i] (hp _ (zgm f))
 (repeat' first|(refine ⟨⟨i+1,by omega,o ‹_›⟩, ?_, ?_⟩)|apply wZ;rfl|show Cn _;constructor|exact rfl|apply KR.mk;kernel_rfl|(apply hs)|show (_:PV)=_;(rw [n (by grind)]);done|apply wY;rfl|apply wI;rfl|apply gE;omega|omega|simp only [zql];omega|(intro h;simp at h)|intro h)
def kW (c:Cl):Bool:=decide (c.parts.length<=40)&&decide (c.val.s.size<=400)
def dZ (a:Ln):Bool:=a.cells_.all kW&&(decide (a.cells_.length<=20)&&decide (a.by_.length<=60))
theorem uP (a:Ln) (hl:a.cells_.length<4611686018427387904):PF Tryz.prog 38 [.agg a.cells] (vb (dZ a)):=by
 refine pF Tryz.func38 rfl (λst=> ?_)
 (repeat' first|apply wZ;rfl|show Cn _;constructor)
 refine aC (X:={x:Nat//x<=a.cells_.length/\∀j (h:j<x) (b:j<a.cells_.length),kW a.cells_[j]=true}) (λi=>(((St.nil 40 st).var 1 47 (a.cells)).pv 3 ((vi ((i.1:Nat)))))) (λi=>a.cells_.length-i.1) ⟨0,by omega,λ_ h=>absurd h (Nat.not_lt_zero _)⟩ ?_ (λi=> ?_)
 ·(repeat' first|show Cn _;constructor|exact rfl)
 obtain ⟨i,hi,g⟩:=i;dsimp only;by_cases m:a.cells_.length<=i
 ·have e:a.cells_.all kW=true:=zal.2 λc hc=>by
   obtain ⟨j,hj,rfl⟩:=zgo hc;exact g j (by omega) hj
  unfold dZ;rw [e,Bool.true_and];have n:(decide (((a.cells_.map Cl.cells).length:Int)<=20)&&decide (((a.by_.map Dt.cells).length:Int)<=60))=(decide (a.cells_.length<=20)&&decide (a.by_.length<=60)):=by
   rw [Bool.eq_iff_iff];simp only [zba,zde,zql];omega
  (repeat' first|apply wZ;rfl|show Cn _;constructor|exact rfl|show (_:PV)=_;(rw [n]);done|simp only [zql];omega|(intro h;simp at h))
 have b:i<a.cells_.length:=by omega
 have f:kW a.cells_[i]=false->dZ a=false:=λh=>by
  unfold dZ
  have:a.cells_.all kW=false:=by
   rw [<-Bool.not_eq_true,zal];intro q;rw [q _ (zgm b)] at h;cases h
  rw [this];rfl
 have k:kW a.cells_[i]=true->∀j (h:j<i+1) (b:j<a.cells_.length),kW a.cells_[j]=true:=λh j hj b=>by
  rcases zls.1 hj with q|q
  ·exact g j q b
  ·subst q;exact h
 unfold kW at f k
 (repeat' first|(refine ⟨⟨i+1,by omega,k (by simp;omega)⟩, ?_, ?_⟩)|apply wZ;rfl|show Cn _;constructor|exact rfl|show (_:PV)=_;(rw [f (by simp;omega)]);done|apply wI;rfl|apply gE;omega|omega|simp only [zql];omega|(intro h;simp at h))
theorem avL (a:Ln) (hl:a.cells_.length<4611686018427387904):PF Tryz.prog 15 [.agg a.cells] (vb (dZ a)):=by
 have h:=uP a hl;refine pF Tryz.func15 rfl (λst=> ?_)
 (repeat' first|apply wZ;rfl|show Cn _;constructor|exact rfl|(apply h)|apply wY;rfl)
def aY (l:List Ln) (k:Int):Option Ln:=l.find? λx=>decide (x.key=k)
def aJO :Option Ln->PV
 |some x=> .tup [.agg x.cells,(vb (true))]
 |none=> .tup [.agg Ln.zero.cells,(vb (false))]
theorem axP {α:Type} {f:α->Bool} {l:List α} {i:Nat} (h:i<l.length) (hf:f l[i]=true) (hn:∀j (h:j<i) (h2:j<l.length),f l[j]=false):l.find? f=some l[i]:=
 List.find?_eq_some_iff_getElem.2 ⟨hf,i,h,rfl,λj hj=>by rw [hn j hj (by omega)];rfl⟩
theorem aIX (l:List Ln) (k:Int):(∃j:Nat,∃h:j<l.length,atP l k=(((j:Nat):Int),true)/\aY l k=some l[j])\/((atP l k).2=false/\aY l k=none):=by
 unfold atP aY;cases h:l.findIdx? λx:Ln=>decide (x.key=k) with
 |some j=>
  left;obtain ⟨hj,hf,hn⟩:=List.findIdx?_eq_some_iff_getElem.1 h;refine ⟨j,hj, ?_,axP hj hf λq hq a=>by simpa using hn q hq⟩;have e:cY (λx:Ln=>decide (x.key=k)) l=j:=by unfold cY;rw [h]
  rw [e,zp (by omega)]
 |none=>
  right;have e:cY (λx:Ln=>decide (x.key=k)) l= -1:=by unfold cY;rw [h]
  rw [e,zn (by omega)];refine ⟨by split<;>rfl,List.find?_eq_none.2 λx hx=>by rw [List.findIdx?_eq_none_iff.1 h x hx];simp⟩
theorem wG (b:Bs) (k key:Int) (g:∀d∈b,d.lines.length<100000000000):PF Tryz.prog 10 [.agg (bsC b),(vi (k)),(vi (key))] (aJO (aY (aF b k) key)):=by
 cases a:okT b k with
 |false=>
  have ho:=axJ b k a;have ha:=akD [] key (by simp);rw [aIp] at ha;have e:aF b k=[]:=by unfold aF;rw [a];rfl
  rw [e,show aY [] key=none from rfl];refine pF Tryz.func10 rfl (λst=> ?_)
  (repeat' first|show Cn (.e _ _ _ _);refine .any ?_;((refine ⟨_,_,_,rfl,zwf _,zsr _, ?_,rfl⟩;(rfl)))|apply wZ;rfl|show Cn _;constructor|((first|apply ho|apply ha))|apply wY;rfl)
 |true=>
  obtain ⟨q,rfl,hq⟩:∃q:Nat,k=q/\q<b.length:=by
   unfold okT at a;simp only [zba,zde] at a;exact ⟨k.toNat,by omega,by omega⟩
  have ho:=adR b q hq;have m:=g b[q] (zgm hq);have h:aF b q=b[q].lines:=by unfold aF;rw [zp a];simp [hq]
  rw [h];generalize i:b[q].lines=L at*;have ha:=akD L key (by omega);rcases aIX L key with ⟨j,hj,c,f⟩|⟨c,f⟩
  ·rw [c] at ha
   rw [f];refine pF Tryz.func10 rfl (λst=> ?_)
   (repeat' first|apply wZ;rfl|show Cn _;constructor|exact rfl|((first|apply ho|apply ha))|apply wY;rfl|apply wI;rfl|apply gE;omega)
  ·rw [c] at ha
   rw [f];refine pF Tryz.func10 rfl (λst=> ?_)
   (repeat' first|show Cn (.e _ _ _ _);refine .any ?_;((refine ⟨_,_,_,rfl,zwf _,zsr _, ?_,rfl⟩;(rfl)))|apply wZ;rfl|show Cn _;constructor|((first|apply ho|apply ha))|apply wY;rfl)
theorem auT (a b:Bs) (hb:a.length<4611686018427387904) (hp:∀d∈a,d.lines.length<1000000000000/\∀x∈d.lines,x.by_.length<1000000000000/\x.cells_.length<1000000000000/\∀c∈x.cells_,c.parts.length<1000000000000):PF Tryz.prog 21 [.agg (bsC a), .agg (bsC b)] (vb (decide (a=b))):=by
 by_cases hl:¬(a.length=b.length)
 ·have e:decide (a=b)=false:=decide_eq_false λq=>hl (by rw [q])
  refine pF Tryz.func21 rfl (λst=> ?_)
  (repeat' first|apply wZ;rfl|show Cn _;constructor|exact rfl|show (_:PV)=_;((rw [e];done));done|simp only [zql];omega|(intro h;simp at h))
 replace hl:=zdn hl
 refine pF Tryz.func21 rfl (λst=> ?_)
 (repeat' first|apply wZ;rfl|show Cn _;constructor|simp only [zql];omega|(intro h;simp at h))
 refine aC (X:={x:Nat//x<=a.length/\∀j (h:j<x) (f:j<a.length) (g:j<b.length),a[j]=b[j]}) (λi=>((((St.nil 56 st).var 2 27 ((bsC a))).var 3 27 ((bsC b))).pv 5 ((vi ((i.1:Nat)))))) (λi=>a.length-i.1) ⟨0,by omega,λ_ h=>absurd h (Nat.not_lt_zero _)⟩ ?_ (λi=> ?_)
 ·(repeat' first|show Cn _;constructor|exact rfl)
 obtain ⟨i,hi,w⟩:=i;dsimp only;by_cases A:a.length<=i
 ·have e:decide (a=b)=true:=decide_eq_true (List.ext_getElem hl λj f g=>w j (by omega) f g)
  (repeat' first|apply wZ;rfl|show Cn _;constructor|exact rfl|show (_:PV)=_;(rw [e]);done|simp only [zql];omega|(intro h;simp at h))
 have f:i<a.length:=by omega
 have g:i<b.length:=by omega
 have m:¬a[i]=b[i]->decide (a=b)=false:=λh=>decide_eq_false λq=>h (by subst q;rfl);have z:a[i]=b[i]->∀j (h:j<i+1) (f:j<a.length) (g:j<b.length),a[j]=b[j]:=λh j hj f g=>by
  rcases zls.1 hj with q|q
  ·exact w j q f g
  ·subst q;exact h
 obtain ⟨F,C⟩:=hp a[i] (zgm f);rw [Da.ext_iff] at m z;have n:¬(a[i].lines.length:Int)=(b[i].lines.length:Int)->decide (a=b)=false:=λh=>m λq=>h (by rw [q])
 (repeat' first|apply wZ;rfl|show Cn _;constructor|exact rfl|show (_:PV)=_;(rw [n ‹_›]);done|apply wI;rfl|apply gE;omega|simp only [zql];omega|(intro h;simp at h))
 have v:a[i].lines.length=b[i].lines.length:=by omega
 refine aC (X:={x:Nat//x<=a[i].lines.length/\∀j (h:j<x) (f:j<a[i].lines.length) (g:j<b[i].lines.length),a[i].lines[j]=b[i].lines[j]}) (λy=>(((((((St.nil 56 st).var 2 27 ((bsC a))).var 3 27 ((bsC b))).pv 5 ((vi ((i:Nat))))).pv 6 (.seq (a[i].lines.map Ln.cells))).pv 7 (.seq (b[i].lines.map Ln.cells))).pv 8 ((vi ((y.1:Nat)))))) (λy=>a[i].lines.length-y.1) ⟨0,by omega,λ_ h=>absurd h (Nat.not_lt_zero _)⟩ ?_ (λy=> ?_)
 ·(repeat' first|show Cn _;constructor|exact rfl)
 obtain ⟨y,hy,k⟩:=y;dsimp only;by_cases u:a[i].lines.length<=y
 ·have e:a[i].lines=b[i].lines:=List.ext_getElem v λj f g=>k j (by omega) f g
  (repeat' first|(refine ⟨⟨i+1,by omega,z e⟩, ?_, ?_⟩)|apply wZ;rfl|show Cn _;constructor|exact rfl|omega|simp only [zql];omega|(intro h;simp at h))
 have B:y<a[i].lines.length:=by omega
 have E:y<b[i].lines.length:=by omega
 obtain ⟨G,H,D⟩:=C a[i].lines[y] (zgm B);have hs:=afN a[i].lines[y] b[i].lines[y] (by omega) (by omega) λc hc=>by have:=D c hc;omega
 have o:¬a[i].lines[y]=b[i].lines[y]->decide (a=b)=false:=λh=>m λq=>h (by simp only [q]);have p:a[i].lines[y]=b[i].lines[y]->∀j (h:j<y+1) (f:j<a[i].lines.length) (g:j<b[i].lines.length),a[i].lines[j]=b[i].lines[j]:=λh j hj f g=>by
  rcases zls.1 hj with q|q
  ·exact k j q f g
  ·subst q;exact h
 (repeat' first|(refine ⟨⟨y+1,by omega,p ‹_›⟩, ?_, ?_⟩)|apply wZ;rfl|show Cn _;constructor|exact rfl|apply KR.mk;kernel_rfl|(apply hs)|show (_:PV)=_;(rw [o ‹_›]);done|apply wY;rfl|apply wI;rfl|apply gE;omega|omega|simp only [zql];omega|(intro h;simp at h)|intro h)
end
section
attribute [local irreducible] Ev PWp
set_option maxRecDepth 10000
set_option maxHeartbeats 4000000
def afL (f:Nat->Bool) (n:Nat):Bool:=(List.range n).all f
theorem ajT {f:Nat->Bool} {n k:Nat} (h:k<n) (hf:f k=false):afL f n=false:=by
 unfold afL;rw [<-Bool.not_eq_true,zal];exact λq=>by rw [q k (List.mem_range.2 h)] at hf;cases hf
theorem adN {f:Nat->Bool} {n:Nat} (hf:∀k<n,f k=true):afL f n=true:=by
 unfold afL;rw [zal];exact λk h=>hf k (List.mem_range.1 h)
theorem qW {f:Nat->Bool} {n:Nat}:afL f n=true↔∀k<n,f k=true:=by
 unfold afL;rw [zal];exact ⟨λh k hk=>h k (List.mem_range.2 hk),λh k hk=>h k (List.mem_range.1 hk)⟩
theorem aGY {f:Nat->Bool} {i:Nat} (a:∀j<i,f j=true) (h:f i=true):∀j<i+1,f j=true:=λj hj=>by
 rcases zls.1 hj with q|q
 ·exact a j q
 ·subst q;exact h
theorem aiG {f:Nat->Bool} {i:Nat} {p:Prop} (a:∀j<i,f j=true) (e:f i=true↔p) (h:p):∀j<i+1,f j=true:=aGY a (e.2 h)
theorem ayI {f:Nat->Bool} {i:Nat} {p R:Prop} (h:f i=false->R) (e:f i=true↔p) (hp:¬p):R:=h (by rw [<-Bool.not_eq_true];exact λq=>hp (e.1 q))
theorem aDz {α β:Type} [Inhabited α] {f:α->β} {l:List α} {i:Nat} (h:i<l.length):(l.map f)[i]?=some (f l[i]!):=by
 rw [getElem!_pos l i h,List.getElem?_map,zgg h];rfl
variable (tx:Cl->Int)
def aGw (c:Cl):Prop:=c.parts.length<1000000000000/\(c.kind=4->PF Tryz.prog 124 [.agg c.cells] (vi (tx c)))
def jM (c:Cl):Bool:=if c.kind=0 then cF c.val&&decide (c.parts.length=0) else if c.kind=1 then mT c else if c.kind=2 then decide (bU c=0) else if c.kind=3 then kG c else if c.kind=4 then decide (tx c=0) else false
theorem aAc (c:Cl) (h:aGw tx c):PF Tryz.prog 86 [.agg c.cells] (vb (jM tx c)):=by
 obtain ⟨hl,ht⟩:=h;have a:=amQ c (by omega);have e:=alT c (by omega);have hv:=jQ c.val;have b:=mL c;unfold jM;generalize cF c.val=A at*;generalize mT c=B at*;generalize bU c=C at*;generalize kG c=D at*;generalize tx c=E at*;refine pF Tryz.func86 rfl (λst=> ?_)
 (repeat' first|apply wZ;rfl|show Cn _;constructor|exact rfl|((first|apply hv|apply a|apply b|apply e|apply (ht ‹_›)))|show (_:PV)=_;(simp [*];done);done|apply wY;rfl|intro h)
def afQ (l:List Dt) (k:Nat):Bool:=fM l[k]! &&(decide (k=0)||bE l[k]! l[k-1]!)
def yY (l:List Dt):Bool:=afL (afQ l) l.length
def zV (t:Tb) (l:Ln) (k:Nat):Bool:=decide (l.cells_[k]!.kind=t.cols[k]!.kind)&&jM tx l.cells_[k]!
def tH (t:Tb) (l:Ln):Bool:=decide (0<=l.key/\l.key<1073741824/\l.cells_.length=t.cols.length)&&decide (l.cells_[0]!.val=⟨1,l.key,e0⟩)
def kX (t:Tb) (l:Ln):Bool:=tH t l&&(afL (zV tx t l) l.cells_.length&&yY l.by_)
theorem axG {t:Tb} {l:Ln} (h:tH t l=false):kX tx t l=false:=by unfold kX;rw [h];rfl
theorem aHl {t:Tb} {l:Ln} {k:Nat} (h:k<l.cells_.length) (hf:zV tx t l k=false):kX tx t l=false:=by unfold kX;rw [ajT h hf];simp
theorem aEM {t:Tb} {l:Ln} {k:Nat} (h:k<l.by_.length) (hf:afQ l.by_ k=false):kX tx t l=false:=by unfold kX yY;rw [ajT h hf];simp
theorem aDv {t:Tb} {l:Ln} (h:tH t l=true) (hc:∀k<l.cells_.length,zV tx t l k=true) (hd:∀k<l.by_.length,afQ l.by_ k=true):kX tx t l=true:=by
 unfold kX yY;rw [h,adN hc,adN hd];rfl
theorem aAW (t:Tb) (l:Ln) (ht:0<t.cols.length) (hl:l.cells_.length<1000000000000/\l.by_.length<1000000000000) (hp:∀c∈l.cells_,aGw tx c):PF Tryz.prog 51 [.agg t.cells, .agg l.cells] (vb (kX tx t l)):=by
 by_cases h0:¬((0<=l.key/\l.key<1073741824)/\l.cells_.length=t.cols.length)
 ·rw [axG tx (by unfold tH;rw [decide_eq_false (λh=>h0 ⟨⟨h.1,h.2.1⟩,h.2.2⟩)];rfl)]
  refine pF Tryz.func51 rfl (λst=> ?_)
  (repeat' first|apply wZ;rfl|show Cn _;constructor|exact rfl|apply KR.mk;kernel_rfl|(apply dM pk;(iterate 6 rfl);rotate_left;rfl;(intro hw;rfl);(intro hw;apply aDz<;>first|omega|((exfalso;simp [gw] at hw;omega)));(intro _;rfl);rfl)|intro h;simp at h;omega|(intro h;simp at h))
 obtain ⟨⟨a,q⟩,u⟩:=zdn h0;have hh:¬l.cells_[0].val=⟨1,l.key,e0⟩->tH t l=false:=λh=>by unfold tH;rw [getElem!_pos l.cells_ 0 (by omega),decide_eq_false h];simp
 rw [Vl.ext_iff] at hh;have hy:l.cells_[0].val=⟨1,l.key,e0⟩->tH t l=true:=λh=>by unfold tH;rw [getElem!_pos l.cells_ 0 (by omega),decide_eq_true h,decide_eq_true ⟨a,q,u⟩];rfl
 rw [Vl.ext_iff] at hy;refine pF Tryz.func51 rfl (λst=> ?_)
 (repeat' first|apply wZ;rfl|show Cn _;constructor|exact rfl|apply KR.mk;kernel_rfl|show (_:PV)=_;((rw [axG tx (hh (by grind))];done));done|apply wI;rfl|apply gE;show 0<_;omega|(intro h;simp at h))
 have n:tH t l=true:=hy (by grind);refine aC (X:={x:Nat//x<=l.cells_.length/\∀j<x,zV tx t l j=true}) (λi=>((((((St.nil 102 st).var 2 58 (t.cells)).var 3 47 (l.cells)).pv 38 (.seq (l.cells_.map Cl.cells))).pv 39 ((vi (((l.cells_.map Cl.cells).length:Nat))))).pv 40 ((vi ((i.1:Nat)))))) (λi=>l.cells_.length-i.1) ⟨0,by omega,by omega⟩ ?_ (λi=> ?_)
 ·(repeat' first|show Cn _;constructor|exact rfl)
 obtain ⟨i,hi,o⟩:=i;dsimp only;by_cases p:l.cells_.length<=i
 ·(repeat' first|apply wZ;rfl|show Cn _;constructor|simp only [zql];omega|(intro h;simp at h))
  refine aC (X:={x:Nat//x<=l.by_.length/\∀j<x,afQ l.by_ j=true}) (λy=>(((((St.nil 102 st).var 3 47 (l.cells)).pv 61 (.seq (l.by_.map Dt.cells))).pv 62 ((vi (((l.by_.map Dt.cells).length:Nat))))).pv 63 ((vi ((y.1:Nat)))))) (λy=>l.by_.length-y.1) ⟨0,by omega,by omega⟩ ?_ (λy=> ?_)
  ·(repeat' first|show Cn _;constructor|exact rfl)
  obtain ⟨y,hy,b⟩:=y;dsimp only;by_cases m:l.by_.length<=y;have e:=aDv tx n (λk hk=>o k (by omega)) λk hk=>b k (by omega);rotate_left;have a:y<l.by_.length:=by omega
  have e:=Iff.refl (afQ l.by_ y=true);by_cases h0:y=0;subst h0
  conv at e=>rhs;simp only [afQ,fM,getElem!_pos l.by_ 0 a,zba,zde,decide_true,Bool.true_or,and_true]
  have g:=ayI (aEM tx (t:=t) a) e;have f:=aiG b e;rotate_left;obtain ⟨k,rfl⟩:∃k,y=k+1:=⟨y-1,by omega⟩;have hd:=anE l.by_[k] l.by_[k+1];have hb:=awM l.by_[k] l.by_[k+1]
  conv at e=>rhs;simp only [afQ,fM,getElem!_pos l.by_ (k+1) a,show k+1-1=k from rfl,getElem!_pos l.by_ k (by omega),zba,zde,Bool.or_eq_true,h0,false_or]
  have g:=ayI (aEM tx (t:=t) a) e;have f:=aiG b e;rotate_left
  all_goals ((repeat' first|apply iX;(intro hw;exact (show _=((0:Nat):Int) from by exact (wO hw).elim));(apply gE;omega);rfl|apply iX;(intro hw;exact (show ((((k+1:Nat):Int))-1=((k:Nat):Int)) from by omega));(apply gE;omega);rfl|(apply cW;focus (intro _;(apply (show PF Tryz.prog 87 [_,_] (vi (0)) from by rename_i hh;exact (wO hh).elim));done))|((first|refine ⟨⟨1,by omega,f (by grind)⟩, ?_,by simp only;omega⟩|refine ⟨⟨k+2,by omega,f (by grind)⟩, ?_,by simp only;omega⟩);focus ((repeat' first|show Cn _;constructor|exact rfl);done))|apply wZ;rfl|show Cn _;constructor|exact rfl|apply KR.mk;kernel_rfl|(apply hd)|show (_:PV)=_;(first|(rw [e]);done|((rw [g (by grind)];done));done);done|apply wY;rfl|apply wI;rfl|apply gE;omega|omega|simp only [zql];omega|(intro h;simp at h)))
 have a:i<l.cells_.length:=by omega
 have hc:=aAc tx l.cells_[i] (hp _ (zgm a));have e:=Iff.refl (zV tx t l i=true)
 conv at e=>rhs;simp only [zV,getElem!_pos l.cells_ i a,getElem!_pos t.cols i (show i<t.cols.length by omega),zba,zde]
 have g:=ayI (aHl tx (t:=t) a) e;have f:=aiG o e
 (repeat' first|(refine ⟨⟨i+1,by omega,f (by grind)⟩, ?_, ?_⟩)|apply wZ;rfl|show Cn _;constructor|exact rfl|apply KR.mk;kernel_rfl|(apply hc)|show (_:PV)=_;(rw [g (by grind)]);done|apply wY;rfl|apply wI;rfl|apply gE;omega|omega|simp only [zql];omega|(intro h;simp at h))
end
section
attribute [local irreducible] Ev PWp
set_option maxRecDepth 10000
set_option maxHeartbeats 4000000
theorem xC :∀{l:List Int},orI l=0->∀x∈l,x=0
 |[],_,_,h=>by cases h
 |a::l,h,x,hx=>by
  rw [orI] at h
  split at h
  ·rename_i e
   rcases zmc.1 hx with rfl|q
   ·exact e
   ·exact xC h x q
  ·rename_i e;exact absurd h e
theorem oQ {f:Nat->Int} {n:Nat} (h:eN f n=0) {k:Nat} (hk:k<n):f k=0:=
 xC h _ (List.mem_map.2 ⟨k,List.mem_range.2 hk,rfl⟩)
theorem fR {s:Sc} (h:cE s=0) {k:Nat} (hk:k<s.length):∀x∈lks s k,x=0:=by
 unfold cE at h;split at h
 ·cases h
 ·exact xC (oQ h hk)
theorem aqT {s:Sc} (h:cE s=0) {k:Nat} (hk:k<s.length):0<s[k].cols.length:=by
 have:=fR h hk (lk1 s[k]!) (by simp [lks]);rw [getElem!_pos s k hk] at this;unfold lk1 at this;split at this
 ·cases this
 ·omega
variable (tx:Cl->Int)
def aK8 (l:Ln):Prop:=(l.cells_.length<1000000000000/\l.by_.length<1000000000000)/\∀c∈l.cells_,aGw tx c
def aJY (d:Da):Prop:=d.lines.length<1000000000000/\∀l∈d.lines,aK8 tx l
def lnR (t:Tb) (L:List Ln) (i:Nat):Bool:=kX tx t L[i]! &&(decide (i=0)||decide (L[i-1]!.key<L[i]!.key))
def uT (t:Tb) (L:List Ln):Bool:=decide (L.length<=2000)&&afL (lnR tx t L) L.length
def ahL (s:Sc) (b:Bs) (k:Nat):Bool:=uT tx s[k]! b[k]!.lines
def aV (s:Sc) (b:Bs):Bool:=decide (cE s=0/\b.length=s.length)&&afL (ahL tx s b) b.length
theorem aHx {s:Sc} {b:Bs} (h:¬(cE s=0/\b.length=s.length)):aV tx s b=false:=by unfold aV;rw [decide_eq_false h];rfl
theorem aGR {s:Sc} {b:Bs} {k:Nat} (h:k<b.length) (hf:ahL tx s b k=false):aV tx s b=false:=by unfold aV;rw [ajT h hf];simp
theorem aCQ {s:Sc} {b:Bs} (h:cE s=0/\b.length=s.length) (hf:∀k<b.length,ahL tx s b k=true):aV tx s b=true:=by unfold aV;rw [adN hf,decide_eq_true h];rfl
theorem auE (s:Sc) (b:Bs) (hl:s.length<1000000000000) (F:∀t∈s,TbB t) (hb:b.length<1000000000000) (hd:∀d∈b,aJY tx d):PF Tryz.prog 19 [.agg (scC s), .agg (bsC b)] (vb (aV tx s b)):=by
 have hs:=yV s (by omega) F;by_cases h0:¬(cE s=0/\b.length=s.length)
 ·rw [aHx tx h0]
  generalize cE s=R at*;refine pF Tryz.func19 rfl (λst=> ?_)
  (repeat' first|apply wZ;rfl|show Cn _;constructor|exact rfl|(apply hs)|apply wY;rfl|intro h;simp at h;omega|(intro h;simp at h))
 replace h0:=zdn h0
 obtain ⟨o,E⟩:=h0;rw [o] at hs;refine pF Tryz.func19 rfl (λst=> ?_)
 (repeat' first|apply wZ;rfl|show Cn _;constructor|(apply hs)|apply wY;rfl|simp only [zql];omega|(intro h;simp at h))
 refine aC (X:={x:Nat//x<=b.length/\∀j<x,ahL tx s b j=true}) (λi=>(((((St.nil 67 st).var 2 24 ((scC s))).pv 22 (.seq (b.map Da.cells))).pv 23 ((vi (((b.map Da.cells).length:Nat))))).pv 24 ((vi ((i.1:Nat)))))) (λi=>b.length-i.1) ⟨0,by omega,by omega⟩ ?_ (λi=> ?_)
 ·(repeat' first|show Cn _;constructor|exact rfl)
 obtain ⟨i,hi,B⟩:=i;dsimp only;by_cases C:b.length<=i;have e:=aCQ tx ⟨o,E⟩ λk hk=>B k (by omega);rotate_left;have g:i<b.length:=by omega
 have n:i<s.length:=by omega
 have v:=aqT o n;obtain ⟨J,D⟩:=hd _ (zgm g);have e:=Iff.refl (ahL tx s b i=true)
 conv at e=>rhs;simp only [ahL,uT,getElem!_pos s i n,getElem!_pos b i g,zba,zde,qW]
 have A:=ayI (aGR tx (s:=s) g) e;have G:=aiG B e;by_cases p:¬b[i].lines.length<=2000;have u:=A λq=>p q.1;rotate_left
 all_goals ((repeat' first|apply wZ;rfl|show Cn _;constructor|exact rfl|show (_:PV)=_;(first|(rw [e]);done|(rw [u]);done);done|apply wI;rfl|apply gE;omega|simp only [zql];omega|(intro h;simp at h)))
 focus ((repeat' (fail)))
 refine aC (X:={x:Nat//x<=b[i].lines.length/\∀j<x,lnR tx s[i] b[i].lines j=true}) (λy=>((((((((((St.nil 67 st).var 2 24 ((scC s))).pv 5 ((vi ((i:Nat))))).var 6 43 (b[i].cells)).pv 22 (.seq (b.map Da.cells))).pv 23 ((vi (((b.map Da.cells).length:Nat))))).pv 24 ((vi ((i:Nat))))).pv 34 (.seq (b[i].lines.map Ln.cells))).pv 35 ((vi (((b[i].lines.map Ln.cells).length:Nat))))).pv 36 ((vi ((y.1:Nat)))))) (λy=>b[i].lines.length-y.1) ⟨0,by omega,by omega⟩ ?_ (λy=> ?_)
 ·(repeat' first|show Cn _;constructor|exact rfl)
 obtain ⟨y,hy,m⟩:=y;dsimp only;by_cases w:b[i].lines.length<=y;rotate_left;have a:y<b[i].lines.length:=by omega
 obtain ⟨H,I⟩:=D _ (zgm a);have z:=aAW tx s[i] b[i].lines[y] v H I;have e:=Iff.refl (lnR tx s[i] b[i].lines y=true);have c:=λh:¬lnR tx s[i] b[i].lines y=true=>A λq=>h (q.2 y a);by_cases h0:y=0;subst h0
 conv at e=>rhs;simp only [lnR,getElem!_pos b[i].lines 0 a,decide_true,Bool.true_or,Bool.and_true]
 have f:=aiG m e;rw [e] at c;rotate_left;obtain ⟨k,rfl⟩:∃k,y=k+1:=⟨y-1,by omega⟩
 conv at e=>rhs;simp only [lnR,getElem!_pos b[i].lines (k+1) a,show k+1-1=k from rfl,getElem!_pos b[i].lines k (by omega),zba,zde,Bool.or_eq_true,h0,false_or]
 have f:=aiG m e;rw [e] at c;rotate_left
 all_goals ((repeat' first|apply iX;(intro hw;exact (show _=((0:Nat):Int) from by exact (wO hw).elim));(apply gE;omega);rfl|apply iX;(intro hw;exact (show ((((k+1:Nat):Int))-1=((k:Nat):Int)) from by omega));(apply gE;omega);rfl|((first|refine ⟨⟨i+1,by omega,G ⟨by omega,λk hk=>m k (by omega)⟩⟩, ?_,by simp only;omega⟩|refine ⟨⟨1,by omega,f (by grind)⟩, ?_,by simp only;omega⟩|refine ⟨⟨k+2,by omega,f (by grind)⟩, ?_,by simp only;omega⟩);focus ((repeat' first|show Cn _;constructor|exact rfl);done))|apply wZ;rfl|show Cn _;constructor|exact rfl|apply KR.mk;kernel_rfl|(apply z)|show (_:PV)=_;(rw [c (by grind)]);done|apply wY;rfl|apply wI;rfl|apply gE;omega|omega|simp only [zql];omega|(intro h;simp at h)))
end
section
attribute [local irreducible] Ev PWp
set_option maxRecDepth 10000
set_option maxHeartbeats 4000000
section
variable {P:Program} {tt:TT} {l:List Oper} {d:Md} {r:List Oper} {s:St} {K:St->Prop} {t:Nat} {ty:TypeId} {pos:String} {after:Array Edge}
theorem aGt {α:Type} {f:α->List PV} (pk:Pk P tt) (z0:α) {T e:TypeId} {x y:Operand} {q u:IntKind} {n B sz:Nat} {z:List Value} {a b:Int} (hx:opd s x=some (.val (.int q a))) (hy:opd s y=some (.val (.int u b))) (hk:tiK tt T=some (.slice e)) (hs:aO tt e=some sz) (hz:tiZ tt e=some z) (j:z.length=sz) (c:Nat.blt 0 sz=true) (i:z.map .val=f z0) (hf:bQ s [x,y]=true) (hd:Nat.blt t s.n=true) (ht:iI d l r=true)
  (ha:a=n) (h:b=n) (p:P.bytesOf e=B) (hb:n*B<=140737488355328) (g:n<4611686018427387904) (k:∀id,s.st id=none->Ev P l d r ((s.sst (upd s.st id (some (.arr e ((List.replicate n z0).map f))))).pv t (.vec id sz 0 n)) K):Ev P l d (⟨some t, .makeSlice T x y,ty,pos,after,none⟩::r) s K:=by
 subst ha h
 refine eA (sU pk.htt hx hy hk hs hz j (by simpa [Nat.blt_eq] using c) p hb g) (λz hz=>aM (λ_ _ _ e=>by cases e) hz) hf hd ht λv m=> ?_
 obtain ⟨id,o,rfl⟩:=m
 have:=k id o
 rw [List.map_replicate,<-i] at this
 exact this
end
theorem fW {α:Type} {f:α->List PV} {id sz n:Nat} {l:List α} (hn:l.length=n):Fz id sz (l.map f) (.vec id sz 0 n) (.seq (l.map f)):=by
 have e:(l.map f).length=n:=(zql _).trans hn;rw [<-e];exact .all
theorem aKZ {f:FuncId} {args:List PV} {st:aD} {R R':PV->aD->Prop} (h:PC Tryz.prog f args st R) (i:∀p st',R p st'->∃q,Wk p q/\R' q st'):PC Tryz.prog f args st R':=
 ⟨h.1,λw g vs hm hv=>(h.2 w g vs hm hv).mono λe w' ⟨v,r,st',g',a,b,c,h4⟩=>by
  obtain ⟨q,k1,k2⟩:=i _ _ b
  exact ⟨v,q,st',g',a,k2,k1 _ _ c,h4⟩⟩
theorem RepA.wk {g:G} {b:Nat} {ps qs:List PV} (h:WkL ps qs):∀{off:Nat},RepA g b off ps->RepA g b off qs:=by
 induction h with
 |nil=>exact λh=>h
 |cons h _ ih=>
  intro off e;simp only [RepA] at e⊢;obtain ⟨⟨v,a,c,f⟩,i⟩:=e;exact ⟨⟨v,a,c,h _ _ f⟩,ih i⟩
theorem aGB {ps qs:List PV} (h:WkL ps qs):ps.length=qs.length:=by
 induction h with
 |nil=>rfl
 |cons _ _ ih=>simp [ih]
theorem RepR.wk {α:Type} {f k:α->List PV} {g:G} {b sz:Nat}:∀{l:List α} (_:∀x∈l,WkL (f x) (k x)) {off:Nat},RepR g b off sz (l.map f)->RepR g b off sz (l.map k)
 |[],_,_,e=>e
 |x::l,h,off,e=>by
  simp only [zmp,RepR] at e⊢
  exact ⟨aGB (h x (by simp))▸e.1,RepA.wk (h x (by simp)) e.2.1,RepR.wk (λy hy=>h y (by simp [hy])) e.2.2⟩
theorem Wk.rows {α:Type} {f k:α->List PV} {l:List α} (h:∀x∈l,WkL (f x) (k x)):Wk (.seq (l.map f)) (.seq (l.map k)):=λg v e=>by
 unfold Rep at e⊢
 obtain ⟨a,cap,c,i,j,h4⟩:=e
 rw [zql] at c i j
 refine ⟨a,cap,by rw [zql];exact c,by rw [zql];exact i,by rw [zql];exact j, ?_⟩
 rcases h4 with h4|⟨b,off,sz,m,n⟩
 ·exact .inl (by rw [List.map_eq_nil_iff] at h4⊢;exact h4)
 ·exact .inr ⟨b,off,sz,m,RepR.wk h n⟩
def acM (_:Unit):List PV:=[.val (.slice none 0 0)]
def aF6 (s:Sc):Bs:=List.replicate s.length ⟨[]⟩
theorem aIQ (n:Nat):Wk (.agg [.seq ((List.replicate n ()).map acM)]) (.agg (bsC (List.replicate n ⟨[]⟩))):=by
 refine Wk.agg (.cons ?_ .nil);have:=Wk.rows (f:=acM) (k:=λ_=>Da.cells ⟨[]⟩) (l:=List.replicate n ()) λ_ _=> .cons Wk.nil .nil;rwa [List.map_replicate (f:=λ_=>Da.cells ⟨[]⟩),<-List.map_replicate (f:=Da.cells)] at this
theorem aE4 (s:Sc) (hl:s.length<2000000000000):PF Tryz.prog 56 [.agg (scC s)] (.agg (bsC (aF6 s))):=λst=>
 aKZ (gF (sz:=1) (R:=λr S=>∃id,r= .agg [.vec id 1 0 s.length]/\st id=none/\S=upd st id (some (.arr 43 ((List.replicate s.length ()).map acM)))) (R':=λr S=>r= .agg [.seq ((List.replicate s.length ()).map acM)]/\S=st) (by
  refine pC Tryz.func56 rfl ?_
  (repeat' first|show Cn (.r _ _ _);refine .rr ?_;(exact ⟨id,rfl,a,rfl⟩);done|apply wZ;rfl|show Cn _;constructor|(apply aGt pk () (f:=acM) (n:=s.length) (B:=24);(iterate 11 rfl);(focus (simp;done));(focus (simp;done));exact aiT;omega;omega;intro id a))) λp st' h=>by
  obtain ⟨id,rfl,b,rfl⟩:=h
  exact .inl ⟨id,43,(List.replicate s.length ()).map acM,_,st,aA _ _ _,ajA, .agg (.cons (fW (by simp)) .nil),cD b,rfl,rfl⟩) λp st' h=>⟨_,h.1▸aIQ _,rfl,h.2⟩
variable (sh:Cl->Vl)
def aDh (c:Cl):Prop:=PF Tryz.prog 37 [.agg c.cells] (.agg (sh c).cells)
theorem aIC (l:Ln) (hl:l.cells_.length<1000000000000) (hs:∀c∈l.cells_,aDh sh c) (st:aD):PC Tryz.prog 13 [.agg l.cells] st λr S=>∃id,r= .vec id 3 0 l.cells_.length/\st id=none/\S=upd st id (some (.arr 63 ((l.cells_.map sh).map Vl.cells))):=by
 refine pC Tryz.func13 rfl ?_
 (repeat' first|apply wZ;rfl|show Cn _;constructor)
 refine fG 3 63 3 rfl rfl rfl (λid a=> ?_);refine aC (X:={x:Nat×Nat//x.1<=l.cells_.length/\st x.2=none}) (λi=>(((((St.nil 20 (upd st i.1.2 (some (.arr 63 (((l.cells_.map sh).take i.1.1).map Vl.cells))))).pv 3 (.vec i.1.2 3 0 i.1.1)).pv 7 (.seq (l.cells_.map Cl.cells))).pv 8 ((vi (((l.cells_.map Cl.cells).length:Nat))))).pv 9 ((vi ((i.1.1:Nat)))))) (λi=>l.cells_.length-i.1.1) ⟨(0,id),by simp,a⟩ ?_ (λi=> ?_)
 ·dsimp only
  (repeat' first|show Cn (.t _ _);exact Cn.t0|show Cn _;constructor|exact rfl)
 obtain ⟨⟨i,id⟩,hi,a⟩:=i;simp only at hi a;dsimp only;by_cases k:l.cells_.length<=i
 ·have e:(l.cells_.map sh).take i=l.cells_.map sh:=ztl (by simp;omega)
  obtain rfl:i=l.cells_.length:=by omega
  (repeat' first|show Cn (.r _ _ _);refine .rr ?_;(exact ⟨id,rfl,a,by rw [e];rfl⟩);done|apply wZ;rfl|show Cn _;constructor|simp only [zql];omega|(intro h;simp at h))
 have j:i<l.cells_.length:=by omega
 have hc:PF Tryz.prog 37 [.agg l.cells_[i].cells] (.agg (sh l.cells_[i]).cells):=hs _ (zgm j);have e:(l.cells_.map sh).take (i+1)=(l.cells_.map sh).take i++[sh l.cells_[i]]:=by rw [List.take_succ_eq_append_getElem (by simpa using j)];simp
 (repeat' first|refine ⟨⟨(i+1,g),by simp only;omega,dG b⟩, ?_, ?_⟩;((dsimp only;try rw [e]))|show Cn (.t _ _);exact .any (bR ‹_›)|apply wZ;rfl|show Cn _;constructor|exact rfl|(apply hc)|(apply apV pk (f:=Vl.cells) [sh l.cells_[i]] 32;(iterate 9 rfl);(exact aA _ _ _);((focus (simp;omega)));exact λ_=>rfl;exact λ_=>rfl;exact ayR;((focus (simp;omega)));((focus (simp;omega)));rfl;intro g b)|apply wY;rfl|apply wI;rfl|apply gE;omega|omega|simp only [zql];omega|(intro h;simp at h))
theorem aEl (l:Ln) (hl:l.cells_.length<1000000000000) (hs:∀c∈l.cells_,aDh sh c):PF Tryz.prog 13 [.agg l.cells] (.seq ((l.cells_.map sh).map Vl.cells)):=λst=>
 gF (sz:=3) (aIC sh l hl hs st) λp st' h=>by
  obtain ⟨id,rfl,a,rfl⟩:=h
  exact .inl ⟨id,63,(l.cells_.map sh).map Vl.cells,_,st,aA _ _ _,vZ,fW (by simp),cD a,rfl,rfl⟩
def roC (r:List Vl):List PV:=[.seq (r.map Vl.cells)]
theorem aFf :Tryz.prog.bytesOf 60=24:=by kernel_rfl
theorem aCg :Tryz.prog.cellsOf 60=1:=by kernel_rfl
def afD (l:Ln):List Vl:=l.cells_.map sh
theorem aBS (b:Bs) (k:Nat) (hk:k<b.length) (hl:b[k].lines.length<1000000000000) (hs:∀l∈b[k].lines,l.cells_.length<1000000000000/\∀c∈l.cells_,aDh sh c) (st:aD):PC Tryz.prog 44 [.agg (bsC b),(vi ((k:Nat)))] st λr S=>∃id,r= .vec id 1 0 b[k].lines.length/\st id=none/\S=upd st id (some (.arr 60 ((b[k].lines.map (afD sh)).map roC))):=by
 have ho:=adR b k hk;generalize b[k].lines=L at*;refine pC Tryz.func44 rfl ?_
 (repeat' first|apply wZ;rfl|show Cn _;constructor|(apply ho)|apply wY;rfl)
 refine fG 7 60 1 rfl rfl rfl (λid a=> ?_);refine aC (X:={x:Nat×Nat//x.1<=L.length/\st x.2=none}) (λi=>(((((St.nil 30 (upd st i.1.2 (some (.arr 60 (((L.map (afD sh)).take i.1.1).map roC))))).pv 7 (.vec i.1.2 1 0 i.1.1)).pv 17 (.seq (L.map Ln.cells))).pv 18 ((vi (((L.map Ln.cells).length:Nat))))).pv 19 ((vi ((i.1.1:Nat)))))) (λi=>L.length-i.1.1) ⟨(0,id),by simp,a⟩ ?_ (λi=> ?_)
 ·dsimp only
  (repeat' first|show Cn (.t _ _);exact Cn.t0|show Cn _;constructor|exact rfl)
 obtain ⟨⟨i,id⟩,hi,a⟩:=i;simp only at hi a;dsimp only;by_cases n:L.length<=i
 ·have e:(L.map (afD sh)).take i=L.map (afD sh):=ztl (by simp;omega)
  obtain rfl:i=L.length:=by omega
  (repeat' first|show Cn (.r _ _ _);refine .rr ?_;(exact ⟨id,rfl,a,by rw [e];rfl⟩);done|apply wZ;rfl|show Cn _;constructor|simp only [zql];omega|(intro h;simp at h))
 have j:i<L.length:=by omega
 have hc:=aEl sh L[i] (hs _ (zgm j)).1 (hs _ (zgm j)).2;have e:(L.map (afD sh)).take (i+1)=(L.map (afD sh)).take i++[L[i].cells_.map sh]:=by rw [List.take_succ_eq_append_getElem (by simpa using j)];simp [afD]
 (repeat' first|refine ⟨⟨(i+1,m),by simp only;omega,dG g⟩, ?_, ?_⟩;((dsimp only;try rw [e]))|show Cn (.t _ _);exact .any (bR ‹_›)|apply wZ;rfl|show Cn _;constructor|exact rfl|(apply hc)|(apply apV pk (f:=roC) [L[i].cells_.map sh] 24;(iterate 9 rfl);(exact aA _ _ _);((focus (simp;omega)));exact λ_=>rfl;exact λ_=>rfl;exact aFf;((focus (simp;omega)));((focus (simp;omega)));rfl;intro m g)|apply wY;rfl|apply wI;rfl|apply gE;omega|omega|simp only [zql];omega|(intro h;simp at h))
theorem asJ (b:Bs) (k:Nat) (hk:k<b.length) (hl:b[k].lines.length<1000000000000) (hs:∀l∈b[k].lines,l.cells_.length<1000000000000/\∀c∈l.cells_,aDh sh c):PF Tryz.prog 44 [.agg (bsC b),(vi ((k:Nat)))] (.seq ((b[k].lines.map (afD sh)).map roC)):=λst=>
 gF (sz:=1) (aBS sh b k hk hl hs st) λp st' h=>by
  obtain ⟨id,rfl,a,rfl⟩:=h
  exact .inl ⟨id,60,(b[k].lines.map (afD sh)).map roC,_,st,aA _ _ _,aCg,fW (by simp),cD a,rfl,rfl⟩
end
section
attribute [local irreducible] Ev PWp
set_option maxRecDepth 10000
set_option maxHeartbeats 4000000
theorem arB (c:Cl) (h:c.kind=0):PF Tryz.prog 37 [.agg c.cells] (.agg c.val.cells):=by
 refine pF Tryz.func37 rfl (λst=> ?_)
 (repeat' first|apply wZ;rfl|show Cn _;constructor|exact rfl|omega|intro h)
def colId :Co:=⟨⟨#[105,100]⟩,0,1,false⟩
def iH (b:Bs) (k:Int) (a:List Ln):Bs:=if okT b k then b.set k.toNat ⟨a⟩ else b
theorem lM (b:Bs) (k:Int) (a:List Ln):(iH b k a).length=b.length:=by unfold iH;split<;>simp
theorem axX {b:Bs} {k:Int} {a:List Ln} {i:Nat} (h:i<b.length) (hk:(i:Int)=k):(iH b k a)[i]'(by rw [lM];exact h)=⟨a⟩:=by
 subst hk;simp [iH,okT,h]
theorem aGX {b:Bs} {k:Int} {a:List Ln} {i:Nat} (h:i<b.length) (hk:¬(i:Int)=k):(iH b k a)[i]'(by rw [lM];exact h)=b[i]:=by
 unfold iH;split
 ·rename_i q
  simp only [okT,zba,zde] at q;rw [List.getElem_set_ne (by omega)]
 ·rfl
end
section
set_option maxRecDepth 10000
set_option maxHeartbeats 4000000
theorem uZ (L:List Ln) (k:Int):(∃j:Nat,∃h:j<L.length,atP L k=((j:Int),true)/\aY L k=some L[j]/\L[j].key=k/\∀q (hq:q<j),L[q].key≠k)\/
  (∃j:Nat,j<=L.length/\atP L k=((j:Int),false)/\aY L k=none/\(∀x∈L,x.key≠k)/\(∀q (hq:q<j) (h:q<L.length),¬L[q].key>k)/\∀h:j<L.length,L[j].key>k):=by
 unfold atP aY
 cases h:L.findIdx? λx:Ln=>decide (x.key=k) with
 |some j=>
  left;obtain ⟨hj,hf,hn⟩:=List.findIdx?_eq_some_iff_getElem.1 h;refine ⟨j,hj, ?_,axP hj hf λq hq a=>by simpa using hn q hq,by simpa using hf,λq hq=>by simpa using hn q hq⟩;have e:cY (λx:Ln=>decide (x.key=k)) L=j:=by unfold cY;rw [h]
  rw [e,zp (by omega)]
 |none=>
  right;have e:cY (λx:Ln=>decide (x.key=k)) L= -1:=by unfold cY;rw [h]
  have b:∀x∈L,x.key≠k:=λx hx=>by simpa using List.findIdx?_eq_none_iff.1 h x hx
  have hg:L.find? (λx:Ln=>decide (x.key=k))=none:=List.find?_eq_none.2 λx hx=>by rw [List.findIdx?_eq_none_iff.1 h x hx];simp
  rw [e,zn (by omega)];cases a:L.findIdx? λx:Ln=>decide (x.key>k) with
  |some j=>
   obtain ⟨hj,hf,hn⟩:=List.findIdx?_eq_some_iff_getElem.1 a;have c:cY (λx:Ln=>decide (x.key>k)) L=j:=by unfold cY;rw [a]
   rw [c,zp (by omega)];exact ⟨j,by omega,rfl,hg,b,λq hq hl=>by simpa using hn q hq,λ_=>by simpa using hf⟩
  |none=>
   have c:cY (λx:Ln=>decide (x.key>k)) L= -1:=by unfold cY;rw [a]
   rw [c,zn (by omega)];exact ⟨L.length,Nat.le_refl _,rfl,hg,b,λq hq hl=>by simpa using List.findIdx?_eq_none_iff.1 a L[q] (zgm hl),λh=>absurd h (Nat.lt_irrefl _)⟩
theorem anY (b:Bs) (k:Int) (a:Ln):bN b k a=iH b k (gX (aF b k) a):=by
 unfold bN iH;rfl
theorem auD {L:List Ln} {j:Nat} {a:Ln} (h:j<=L.length):(dY L j [a]).length=L.length+1:=by rw [zF h];rfl
end
section
attribute [local irreducible] Ev PWp
set_option maxRecDepth 10000
set_option maxHeartbeats 4000000
end
end Go.Proofs.YtfablfldonhkiaaGreatDoor
