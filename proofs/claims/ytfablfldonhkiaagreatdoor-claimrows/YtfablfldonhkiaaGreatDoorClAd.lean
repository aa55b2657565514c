import Derived.Test.YtfablfldonhkiaaGreatDoorClAc
import Derived.Test.YtfablfldonhkiaaGreatDoorAbsI
import Derived.Test.YtfablfldonhkiaaGreatDoorAbsG
set_option linter.unusedSimpArgs false
set_option linter.unusedVariables false
namespace Go.Proofs.YtfablfldonhkiaaGreatDoor
open Go Go.Abs
section
attribute [local irreducible] Ev PWp
set_option maxRecDepth 10000
set_option maxHeartbeats 4000000
theorem ayJ (a b:List Dt) (hb:a.length<4611686018427387904):PF Tryz.prog 35 [.seq (a.map Dt.cells), .seq (b.map Dt.cells)] (vb (decide (a=b))):=by
 by_cases hl:¬(a.length=b.length)
 ·have e:decide (a=b)=false:=decide_eq_false λq=>hl (by rw [q])
  refine pF Tryz.func35 rfl (λst=> ?_)
  (repeat' first|apply wZ;rfl|show Cn _;constructor|exact rfl|show (_:PV)=_;((rw [e];done));done|simp only [zql];omega|(intro h;simp at h))
 replace hl:=zdn hl
 refine pF Tryz.func35 rfl (λst=> ?_)
 (repeat' first|apply wZ;rfl|show Cn _;constructor|simp only [zql];omega|(intro h;simp at h))
 refine aC (X:={x:Nat//x<=a.length/\∀j (h:j<x) (h1:j<a.length) (h2:j<b.length),a[j]=b[j]}) (λi=>((((St.nil 26 st).pv 0 (.seq (a.map Dt.cells))).pv 1 (.seq (b.map Dt.cells))).pv 5 ((vi ((i.1:Nat)))))) (λi=>a.length-i.1) ⟨0,by omega,λ_ h=>absurd h (Nat.not_lt_zero _)⟩ ?_ (λi=> ?_)
 ·(repeat' first|show Cn _;constructor|exact rfl)
 obtain ⟨i,hi,hI⟩:=i
 dsimp only
 by_cases hend:a.length<=i
 ·have e:decide (a=b)=true:=decide_eq_true (List.ext_getElem hl λj h1 h2=>hI j (by omega) h1 h2)
  (repeat' first|apply wZ;rfl|show Cn _;constructor|exact rfl|show (_:PV)=_;(rw [e]);done|simp only [zql];omega|(intro h;simp at h))
 have h1:i<a.length:=by omega
 have h2:i<b.length:=by omega
 have hF:¬a[i]=b[i]->decide (a=b)=false:=λh=>decide_eq_false λq=>h (by subst q;rfl)
 have hS:a[i]=b[i]->∀j (h:j<i+1) (h1:j<a.length) (h2:j<b.length),a[j]=b[j]:=λh j hj h1 h2=>by
  rcases zls.1 hj with q|q
  ·exact hI j q h1 h2
  ·subst q;exact h
 rw [Dt.ext_iff] at hF hS
 (repeat' first|(refine ⟨⟨i+1,by omega,hS ‹_›⟩, ?_, ?_⟩)|apply wZ;rfl|show Cn _;constructor|exact rfl|apply KR.mk;kernel_rfl|show (_:PV)=_;(rw [hF (by grind)]);done|apply wI;rfl|apply gE;omega|omega|simp only [zql];omega|(intro h;simp at h))
theorem aAq (a b:Cl) (hb:a.parts.length<4611686018427387904):PF Tryz.prog 36 [.agg a.cells, .agg b.cells] (vb (decide (a=b))):=by
 by_cases hl:¬(a.kind=b.kind/\(a.val.kind=b.val.kind/\a.val.n=b.val.n/\a.val.s=b.val.s)/\a.parts.length=b.parts.length)
 ·have e:decide (a=b)=false:=decide_eq_false λq=>hl (by rw [q];simp)
  rw [e]
  have hx:(a.kind=b.kind/\a.val.kind=b.val.kind/\a.val.n=b.val.n/\a.val.s=b.val.s)/\(a.parts.length:Int)=(b.parts.length:Int)->False:=λh=>hl ⟨h.1.1,h.1.2,by omega⟩
  refine pF Tryz.func36 rfl (λst=> ?_)
  (repeat' first|exact (hx ‹_›).elim|apply wZ;rfl|show Cn _;constructor|exact rfl|(intro h;simp at h))
 replace hl:=zdn hl
 obtain ⟨k1,⟨k2,k3,k4⟩,k5⟩:=hl
 have hv:a.val=b.val:=(Vl.ext_iff _ _).2 ⟨k2,k3,k4⟩
 refine pF Tryz.func36 rfl (λst=> ?_)
 (repeat' first|apply wZ;rfl|show Cn _;constructor|exact rfl|show (_:PV)=_;(exfalso;grind);done|(intro h;simp at h))
 refine aC (X:={x:Nat//x<=a.parts.length/\∀j (h:j<x) (h1:j<a.parts.length) (h2:j<b.parts.length),a.parts[j]=b.parts[j]}) (λi=>((((St.nil 45 st).var 2 110 (a.cells)).var 3 110 (b.cells)).pv 5 ((vi ((i.1:Nat)))))) (λi=>a.parts.length-i.1) ⟨0,by omega,λ_ h=>absurd h (Nat.not_lt_zero _)⟩ ?_ (λi=> ?_)
 ·(repeat' first|show Cn _;constructor|exact rfl)
 obtain ⟨i,hi,hI⟩:=i
 dsimp only
 by_cases hend:a.parts.length<=i
 ·have e:decide (a=b)=true:=decide_eq_true ((Cl.ext_iff _ _).2 ⟨k1,hv,List.ext_getElem k5 λj h1 h2=>hI j (by omega) h1 h2⟩)
  (repeat' first|apply wZ;rfl|show Cn _;constructor|exact rfl|show (_:PV)=_;(rw [e]);done|simp only [zql];omega|(intro h;simp at h))
 have h1:i<a.parts.length:=by omega
 have h2:i<b.parts.length:=by omega
 have hF:¬a.parts[i]=b.parts[i]->decide (a=b)=false:=λh=>decide_eq_false λq=>h (by subst q;rfl)
 have hS:a.parts[i]=b.parts[i]->∀j (h:j<i+1) (h1:j<a.parts.length) (h2:j<b.parts.length),a.parts[j]=b.parts[j]:=λh j hj h1 h2=>by
  rcases zls.1 hj with q|q
  ·exact hI j q h1 h2
  ·subst q;exact h
 rw [Pt.ext_iff,Vl.ext_iff,Dt.ext_iff,Dt.ext_iff] at hF hS
 (repeat' first|(refine ⟨⟨i+1,by omega,hS (by grind)⟩, ?_, ?_⟩)|apply wZ;rfl|show Cn _;constructor|exact rfl|apply KR.mk;kernel_rfl|show (_:PV)=_;(rw [hF (by grind)]);done|apply wI;rfl|apply gE;omega|omega|simp only [zql];omega|(intro h;simp at h))
theorem adI (a b:Ln) (h1:a.by_.length<4611686018427387904) (hb:a.cells_.length<4611686018427387904) (hp:∀c∈a.cells_,c.parts.length<4611686018427387904):PF Tryz.prog 12 [.agg a.cells, .agg b.cells] (vb (decide (a=b))):=by
 have hd:=ayJ a.by_ b.by_ h1
 by_cases hl:¬((a.key=b.key/\a.cells_.length=b.cells_.length)/\a.by_=b.by_)
 ·have e:decide (a=b)=false:=decide_eq_false λq=>hl (by rw [q];simp)
  rw [e]
  have hx:(a.key=b.key/\(a.cells_.length:Int)=(b.cells_.length:Int))/\a.by_=b.by_->False:=λh=>hl ⟨⟨h.1.1,by omega⟩,h.2⟩
  refine pF Tryz.func12 rfl (λst=> ?_)
  (repeat' first|exact (hx ‹_›).elim|apply wZ;rfl|show Cn _;constructor|exact rfl|(apply hd)|apply wY;rfl|(intro h;simp at h))
 replace hl:=zdn hl
 obtain ⟨⟨k1,k5⟩,k2⟩:=hl
 refine pF Tryz.func12 rfl (λst=> ?_)
 (repeat' first|apply wZ;rfl|show Cn _;constructor|exact rfl|(apply hd)|show (_:PV)=_;(exfalso;grind);done|apply wY;rfl|(intro h;simp at h))
 refine aC (X:={x:Nat//x<=a.cells_.length/\∀j (h:j<x) (h1:j<a.cells_.length) (h2:j<b.cells_.length),a.cells_[j]=b.cells_[j]}) (λi=>((((St.nil 47 st).var 2 47 (a.cells)).var 3 47 (b.cells)).pv 5 ((vi ((i.1:Nat)))))) (λi=>a.cells_.length-i.1) ⟨0,by omega,λ_ h=>absurd h (Nat.not_lt_zero _)⟩ ?_ (λi=> ?_)
 ·(repeat' first|show Cn _;constructor|exact rfl)
 obtain ⟨i,hi,hI⟩:=i
 dsimp only
 by_cases hend:a.cells_.length<=i
 ·have e:decide (a=b)=true:=decide_eq_true ((Ln.ext_iff _ _).2 ⟨k1,List.ext_getElem k5 λj h1 h2=>hI j (by omega) h1 h2,k2⟩)
  (repeat' first|apply wZ;rfl|show Cn _;constructor|exact rfl|show (_:PV)=_;(rw [e]);done|simp only [zql];omega|(intro h;simp at h))
 have h1:i<a.cells_.length:=by omega
 have h2:i<b.cells_.length:=by omega
 have hF:¬a.cells_[i]=b.cells_[i]->decide (a=b)=false:=λh=>decide_eq_false λq=>h (by subst q;rfl)
 have hS:a.cells_[i]=b.cells_[i]->∀j (h:j<i+1) (h1:j<a.cells_.length) (h2:j<b.cells_.length),a.cells_[j]=b.cells_[j]:=λh j hj h1 h2=>by
  rcases zls.1 hj with q|q
  ·exact hI j q h1 h2
  ·subst q;exact h
 have hs:=aAq a.cells_[i] b.cells_[i] (hp _ (zgm h1))
 (repeat' first|(refine ⟨⟨i+1,by omega,hS ‹_›⟩, ?_, ?_⟩)|apply wZ;rfl|show Cn _;constructor|exact rfl|apply KR.mk;kernel_rfl|(apply hs)|show (_:PV)=_;(rw [hF (by grind)]);done|apply wY;rfl|apply wI;rfl|apply gE;omega|omega|simp only [zql];omega|(intro h;simp at h)|intro h)
def lR (c:Cl):Bool:=decide (c.parts.length<=40)&&decide (c.val.s.size<=400)
def fE (a:Ln):Bool:=a.cells_.all lR&&(decide (a.cells_.length<=20)&&decide (a.by_.length<=60))
theorem acM (a:Ln) (hl:a.cells_.length<4611686018427387904):PF Tryz.prog 38 [.agg a.cells] (vb (fE a)):=by
 refine pF Tryz.func38 rfl (λst=> ?_)
 (repeat' first|apply wZ;rfl|show Cn _;constructor)
 refine aC (X:={x:Nat//x<=a.cells_.length/\∀j (h:j<x) (h1:j<a.cells_.length),lR a.cells_[j]=true}) (λi=>(((St.nil 40 st).var 1 47 (a.cells)).pv 3 ((vi ((i.1:Nat)))))) (λi=>a.cells_.length-i.1) ⟨0,by omega,λ_ h=>absurd h (Nat.not_lt_zero _)⟩ ?_ (λi=> ?_)
 ·(repeat' first|show Cn _;constructor|exact rfl)
 obtain ⟨i,hi,hI⟩:=i
 dsimp only
 by_cases hend:a.cells_.length<=i
 ·have e:a.cells_.all lR=true:=zal.2 λc hc=>by
   obtain ⟨j,hj,rfl⟩:=zgo hc
   exact hI j (by omega) hj
  unfold fE
  rw [e,Bool.true_and]
  have e2:(decide (((a.cells_.map Cl.cells).length:Int)<=20)&&decide (((a.by_.map Dt.cells).length:Int)<=60))=(decide (a.cells_.length<=20)&&decide (a.by_.length<=60)):=by
   rw [Bool.eq_iff_iff];simp only [zba,zde,zql];omega
  (repeat' first|apply wZ;rfl|show Cn _;constructor|exact rfl|show (_:PV)=_;(rw [e2]);done|simp only [zql];omega|(intro h;simp at h))
 have h1:i<a.cells_.length:=by omega
 have hF:lR a.cells_[i]=false->fE a=false:=λh=>by
  unfold fE
  have:a.cells_.all lR=false:=by
   rw [<-Bool.not_eq_true,zal]
   intro q;rw [q _ (zgm h1)] at h;cases h
  rw [this];rfl
 have hS:lR a.cells_[i]=true->∀j (h:j<i+1) (h1:j<a.cells_.length),lR a.cells_[j]=true:=λh j hj h1=>by
  rcases zls.1 hj with q|q
  ·exact hI j q h1
  ·subst q;exact h
 unfold lR at hF hS
 (repeat' first|(refine ⟨⟨i+1,by omega,hS (by simp;omega)⟩, ?_, ?_⟩)|apply wZ;rfl|show Cn _;constructor|exact rfl|show (_:PV)=_;(rw [hF (by simp;omega)]);done|apply wI;rfl|apply gE;omega|omega|simp only [zql];omega|(intro h;simp at h))
def bE (l:List Ln) (k:Int):Option Ln:=l.find? λx=>decide (x.key=k)
def aH3 :Option Ln->PV
 |some x=> .tup [.agg x.cells,(vb (true))]
 |none=> .tup [.agg Ln.zero.cells,(vb (false))]
theorem avO {α:Type} {f:α->Bool} {l:List α} {i:Nat} (h:i<l.length) (hf:f l[i]=true) (hn:∀j (h:j<i) (h2:j<l.length),f l[j]=false):l.find? f=some l[i]:=
 List.find?_eq_some_iff_getElem.2 ⟨hf,i,h,rfl,λj hj=>by rw [hn j hj (by omega)];rfl⟩
theorem aHu (l:List Ln) (k:Int):(∃j:Nat,∃h:j<l.length,atP l k=(((j:Nat):Int),true)/\bE l k=some l[j])\/((atP l k).2=false/\bE l k=none):=by
 unfold atP bE
 cases h:l.findIdx? λx:Ln=>decide (x.key=k) with
 |some j=>
  left
  obtain ⟨hj,hf,hn⟩:=List.findIdx?_eq_some_iff_getElem.1 h
  refine ⟨j,hj, ?_,avO hj hf λq hq h2=>by simpa using hn q hq⟩
  have e:cS (λx:Ln=>decide (x.key=k)) l=j:=by unfold cS;rw [h]
  rw [e,zp (by omega)]
 |none=>
  right
  have e:cS (λx:Ln=>decide (x.key=k)) l= -1:=by unfold cS;rw [h]
  rw [e,zn (by omega)]
  refine ⟨by split<;>rfl,List.find?_eq_none.2 λx hx=>by rw [List.findIdx?_eq_none_iff.1 h x hx];simp⟩
theorem kY (b:Bs) (k key:Int) (hll:∀d∈b,d.lines.length<100000000000):PF Tryz.prog 10 [.agg (bsC b),(vi (k)),(vi (key))] (aH3 (bE (aF b k) key)):=by
 cases hok:okT b k with
 |false=>
  have ho:=avE b k hok
  have ha:=ahV [] key (by simp)
  rw [aG8] at ha
  have e:aF b k=[]:=by unfold aF;rw [hok];rfl
  rw [e,show bE [] key=none from rfl]
  refine pF Tryz.func10 rfl (λst=> ?_)
  (repeat' first|show Cn (.e _ _ _ _);refine .any ?_;((refine ⟨_,_,_,rfl,zwf _,zsr _, ?_,rfl⟩;(rfl)))|apply wZ;rfl|show Cn _;constructor|((first|apply ho|apply ha))|apply wY;rfl)
 |true=>
  obtain ⟨q,rfl,hq⟩:∃q:Nat,k=q/\q<b.length:=by
   unfold okT at hok
   simp only [zba,zde] at hok
   exact ⟨k.toNat,by omega,by omega⟩
  have ho:=abM b q hq
  have hlq:=hll b[q] (zgm hq)
  have hln:aF b q=b[q].lines:=by unfold aF;rw [zp hok];simp [hq]
  rw [hln]
  generalize hLe:b[q].lines=L at*
  have ha:=ahV L key (by omega)
  rcases aHu L key with ⟨j,hj,e1,e2⟩|⟨e1,e2⟩
  ·rw [e1] at ha
   rw [e2]
   refine pF Tryz.func10 rfl (λst=> ?_)
   (repeat' first|apply wZ;rfl|show Cn _;constructor|exact rfl|((first|apply ho|apply ha))|apply wY;rfl|apply wI;rfl|apply gE;omega)
  ·rw [e1] at ha
   rw [e2]
   refine pF Tryz.func10 rfl (λst=> ?_)
   (repeat' first|show Cn (.e _ _ _ _);refine .any ?_;((refine ⟨_,_,_,rfl,zwf _,zsr _, ?_,rfl⟩;(rfl)))|apply wZ;rfl|show Cn _;constructor|((first|apply ho|apply ha))|apply wY;rfl)
end
section
attribute [local irreducible] Ev PWp
set_option maxRecDepth 10000
set_option maxHeartbeats 4000000
def adG (f:Nat->Bool) (n:Nat):Bool:=(List.range n).all f
theorem ahM {f:Nat->Bool} {n k:Nat} (h:k<n) (hf:f k=false):adG f n=false:=by
 unfold adG
 rw [<-Bool.not_eq_true,zal]
 exact λq=>by rw [q k (List.mem_range.2 h)] at hf;cases hf
theorem abJ {f:Nat->Bool} {n:Nat} (hf:∀k<n,f k=true):adG f n=true:=by
 unfold adG
 rw [zal]
 exact λk h=>hf k (List.mem_range.1 h)
theorem pZ {f:Nat->Bool} {n:Nat}:adG f n=true↔∀k<n,f k=true:=by
 unfold adG
 rw [zal]
 exact ⟨λh k hk=>h k (List.mem_range.2 hk),λh k hk=>h k (List.mem_range.1 hk)⟩
theorem aFL {f:Nat->Bool} {i:Nat} (hI:∀j<i,f j=true) (h:f i=true):∀j<i+1,f j=true:=λj hj=>by
 rcases zls.1 hj with q|q
 ·exact hI j q
 ·subst q;exact h
theorem agA {f:Nat->Bool} {i:Nat} {p:Prop} (hI:∀j<i,f j=true) (e:f i=true↔p) (h:p):∀j<i+1,f j=true:=aFL hI (e.2 h)
theorem awE {f:Nat->Bool} {i:Nat} {p R:Prop} (h:f i=false->R) (e:f i=true↔p) (hp:¬p):R:=h (by rw [<-Bool.not_eq_true];exact λq=>hp (e.1 q))
theorem aCs {α β:Type} [Inhabited α] {f:α->β} {l:List α} {i:Nat} (h:i<l.length):(l.map f)[i]?=some (f l[i]!):=by
 rw [getElem!_pos l i h,List.getElem?_map,zgg h];rfl
variable (tx:Cl->Int)
def aFm (c:Cl):Prop:=c.parts.length<1000000000000/\(c.kind=4->PF Tryz.prog 124 [.agg c.cells] (vi (tx c)))
def iU (c:Cl):Bool:=if c.kind=0 then bX c.val&&decide (c.parts.length=0) else if c.kind=1 then lS c else if c.kind=2 then decide (cI c=0) else if c.kind=3 then jL c else if c.kind=4 then decide (tx c=0) else false
theorem axX (c:Cl) (h:aFm tx c):PF Tryz.prog 86 [.agg c.cells] (vb (iU tx c)):=by
 obtain ⟨hl,ht⟩:=h
 have h1:=akA c (by omega)
 have h3:=ajH c (by omega)
 have hv:=iZ c.val
 have h2:=lN c
 unfold iU
 generalize bX c.val=A at*
 generalize lS c=B at*
 generalize cI c=C at*
 generalize jL c=D at*
 generalize tx c=E at*
 refine pF Tryz.func86 rfl (λst=> ?_)
 (repeat' first|apply wZ;rfl|show Cn _;constructor|exact rfl|((first|apply hv|apply h1|apply h2|apply h3|apply (ht ‹_›)))|show (_:PV)=_;(simp [*];done);done|apply wY;rfl|intro h)
def adM (l:List Dt) (k:Nat):Bool:=fD l[k]! &&(decide (k=0)||bA l[k]! l[k-1]!)
def xN (l:List Dt):Bool:=adG (adM l) l.length
def yH (t:Tb) (l:Ln) (k:Nat):Bool:=decide (l.cells_[k]!.kind=t.cols[k]!.kind)&&iU tx l.cells_[k]!
def rY (t:Tb) (l:Ln):Bool:=decide (0<=l.key/\l.key<1073741824/\l.cells_.length=t.cols.length)&&decide (l.cells_[0]!.val=⟨1,l.key,e0⟩)
def kE (t:Tb) (l:Ln):Bool:=rY t l&&(adG (yH tx t l) l.cells_.length&&xN l.by_)
theorem avB {t:Tb} {l:Ln} (h:rY t l=false):kE tx t l=false:=by unfold kE;rw [h];rfl
theorem aF8 {t:Tb} {l:Ln} {k:Nat} (h:k<l.cells_.length) (hf:yH tx t l k=false):kE tx t l=false:=by unfold kE;rw [ahM h hf];simp
theorem aDM {t:Tb} {l:Ln} {k:Nat} (h:k<l.by_.length) (hf:adM l.by_ k=false):kE tx t l=false:=by unfold kE xN;rw [ahM h hf];simp
theorem aCm {t:Tb} {l:Ln} (h:rY t l=true) (hc:∀k<l.cells_.length,yH tx t l k=true) (hd:∀k<l.by_.length,adM l.by_ k=true):kE tx t l=true:=by
 unfold kE xN
 rw [h,abJ hc,abJ hd];rfl
theorem azL (t:Tb) (l:Ln) (ht:0<t.cols.length) (hl:l.cells_.length<1000000000000/\l.by_.length<1000000000000) (hp:∀c∈l.cells_,aFm tx c):PF Tryz.prog 51 [.agg t.cells, .agg l.cells] (vb (kE tx t l)):=by
 by_cases h0:¬((0<=l.key/\l.key<1073741824)/\l.cells_.length=t.cols.length)
 ·rw [avB tx (by unfold rY;rw [decide_eq_false (λh=>h0 ⟨⟨h.1,h.2.1⟩,h.2.2⟩)];rfl)]
  refine pF Tryz.func51 rfl (λst=> ?_)
  (repeat' first|apply wZ;rfl|show Cn _;constructor|exact rfl|apply KR.mk;kernel_rfl|(apply cN pk;(iterate 6 rfl);rotate_left;rfl;(intro hw;rfl);(intro hw;apply aCs<;>first|omega|((exfalso;simp [gw] at hw;omega)));(intro _;rfl);rfl)|intro h;simp at h;omega|(intro h;simp at h))
 obtain ⟨⟨h1,h2⟩,h3⟩:=zdn h0
 have hh:¬l.cells_[0].val=⟨1,l.key,e0⟩->rY t l=false:=λh=>by unfold rY;rw [getElem!_pos l.cells_ 0 (by omega),decide_eq_false h];simp
 rw [Vl.ext_iff] at hh
 have hy:l.cells_[0].val=⟨1,l.key,e0⟩->rY t l=true:=λh=>by unfold rY;rw [getElem!_pos l.cells_ 0 (by omega),decide_eq_true h,decide_eq_true ⟨h1,h2,h3⟩];rfl
 rw [Vl.ext_iff] at hy
 refine pF Tryz.func51 rfl (λst=> ?_)
 (repeat' first|apply wZ;rfl|show Cn _;constructor|exact rfl|apply KR.mk;kernel_rfl|show (_:PV)=_;((rw [avB tx (hh (by grind))];done));done|apply wI;rfl|apply gE;show 0<_;omega|(intro h;simp at h))
 have hy1:rY t l=true:=hy (by grind)
 refine aC (X:={x:Nat//x<=l.cells_.length/\∀j<x,yH tx t l j=true}) (λi=>((((((St.nil 102 st).var 2 58 (t.cells)).var 3 47 (l.cells)).pv 38 (.seq (l.cells_.map Cl.cells))).pv 39 ((vi (((l.cells_.map Cl.cells).length:Nat))))).pv 40 ((vi ((i.1:Nat)))))) (λi=>l.cells_.length-i.1) ⟨0,by omega,by omega⟩ ?_ (λi=> ?_)
 ·(repeat' first|show Cn _;constructor|exact rfl)
 obtain ⟨i,hi,hI⟩:=i
 dsimp only
 by_cases hend:l.cells_.length<=i
 ·(repeat' first|apply wZ;rfl|show Cn _;constructor|simp only [zql];omega|(intro h;simp at h))
  refine aC (X:={x:Nat//x<=l.by_.length/\∀j<x,adM l.by_ j=true}) (λy=>(((((St.nil 102 st).var 3 47 (l.cells)).pv 61 (.seq (l.by_.map Dt.cells))).pv 62 ((vi (((l.by_.map Dt.cells).length:Nat))))).pv 63 ((vi ((y.1:Nat)))))) (λy=>l.by_.length-y.1) ⟨0,by omega,by omega⟩ ?_ (λy=> ?_)
  ·(repeat' first|show Cn _;constructor|exact rfl)
  obtain ⟨y,hy,hyI⟩:=y
  dsimp only
  by_cases hend2:l.by_.length<=y
  have e:=aCm tx hy1 (λk hk=>hI k (by omega)) λk hk=>hyI k (by omega)
  rotate_left
  have h1:y<l.by_.length:=by omega
  have e:=Iff.refl (adM l.by_ y=true)
  by_cases h0:y=0
  subst h0
  conv at e=>rhs;simp only [adM,fD,getElem!_pos l.by_ 0 h1,zba,zde,decide_true,Bool.true_or,and_true]
  have hF:=awE (aDM tx (t:=t) h1) e
  have hS:=agA hyI e
  rotate_left
  obtain ⟨k,rfl⟩:∃k,y=k+1:=⟨y-1,by omega⟩
  have hd:=akL l.by_[k] l.by_[k+1]
  have hb:=auI l.by_[k] l.by_[k+1]
  conv at e=>rhs;simp only [adM,fD,getElem!_pos l.by_ (k+1) h1,show k+1-1=k from rfl,getElem!_pos l.by_ k (by omega),zba,zde,Bool.or_eq_true,h0,false_or]
  have hF:=awE (aDM tx (t:=t) h1) e
  have hS:=agA hyI e
  rotate_left
  all_goals ((repeat' first|apply iX;(intro hw;exact (show _=((0:Nat):Int) from by exact (uR hw).elim));(apply gE;omega);rfl|apply iX;(intro hw;exact (show ((((k+1:Nat):Int))-1=((k:Nat):Int)) from by omega));(apply gE;omega);rfl|(apply cW;focus (intro _;(apply (show PF Tryz.prog 87 [_,_] (vi (0)) from by rename_i hh;exact (uR hh).elim));done))|((first|refine ⟨⟨1,by omega,hS (by grind)⟩, ?_,by simp only;omega⟩|refine ⟨⟨k+2,by omega,hS (by grind)⟩, ?_,by simp only;omega⟩);focus ((repeat' first|show Cn _;constructor|exact rfl);done))|apply wZ;rfl|show Cn _;constructor|exact rfl|apply KR.mk;kernel_rfl|(apply hd)|show (_:PV)=_;(first|(rw [e]);done|((rw [hF (by grind)];done));done);done|apply wY;rfl|apply wI;rfl|apply gE;omega|omega|simp only [zql];omega|(intro h;simp at h)))
 have h1:i<l.cells_.length:=by omega
 have hc:=axX tx l.cells_[i] (hp _ (zgm h1))
 have e:=Iff.refl (yH tx t l i=true)
 conv at e=>rhs;simp only [yH,getElem!_pos l.cells_ i h1,getElem!_pos t.cols i (show i<t.cols.length by omega),zba,zde]
 have hF:=awE (aF8 tx (t:=t) h1) e
 have hS:=agA hI e
 (repeat' first|(refine ⟨⟨i+1,by omega,hS (by grind)⟩, ?_, ?_⟩)|apply wZ;rfl|show Cn _;constructor|exact rfl|apply KR.mk;kernel_rfl|(apply hc)|show (_:PV)=_;(rw [hF (by grind)]);done|apply wY;rfl|apply wI;rfl|apply gE;omega|omega|simp only [zql];omega|(intro h;simp at h))
end
section
attribute [local irreducible] Ev PWp
set_option maxRecDepth 10000
set_option maxHeartbeats 4000000
theorem vB :∀{l:List Int},orI l=0->∀x∈l,x=0
 |[],_,_,h=>by cases h
 |a::l,h,x,hx=>by
  rw [orI] at h
  split at h
  ·rename_i e
   rcases zmc.1 hx with rfl|q
   ·exact e
   ·exact vB h x q
  ·rename_i e;exact absurd h e
theorem nP {f:Nat->Int} {n:Nat} (h:eB f n=0) {k:Nat} (hk:k<n):f k=0:=
 vB h _ (List.mem_map.2 ⟨k,List.mem_range.2 hk,rfl⟩)
theorem fH {s:Sc} (h:cB s=0) {k:Nat} (hk:k<s.length):∀x∈lks s k,x=0:=by
 unfold cB at h
 split at h
 ·cases h
 ·exact vB (nP h hk)
theorem anP {s:Sc} (h:cB s=0) {k:Nat} (hk:k<s.length):0<s[k].cols.length:=by
 have:=fH h hk (lk1 s[k]!) (by simp [lks])
 rw [getElem!_pos s k hk] at this
 unfold lk1 at this
 split at this
 ·cases this
 ·omega
variable (tx:Cl->Int)
def aI6 (l:Ln):Prop:=(l.cells_.length<1000000000000/\l.by_.length<1000000000000)/\∀c∈l.cells_,aFm tx c
def aIc (d:Da):Prop:=d.lines.length<1000000000000/\∀l∈d.lines,aI6 tx l
def lnR (t:Tb) (L:List Ln) (i:Nat):Bool:=kE tx t L[i]! &&(decide (i=0)||decide (L[i-1]!.key<L[i]!.key))
def tD (t:Tb) (L:List Ln):Bool:=decide (L.length<=2000)&&adG (lnR tx t L) L.length
def afD (s:Sc) (b:Bs) (k:Nat):Bool:=tD tx s[k]! b[k]!.lines
def bH (s:Sc) (b:Bs):Bool:=decide (cB s=0/\b.length=s.length)&&adG (afD tx s b) b.length
theorem aGi {s:Sc} {b:Bs} (h:¬(cB s=0/\b.length=s.length)):bH tx s b=false:=by unfold bH;rw [decide_eq_false h];rfl
theorem aFE {s:Sc} {b:Bs} {k:Nat} (h:k<b.length) (hf:afD tx s b k=false):bH tx s b=false:=by unfold bH;rw [ahM h hf];simp
theorem aBL {s:Sc} {b:Bs} (h:cB s=0/\b.length=s.length) (hf:∀k<b.length,afD tx s b k=true):bH tx s b=true:=by unfold bH;rw [abJ hf,decide_eq_true h];rfl
theorem arX (s:Sc) (b:Bs) (hl:s.length<1000000000000) (hB:∀t∈s,TbB t) (hb:b.length<1000000000000) (hd:∀d∈b,aIc tx d):PF Tryz.prog 19 [.agg (scC s), .agg (bsC b)] (vb (bH tx s b)):=by
 have hs:=xI s (by omega) hB
 by_cases h0:¬(cB s=0/\b.length=s.length)
 ·rw [aGi tx h0]
  generalize cB s=R at*
  refine pF Tryz.func19 rfl (λst=> ?_)
  (repeat' first|apply wZ;rfl|show Cn _;constructor|exact rfl|(apply hs)|apply wY;rfl|intro h;simp at h;omega|(intro h;simp at h))
 replace h0:=zdn h0
 obtain ⟨h1,h2⟩:=h0
 rw [h1] at hs
 refine pF Tryz.func19 rfl (λst=> ?_)
 (repeat' first|apply wZ;rfl|show Cn _;constructor|(apply hs)|apply wY;rfl|simp only [zql];omega|(intro h;simp at h))
 refine aC (X:={x:Nat//x<=b.length/\∀j<x,afD tx s b j=true}) (λi=>(((((St.nil 67 st).var 2 24 ((scC s))).pv 22 (.seq (b.map Da.cells))).pv 23 ((vi (((b.map Da.cells).length:Nat))))).pv 24 ((vi ((i.1:Nat)))))) (λi=>b.length-i.1) ⟨0,by omega,by omega⟩ ?_ (λi=> ?_)
 ·(repeat' first|show Cn _;constructor|exact rfl)
 obtain ⟨i,hi,hI⟩:=i
 dsimp only
 by_cases hend:b.length<=i
 have e:=aBL tx ⟨h1,h2⟩ λk hk=>hI k (by omega)
 rotate_left
 have hib:i<b.length:=by omega
 have his:i<s.length:=by omega
 have hcl:=anP h1 his
 obtain ⟨d1,d2⟩:=hd _ (zgm hib)
 have e:=Iff.refl (afD tx s b i=true)
 conv at e=>rhs;simp only [afD,tD,getElem!_pos s i his,getElem!_pos b i hib,zba,zde,pZ]
 have hF:=awE (aFE tx (s:=s) hib) e
 have hS:=agA hI e
 by_cases h2k:¬b[i].lines.length<=2000
 have hF0:=hF λq=>h2k q.1
 rotate_left
 all_goals ((repeat' first|apply wZ;rfl|show Cn _;constructor|exact rfl|show (_:PV)=_;(first|(rw [e]);done|(rw [hF0]);done);done|apply wI;rfl|apply gE;omega|simp only [zql];omega|(intro h;simp at h)))
 focus ((repeat' (fail)))
 refine aC (X:={x:Nat//x<=b[i].lines.length/\∀j<x,lnR tx s[i] b[i].lines j=true}) (λy=>((((((((((St.nil 67 st).var 2 24 ((scC s))).pv 5 ((vi ((i:Nat))))).var 6 43 (b[i].cells)).pv 22 (.seq (b.map Da.cells))).pv 23 ((vi (((b.map Da.cells).length:Nat))))).pv 24 ((vi ((i:Nat))))).pv 34 (.seq (b[i].lines.map Ln.cells))).pv 35 ((vi (((b[i].lines.map Ln.cells).length:Nat))))).pv 36 ((vi ((y.1:Nat)))))) (λy=>b[i].lines.length-y.1) ⟨0,by omega,by omega⟩ ?_ (λy=> ?_)
 ·(repeat' first|show Cn _;constructor|exact rfl)
 obtain ⟨y,hy,hyI⟩:=y
 dsimp only
 by_cases hend2:b[i].lines.length<=y
 rotate_left
 have hyl:y<b[i].lines.length:=by omega
 obtain ⟨l1,l2⟩:=d2 _ (zgm hyl)
 have hls:=azL tx s[i] b[i].lines[y] hcl l1 l2
 have e:=Iff.refl (lnR tx s[i] b[i].lines y=true)
 have hF2:=λh:¬lnR tx s[i] b[i].lines y=true=>hF λq=>h (q.2 y hyl)
 by_cases h0:y=0
 subst h0
 conv at e=>rhs;simp only [lnR,getElem!_pos b[i].lines 0 hyl,decide_true,Bool.true_or,Bool.and_true]
 have hS2:=agA hyI e
 rw [e] at hF2
 rotate_left
 obtain ⟨k,rfl⟩:∃k,y=k+1:=⟨y-1,by omega⟩
 conv at e=>rhs;simp only [lnR,getElem!_pos b[i].lines (k+1) hyl,show k+1-1=k from rfl,getElem!_pos b[i].lines k (by omega),zba,zde,Bool.or_eq_true,h0,false_or]
 have hS2:=agA hyI e
 rw [e] at hF2
 rotate_left
 all_goals ((repeat' first|apply iX;(intro hw;exact (show _=((0:Nat):Int) from by exact (uR hw).elim));(apply gE;omega);rfl|apply iX;(intro hw;exact (show ((((k+1:Nat):Int))-1=((k:Nat):Int)) from by omega));(apply gE;omega);rfl|((first|refine ⟨⟨i+1,by omega,hS ⟨by omega,λk hk=>hyI k (by omega)⟩⟩, ?_,by simp only;omega⟩|refine ⟨⟨1,by omega,hS2 (by grind)⟩, ?_,by simp only;omega⟩|refine ⟨⟨k+2,by omega,hS2 (by grind)⟩, ?_,by simp only;omega⟩);focus ((repeat' first|show Cn _;constructor|exact rfl);done))|apply wZ;rfl|show Cn _;constructor|exact rfl|apply KR.mk;kernel_rfl|(apply hls)|show (_:PV)=_;(rw [hF2 (by grind)]);done|apply wY;rfl|apply wI;rfl|apply gE;omega|omega|simp only [zql];omega|(intro h;simp at h)))
end
section
attribute [local irreducible] Ev PWp
set_option maxRecDepth 10000
set_option maxHeartbeats 4000000
section
variable {P:Program} {tt:TT} {l:List Oper} {d:Md} {r:List Oper} {s:St} {K:St->Prop} {t:Nat} {ty:TypeId} {pos:String} {after:Array Edge}
theorem aIp {α:Type} {f:α->List PV} (pk:Pk P tt) (z0:α) {T e:TypeId} {x y:Operand} {kx ky:IntKind} {n B sz:Nat} {z:List Value} {a b:Int} (hx:opd s x=some (.val (.int kx a))) (hy:opd s y=some (.val (.int ky b))) (hk:tiK tt T=some (.slice e)) (hs:aN tt e=some sz) (hz:tiZ tt e=some z) (hzl:z.length=sz) (hpos:Nat.blt 0 sz=true) (hf0:z.map .val=f z0) (hf:bM s [x,y]=true) (hd:Nat.blt t s.n=true) (ht:iJ d l r=true)
  (ha:a=n) (hb':b=n) (hB:P.bytesOf e=B) (hb:n*B<=140737488355328) (h62:n<4611686018427387904) (k:∀id,s.st id=none->Ev P l d r ((s.sst (upd s.st id (some (.arr e ((List.replicate n z0).map f))))).pv t (.vec id sz 0 n)) K):Ev P l d (⟨some t, .makeSlice T x y,ty,pos,after,none⟩::r) s K:=by
 subst ha hb'
 refine dU (adB pk.htt hx hy hk hs hz hzl (by simpa [Nat.blt_eq] using hpos) hB hb h62) (λz hz=>aO (λ_ _ _ e=>by cases e) hz) hf hd ht λzz hzz=> ?_
 obtain ⟨id,h1,rfl⟩:=hzz
 have:=k id h1
 rw [List.map_replicate,<-hf0] at this
 exact this
end
theorem fL {α:Type} {f:α->List PV} {id sz n:Nat} {l:List α} (hn:l.length=n):Fz id sz (l.map f) (.vec id sz 0 n) (.seq (l.map f)):=by
 have e:(l.map f).length=n:=(zql _).trans hn
 rw [<-e];exact .all
theorem aIX {f:FuncId} {args:List PV} {st:aD} {R R':PV->aD->Prop} (h:PC Tryz.prog f args st R) (hr:∀p st',R p st'->∃q,Wk p q/\R' q st'):PC Tryz.prog f args st R':=
 ⟨h.1,λw g vs hm hv=>(h.2 w g vs hm hv).mono λe w' ⟨v,r,st',g',h1,h2,h3,h4⟩=>by
  obtain ⟨q,k1,k2⟩:=hr _ _ h2
  exact ⟨v,q,st',g',h1,k2,k1 _ _ h3,h4⟩⟩
theorem RepA.wk {g:G} {b:Nat} {ps qs:List PV} (h:WkL ps qs):∀{off:Nat},RepA g b off ps->RepA g b off qs:=by
 induction h with
 |nil=>exact λh=>h
 |cons h _ ih=>
  intro off e
  simp only [RepA] at e⊢
  obtain ⟨⟨v,e1,e2,e3⟩,e4⟩:=e
  exact ⟨⟨v,e1,e2,h _ _ e3⟩,ih e4⟩
theorem aFr {ps qs:List PV} (h:WkL ps qs):ps.length=qs.length:=by
 induction h with
 |nil=>rfl
 |cons _ _ ih=>simp [ih]
theorem RepR.wk {α:Type} {f k:α->List PV} {g:G} {b sz:Nat}:∀{l:List α} (_:∀x∈l,WkL (f x) (k x)) {off:Nat},RepR g b off sz (l.map f)->RepR g b off sz (l.map k)
 |[],_,_,e=>e
 |x::l,h,off,e=>by
  simp only [zmp,RepR] at e⊢
  exact ⟨aFr (h x (by simp))▸e.1,RepA.wk (h x (by simp)) e.2.1,RepR.wk (λy hy=>h y (by simp [hy])) e.2.2⟩
theorem Wk.rows {α:Type} {f k:α->List PV} {l:List α} (h:∀x∈l,WkL (f x) (k x)):Wk (.seq (l.map f)) (.seq (l.map k)):=λg v e=>by
 unfold Rep at e⊢
 obtain ⟨a,cap,h1,h2,h3,h4⟩:=e
 rw [zql] at h1 h2 h3
 refine ⟨a,cap,by rw [zql];exact h1,by rw [zql];exact h2,by rw [zql];exact h3, ?_⟩
 rcases h4 with h4|⟨b,off,sz,q1,q2⟩
 ·exact .inl (by rw [List.map_eq_nil_iff] at h4⊢;exact h4)
 ·exact .inr ⟨b,off,sz,q1,RepR.wk h q2⟩
def aaK (_:Unit):List PV:=[.val (.slice none 0 0)]
def aE0 (s:Sc):Bs:=List.replicate s.length ⟨[]⟩
theorem aHo (n:Nat):Wk (.agg [.seq ((List.replicate n ()).map aaK)]) (.agg (bsC (List.replicate n ⟨[]⟩))):=by
 refine Wk.agg (.cons ?_ .nil)
 have:=Wk.rows (f:=aaK) (k:=λ_=>Da.cells ⟨[]⟩) (l:=List.replicate n ()) λ_ _=> .cons Wk.nil .nil
 rwa [List.map_replicate (f:=λ_=>Da.cells ⟨[]⟩),<-List.map_replicate (f:=Da.cells)] at this
theorem aD3 (s:Sc) (hl:s.length<2000000000000):PF Tryz.prog 56 [.agg (scC s)] (.agg (bsC (aE0 s))):=λst=>
 aIX (fS (sz:=1) (R:=λr S=>∃id,r= .agg [.vec id 1 0 s.length]/\st id=none/\S=upd st id (some (.arr 43 ((List.replicate s.length ()).map aaK)))) (R':=λr S=>r= .agg [.seq ((List.replicate s.length ()).map aaK)]/\S=st) (by
  refine pC Tryz.func56 rfl ?_
  (repeat' first|show Cn (.r _ _ _);refine .rr ?_;(exact ⟨id,rfl,hid,rfl⟩);done|apply wZ;rfl|show Cn _;constructor|(apply aIp pk () (f:=aaK) (n:=s.length) (B:=24);(iterate 11 rfl);(focus (simp;done));(focus (simp;done));exact agQ;omega;omega;intro id hid))) λp st' h=>by
  obtain ⟨id,rfl,h3,rfl⟩:=h
  exact .inl ⟨id,43,(List.replicate s.length ()).map aaK,_,st,aA _ _ _,agX, .agg (.cons (fL (by simp)) .nil),cF h3,rfl,rfl⟩) λp st' h=>⟨_,h.1▸aHo _,rfl,h.2⟩
variable (sh:Cl->Vl)
def aCa (c:Cl):Prop:=PF Tryz.prog 37 [.agg c.cells] (.agg (sh c).cells)
theorem aHf (l:Ln) (hl:l.cells_.length<1000000000000) (hs:∀c∈l.cells_,aCa sh c) (st:aD):PC Tryz.prog 13 [.agg l.cells] st λr S=>∃id,r= .vec id 3 0 l.cells_.length/\st id=none/\S=upd st id (some (.arr 63 ((l.cells_.map sh).map Vl.cells))):=by
 refine pC Tryz.func13 rfl ?_
 (repeat' first|apply wZ;rfl|show Cn _;constructor)
 refine fK 3 63 3 rfl rfl rfl (λid hid=> ?_)
 refine aC (X:={x:Nat×Nat//x.1<=l.cells_.length/\st x.2=none}) (λi=>(((((St.nil 20 (upd st i.1.2 (some (.arr 63 (((l.cells_.map sh).take i.1.1).map Vl.cells))))).pv 3 (.vec i.1.2 3 0 i.1.1)).pv 7 (.seq (l.cells_.map Cl.cells))).pv 8 ((vi (((l.cells_.map Cl.cells).length:Nat))))).pv 9 ((vi ((i.1.1:Nat)))))) (λi=>l.cells_.length-i.1.1) ⟨(0,id),by simp,hid⟩ ?_ (λi=> ?_)
 ·dsimp only
  (repeat' first|show Cn (.t _ _);exact Cn.t0|show Cn _;constructor|exact rfl)
 obtain ⟨⟨i,id⟩,hi,hid⟩:=i
 simp only at hi hid
 dsimp only
 by_cases hend:l.cells_.length<=i
 ·have e:(l.cells_.map sh).take i=l.cells_.map sh:=ztl (by simp;omega)
  obtain rfl:i=l.cells_.length:=by omega
  (repeat' first|show Cn (.r _ _ _);refine .rr ?_;(exact ⟨id,rfl,hid,by rw [e];rfl⟩);done|apply wZ;rfl|show Cn _;constructor|simp only [zql];omega|(intro h;simp at h))
 have h1:i<l.cells_.length:=by omega
 have hc:PF Tryz.prog 37 [.agg l.cells_[i].cells] (.agg (sh l.cells_[i]).cells):=hs _ (zgm h1)
 have e:(l.cells_.map sh).take (i+1)=(l.cells_.map sh).take i++[sh l.cells_[i]]:=by rw [List.take_succ_eq_append_getElem (by simpa using h1)];simp
 (repeat' first|refine ⟨⟨(i+1,id'),by simp only;omega,dK hid'⟩, ?_, ?_⟩;((dsimp only;try rw [e]))|show Cn (.t _ _);exact .any (bP ‹_›)|apply wZ;rfl|show Cn _;constructor|exact rfl|(apply hc)|(apply apV pk (f:=Vl.cells) [sh l.cells_[i]] 32;(iterate 9 rfl);(exact aA _ _ _);((focus (simp;omega)));exact λ_=>rfl;exact λ_=>rfl;exact awN;((focus (simp;omega)));((focus (simp;omega)));rfl;intro id' hid')|apply wY;rfl|apply wI;rfl|apply gE;omega|omega|simp only [zql];omega|(intro h;simp at h))
theorem amJ (l:Ln) (hl:l.cells_.length<1000000000000) (hs:∀c∈l.cells_,aCa sh c):PF Tryz.prog 13 [.agg l.cells] (.seq ((l.cells_.map sh).map Vl.cells)):=λst=>
 fS (sz:=3) (aHf sh l hl hs st) λp st' h=>by
  obtain ⟨id,rfl,h3,rfl⟩:=h
  exact .inl ⟨id,63,(l.cells_.map sh).map Vl.cells,_,st,aA _ _ _,uJ,fL (by simp),cF h3,rfl,rfl⟩
def roC (r:List Vl):List PV:=[.seq (r.map Vl.cells)]
theorem aEd :Tryz.prog.bytesOf 60=24:=by kernel_rfl
theorem aBa :Tryz.prog.cellsOf 60=1:=by kernel_rfl
def acW (l:Ln):List Vl:=l.cells_.map sh
theorem aAL (b:Bs) (k:Nat) (hk:k<b.length) (hl:b[k].lines.length<1000000000000) (hs:∀l∈b[k].lines,l.cells_.length<1000000000000/\∀c∈l.cells_,aCa sh c) (st:aD):PC Tryz.prog 44 [.agg (bsC b),(vi ((k:Nat)))] st λr S=>∃id,r= .vec id 1 0 b[k].lines.length/\st id=none/\S=upd st id (some (.arr 60 ((b[k].lines.map (acW sh)).map roC))):=by
 have ho:=abM b k hk
 generalize b[k].lines=L at*
 refine pC Tryz.func44 rfl ?_
 (repeat' first|apply wZ;rfl|show Cn _;constructor|(apply ho)|apply wY;rfl)
 refine fK 7 60 1 rfl rfl rfl (λid hid=> ?_)
 refine aC (X:={x:Nat×Nat//x.1<=L.length/\st x.2=none}) (λi=>(((((St.nil 30 (upd st i.1.2 (some (.arr 60 (((L.map (acW sh)).take i.1.1).map roC))))).pv 7 (.vec i.1.2 1 0 i.1.1)).pv 17 (.seq (L.map Ln.cells))).pv 18 ((vi (((L.map Ln.cells).length:Nat))))).pv 19 ((vi ((i.1.1:Nat)))))) (λi=>L.length-i.1.1) ⟨(0,id),by simp,hid⟩ ?_ (λi=> ?_)
 ·dsimp only
  (repeat' first|show Cn (.t _ _);exact Cn.t0|show Cn _;constructor|exact rfl)
 obtain ⟨⟨i,id⟩,hi,hid⟩:=i
 simp only at hi hid
 dsimp only
 by_cases hend:L.length<=i
 ·have e:(L.map (acW sh)).take i=L.map (acW sh):=ztl (by simp;omega)
  obtain rfl:i=L.length:=by omega
  (repeat' first|show Cn (.r _ _ _);refine .rr ?_;(exact ⟨id,rfl,hid,by rw [e];rfl⟩);done|apply wZ;rfl|show Cn _;constructor|simp only [zql];omega|(intro h;simp at h))
 have h1:i<L.length:=by omega
 have hc:=amJ sh L[i] (hs _ (zgm h1)).1 (hs _ (zgm h1)).2
 have e:(L.map (acW sh)).take (i+1)=(L.map (acW sh)).take i++[L[i].cells_.map sh]:=by rw [List.take_succ_eq_append_getElem (by simpa using h1)];simp [acW]
 (repeat' first|refine ⟨⟨(i+1,id'),by simp only;omega,dK hid'⟩, ?_, ?_⟩;((dsimp only;try rw [e]))|show Cn (.t _ _);exact .any (bP ‹_›)|apply wZ;rfl|show Cn _;constructor|exact rfl|(apply hc)|(apply apV pk (f:=roC) [L[i].cells_.map sh] 24;(iterate 9 rfl);(exact aA _ _ _);((focus (simp;omega)));exact λ_=>rfl;exact λ_=>rfl;exact aEd;((focus (simp;omega)));((focus (simp;omega)));rfl;intro id' hid')|apply wY;rfl|apply wI;rfl|apply gE;omega|omega|simp only [zql];omega|(intro h;simp at h))
theorem apP (b:Bs) (k:Nat) (hk:k<b.length) (hl:b[k].lines.length<1000000000000) (hs:∀l∈b[k].lines,l.cells_.length<1000000000000/\∀c∈l.cells_,aCa sh c):PF Tryz.prog 44 [.agg (bsC b),(vi ((k:Nat)))] (.seq ((b[k].lines.map (acW sh)).map roC)):=λst=>
 fS (sz:=1) (aAL sh b k hk hl hs st) λp st' h=>by
  obtain ⟨id,rfl,h3,rfl⟩:=h
  exact .inl ⟨id,60,(b[k].lines.map (acW sh)).map roC,_,st,aA _ _ _,aBa,fL (by simp),cF h3,rfl,rfl⟩
end
section
attribute [local irreducible] Ev PWp
set_option maxRecDepth 10000
set_option maxHeartbeats 4000000
theorem anY (c:Cl) (h:c.kind=0):PF Tryz.prog 37 [.agg c.cells] (.agg c.val.cells):=by
 refine pF Tryz.func37 rfl (λst=> ?_)
 (repeat' first|apply wZ;rfl|show Cn _;constructor|exact rfl|omega|intro h)
def colId :Co:=⟨⟨#[105,100]⟩,0,1,false⟩
def adE (b:Bs) (k:Int) (ls:List Ln):Bs:=if okT b k then b.set k.toNat ⟨ls⟩ else b
theorem pR (b:Bs) (k:Int) (ls:List Ln):(adE b k ls).length=b.length:=by unfold adE;split<;>simp
theorem avW {b:Bs} {k:Int} {ls:List Ln} {i:Nat} (h:i<b.length) (hk:(i:Int)=k):(adE b k ls)[i]'(by rw [pR];exact h)=⟨ls⟩:=by
 subst hk
 simp [adE,okT,h]
theorem aFK {b:Bs} {k:Int} {ls:List Ln} {i:Nat} (h:i<b.length) (hk:¬(i:Int)=k):(adE b k ls)[i]'(by rw [pR];exact h)=b[i]:=by
 unfold adE
 split
 ·rename_i q
  simp only [okT,zba,zde] at q
  rw [List.getElem_set_ne (by omega)]
 ·rfl
end
section
set_option maxRecDepth 10000
set_option maxHeartbeats 4000000
theorem aaC (L:List Ln) (k:Int):(∃j:Nat,∃h:j<L.length,atP L k=((j:Int),true)/\bE L k=some L[j]/\L[j].key=k/\∀q (hq:q<j),L[q].key≠k)\/
  (∃j:Nat,j<=L.length/\atP L k=((j:Int),false)/\bE L k=none/\(∀x∈L,x.key≠k)/\(∀q (hq:q<j) (h:q<L.length),¬L[q].key>k)/\∀h:j<L.length,L[j].key>k):=by
 unfold atP bE
 cases h:L.findIdx? λx:Ln=>decide (x.key=k) with
 |some j=>
  left
  obtain ⟨hj,hf,hn⟩:=List.findIdx?_eq_some_iff_getElem.1 h
  refine ⟨j,hj, ?_,avO hj hf λq hq h2=>by simpa using hn q hq,by simpa using hf,λq hq=>by simpa using hn q hq⟩
  have e:cS (λx:Ln=>decide (x.key=k)) L=j:=by unfold cS;rw [h]
  rw [e,zp (by omega)]
 |none=>
  right
  have e:cS (λx:Ln=>decide (x.key=k)) L= -1:=by unfold cS;rw [h]
  have hne:∀x∈L,x.key≠k:=λx hx=>by simpa using List.findIdx?_eq_none_iff.1 h x hx
  have hg:L.find? (λx:Ln=>decide (x.key=k))=none:=List.find?_eq_none.2 λx hx=>by rw [List.findIdx?_eq_none_iff.1 h x hx];simp
  rw [e,zn (by omega)]
  cases h2:L.findIdx? λx:Ln=>decide (x.key>k) with
  |some j=>
   obtain ⟨hj,hf,hn⟩:=List.findIdx?_eq_some_iff_getElem.1 h2
   have e2:cS (λx:Ln=>decide (x.key>k)) L=j:=by unfold cS;rw [h2]
   rw [e2,zp (by omega)]
   exact ⟨j,by omega,rfl,hg,hne,λq hq hl=>by simpa using hn q hq,λ_=>by simpa using hf⟩
  |none=>
   have e2:cS (λx:Ln=>decide (x.key>k)) L= -1:=by unfold cS;rw [h2]
   rw [e2,zn (by omega)]
   exact ⟨L.length,Nat.le_refl _,rfl,hg,hne,λq hq hl=>by simpa using List.findIdx?_eq_none_iff.1 h2 L[q] (zgm hl),λh=>absurd h (Nat.lt_irrefl _)⟩
theorem arW {L:List Ln} {j:Nat} {a:Ln} (h:j<=L.length):(dV L j [a]).length=L.length+1:=by rw [xS h];rfl
end
section
attribute [local irreducible] Ev PWp
set_option maxRecDepth 10000
set_option maxHeartbeats 4000000
end
end Go.Proofs.YtfablfldonhkiaaGreatDoor
