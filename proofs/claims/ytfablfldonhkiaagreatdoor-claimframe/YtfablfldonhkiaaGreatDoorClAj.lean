import Derived.Test.YtfablfldonhkiaaGreatDoorClAi
import Derived.Test.YtfablfldonhkiaaGreatDoorClAg
import Derived.Test.YtfablfldonhkiaaGreatDoorAbsG
import Derived.Test.YtfablfldonhkiaaGreatDoorClAh
import Derived.Test.YtfablfldonhkiaaGreatDoorClAd
import Derived.Test.YtfablfldonhkiaaGreatDoorClAa
set_option linter.unusedSimpArgs false
set_option linter.unusedVariables false
namespace Go.Proofs.YtfablfldonhkiaaGreatDoor
open Go Go.Abs
section
attribute [local irreducible] Ev PWp
set_option maxRecDepth 10000
set_option maxHeartbeats 4000000
variable (t:Tb) (rows:List (List Vl)) (b:Bs)
theorem aoZ (hl:rows.length<1000000000000000) (hx:t.checks.length<1000000000000000) (hk:vE t) (L:∀r∈rows,X.rowOK r):PF Tryz.prog 47 [.agg (oC t rows b)] (vi (eJ (exR t) rows)):=by
 refine pF Tryz.func47 rfl (λst=> ?_)
 focus ((repeat' first|apply wZ;rfl|show Cn _;constructor))
 refine aC (X:={x:Nat//x<=rows.length/\∀j (h:j<rows.length),j<x->exR t rows[j]=0}) (λi=>(((((St.nil 38 st).var 1 119 ((oC t rows b))).pv 10 (.seq (rows.map roC))).pv 11 ((vi (((rows.map roC).length:Nat))))).pv 12 ((vi ((i.1:Nat)))))) (λi=>rows.length-i.1) ⟨0,by omega,by omega⟩ ?_ (λi=> ?_)
 ·(repeat' first|show Cn _;constructor|exact rfl)
 obtain ⟨i,hi,B⟩:=i;dsimp only;by_cases H:rows.length<=i
 ·have e:eJ (exR t) rows=0:=oG λj hj=>B j hj (by omega)
  (repeat' first|apply wZ;rfl|show Cn _;constructor|exact rfl|show (_:PV)=_;(rw [e]);done|simp only [zql];omega|(intro h;simp at h))
 have k:i<rows.length:=by omega
 have F:=L _ (zgm k);have e:=uX B k;have hu:=uQ B k
 focus ((repeat' first|apply wZ;rfl|show Cn _;constructor|exact rfl|apply wI;rfl|apply gE;omega|simp only [zql];omega|(intro h;simp at h)))
 refine aC (X:={x:Nat//x<=t.checks.length/\∀j (h:j<t.checks.length),j<x->chE (X.EvalR (exOf t.checks[j]) rows[i])=0}) (λy=>(((((((((St.nil 38 st).var 1 119 ((oC t rows b))).pv 4 (.seq (rows[i].map Vl.cells))).pv 10 (.seq (rows.map roC))).pv 11 ((vi (((rows.map roC).length:Nat))))).pv 12 ((vi ((i:Nat))))).pv 18 (.seq t.checks)).pv 19 ((vi ((t.checks.length:Nat))))).pv 20 ((vi ((y.1:Nat)))))) (λy=>t.checks.length-y.1) ⟨0,by omega,by omega⟩ ?_ (λy=> ?_)
 ·(repeat' first|show Cn _;constructor|exact rfl)
 obtain ⟨y,hy,l⟩:=y;dsimp only;by_cases D:t.checks.length<=y
 ·have J:exR t rows[i]=0:=oG λj hj=>l j hj (by omega)
  (repeat' first|(refine ⟨⟨i+1,by omega,hu J⟩, ?_, ?_⟩)|apply wZ;rfl|show Cn _;constructor|exact rfl|omega|simp only [zql];omega|(intro h;simp at h))
 have g:y<t.checks.length:=by omega
 obtain ⟨E,C⟩:=akL (hk _ (zgm g));have G:=uX (f:=λc=>chE (X.EvalR (exOf c) rows[i])) l g;have u:=uQ (f:=λc=>chE (X.EvalR (exOf c) rows[i])) l g;change chE _≠0->exR t rows[i]=chE _ at G;change chE (X.EvalR (exOf t.checks[y]) rows[i])=0->_ at u;have A:=X.Eval_spec E F;have d:t.checks[y]?=some (exOf t.checks[y]).cells:=by rw [C,zgg g]
 generalize X.EvalR (exOf t.checks[y]) rows[i]=p at*;generalize exOf t.checks[y]=x at*;obtain ⟨M,N,P,O⟩:=x;obtain ⟨⟨n,o,s⟩,m⟩:=p;have a:chE (⟨n,o,s⟩,m)≠0->eJ (exR t) rows=chE (⟨n,o,s⟩,m):=λh=>by
  have:=G h
  rw [e (by rw [this];exact h),this]
 by_cases v:m=0
 ·by_cases z:n=1/\o=0/\s=e0
  ·have K:chE (⟨n,o,s⟩,m)=9:=by unfold chE;rw [zp v,zp (by simp [z])]
   rw [K] at a;have hf:=a (by decide);obtain ⟨rfl,rfl,rfl⟩:=z
   (repeat' first|apply wZ;rfl|show Cn _;constructor|exact rfl|apply dM pk;(iterate 6 rfl);rotate_left;rfl;(intro hw;rfl);(intro hw;apply d<;>omega);(intro _;rfl);rfl|(apply A)|show (_:PV)=_;(rw [hf]);done|apply wY;rfl|omega|(intro h;simp at h))
  ·have w:chE (⟨n,o,s⟩,m)=0:=by unfold chE;rw [zp v,zn (λq=>z (by simpa using q))]
   have hw:=u w
   (repeat' first|(refine ⟨⟨y+1,by omega,hw⟩, ?_, ?_⟩)|apply wZ;rfl|show Cn _;constructor|exact rfl|apply dM pk;(iterate 6 rfl);rotate_left;rfl;(intro hw;rfl);(intro hw;apply d<;>omega);(intro _;rfl);rfl|(apply A)|apply wY;rfl|omega|simp only [zql];omega|exfalso;simp_all;done|(intro h;simp at h))
 ·have I:chE (⟨n,o,s⟩,m)=m:=by unfold chE;rw [zn v]
  rw [I] at a;have hf:=a v
  (repeat' first|apply wZ;rfl|show Cn _;constructor|exact rfl|apply dM pk;(iterate 6 rfl);rotate_left;rfl;(intro hw;rfl);(intro hw;apply d<;>omega);(intro _;rfl);rfl|(apply A)|show (_:PV)=_;(rw [hf]);done|apply wY;rfl|omega|(intro h;simp at h))
theorem ajM (hl:rows.length<1000000000000000) (hx:t.foreign.length<1000000000000000) (C:∀f∈t.foreign,0<=f.col/\∀r∈rows,f.col<r.length) {n:Nat} (hb:BsS n b) (hn:n<=1000):PF Tryz.prog 48 [.agg (oC t rows b)] (vi (if aaM b t rows=false then 10 else 0)):=by
 have u:(∀j (h:j<t.foreign.length),(rows.all λr=> !decide (r[t.foreign[j].col.toNat]!.kind=1)||(aY (aF b t.foreign[j].table) r[t.foreign[j].col.toNat]!.n).isSome)=true)->aaM b t rows=true:=λh=>by
  unfold aaM
  rw [zal]
  intro f hf
  obtain ⟨j,hj,rfl⟩:=zgo hf
  exact h j hj
 have k:∀j (h:j<t.foreign.length),(rows.all λr=> !decide (r[t.foreign[j].col.toNat]!.kind=1)||(aY (aF b t.foreign[j].table) r[t.foreign[j].col.toNat]!.n).isSome)=false->aaM b t rows=false:=λj hj h=>by
  unfold aaM
  rw [<-Bool.not_eq_true,zal]
  intro q
  rw [q _ (zgm hj)] at h;cases h
 generalize aaM b t rows=B at*;refine pF Tryz.func48 rfl (λst=> ?_)
 focus ((repeat' first|apply wZ;rfl|show Cn _;constructor))
 refine aC (X:={x:Nat//x<=t.foreign.length/\∀j (h:j<t.foreign.length),j<x->(rows.all λr=> !decide (r[t.foreign[j].col.toNat]!.kind=1)||(aY (aF b t.foreign[j].table) r[t.foreign[j].col.toNat]!.n).isSome)=true}) (λi=>(((((St.nil 51 st).var 1 119 ((oC t rows b))).pv 11 (.seq (t.foreign.map Fr.cells))).pv 12 ((vi (((t.foreign.map Fr.cells).length:Nat))))).pv 13 ((vi ((i.1:Nat)))))) (λi=>t.foreign.length-i.1) ⟨0,by omega,by omega⟩ ?_ (λi=> ?_)
 ·(repeat' first|show Cn _;constructor|exact rfl)
 obtain ⟨i,hi,E⟩:=i;dsimp only;by_cases F:t.foreign.length<=i
 ·have e:B=true:=u λj hj=>E j hj (by omega)
  (repeat' first|apply wZ;rfl|show Cn _;constructor|exact rfl|show (_:PV)=_;(rw [e];rfl);done|simp only [zql];omega|(intro h;simp at h))
 have o:i<t.foreign.length:=by omega
 obtain ⟨I,z⟩:=C _ (zgm o);have k:=k i o;have D:(rows.all λr=> !decide (r[t.foreign[i].col.toNat]!.kind=1)||(aY (aF b t.foreign[i].table) r[t.foreign[i].col.toNat]!.n).isSome)=true->∀j (h:j<t.foreign.length),j<i+1->(rows.all λr=> !decide (r[t.foreign[j].col.toNat]!.kind=1)||(aY (aF b t.foreign[j].table) r[t.foreign[j].col.toNat]!.n).isSome)=true:=λh j hj g=>by
  rcases zls.1 g with q|q
  ·exact E j hj q
  ·subst q;exact h
 focus ((repeat' first|apply wZ;rfl|show Cn _;constructor|exact rfl|apply wI;rfl|apply gE;omega|simp only [zql];omega|(intro h;simp at h)))
 refine aC (X:={x:Nat//x<=rows.length/\∀j (h:j<rows.length),j<x->(!decide (rows[j][t.foreign[i].col.toNat]!.kind=1)||(aY (aF b t.foreign[i].table) rows[j][t.foreign[i].col.toNat]!.n).isSome)=true}) (λy=>(((((((((St.nil 51 st).var 1 119 ((oC t rows b))).var 4 66 (t.foreign[i].cells)).pv 11 (.seq (t.foreign.map Fr.cells))).pv 12 ((vi (((t.foreign.map Fr.cells).length:Nat))))).pv 13 ((vi ((i:Nat))))).pv 18 (.seq (rows.map roC))).pv 19 ((vi (((rows.map roC).length:Nat))))).pv 20 ((vi ((y.1:Nat)))))) (λy=>rows.length-y.1) ⟨0,by omega,by omega⟩ ?_ (λy=> ?_)
 ·(repeat' first|show Cn _;constructor|exact rfl)
 obtain ⟨y,hy,s⟩:=y;dsimp only;by_cases w:rows.length<=y
 ·have hw:=D (by
   rw [zal];intro r C;obtain ⟨j,hj,rfl⟩:=zgo C;exact s j hj (by omega))
  (repeat' first|(refine ⟨⟨i+1,by omega,hw⟩, ?_, ?_⟩)|apply wZ;rfl|show Cn _;constructor|exact rfl|omega|simp only [zql];omega|(intro h;simp at h))
 have v:y<rows.length:=by omega
 have H:=z _ (zgm v);have l:=sE hb hn t.foreign[i].table rows[y][t.foreign[i].col.toNat]!.n;have d:(!decide (rows[y][t.foreign[i].col.toNat]!.kind=1)||(aY (aF b t.foreign[i].table) rows[y][t.foreign[i].col.toNat]!.n).isSome)=false->B=false:=λh=>k (by
  rw [<-Bool.not_eq_true,zal]
  intro q
  rw [q _ (zgm v)] at h;cases h)
 have c:(!decide (rows[y][t.foreign[i].col.toNat]!.kind=1)||(aY (aF b t.foreign[i].table) rows[y][t.foreign[i].col.toNat]!.n).isSome)=true->∀j (h:j<rows.length),j<y+1->(!decide (rows[j][t.foreign[i].col.toNat]!.kind=1)||(aY (aF b t.foreign[i].table) rows[j][t.foreign[i].col.toNat]!.n).isSome)=true:=λh j hj g=>by
  rcases zls.1 g with q|q
  ·exact s j hj q
  ·subst q;exact h
 have a:t.foreign[i].col=((t.foreign[i].col.toNat:Nat):Int):=by omega
 have A:t.foreign[i].col.toNat<rows[y].length:=by omega
 have m:=getElem!_pos rows[y] t.foreign[i].col.toNat A;rw [m] at l d c;clear m;generalize (aY (aF b t.foreign[i].table) rows[y][t.foreign[i].col.toNat].n).isSome=G at*;cases G<;>by_cases p:rows[y][t.foreign[i].col.toNat].kind=1
 ·have e:B=false:=d (by simp [p])
  (repeat' first|apply iX;(intro hw;exact a);(apply gE;omega);rfl|apply wZ;rfl|show Cn _;constructor|exact rfl|apply KR.mk;kernel_rfl|(apply l)|show (_:PV)=_;(rw [e];rfl);done|apply wY;rfl|apply wI;rfl|apply gE;omega|simp only [zql];omega|intro h;simp at h;omega|(intro h;simp at h))
 ·have hw:=c (by simp [p])
  (repeat' first|apply iX;(intro hw;exact a);(apply gE;omega);rfl|(refine ⟨⟨y+1,by omega,hw⟩, ?_, ?_⟩)|apply wZ;rfl|show Cn _;constructor|exact rfl|apply KR.mk;kernel_rfl|(apply l)|apply wY;rfl|apply wI;rfl|apply gE;omega|omega|simp only [zql];omega|intro h;simp at h;omega|(intro h;simp at h))
 ·have hw:=c (by simp)
  (repeat' first|apply iX;(intro hw;exact a);(apply gE;omega);rfl|(refine ⟨⟨y+1,by omega,hw⟩, ?_, ?_⟩)|apply wZ;rfl|show Cn _;constructor|exact rfl|apply KR.mk;kernel_rfl|(apply l)|apply wY;rfl|apply wI;rfl|apply gE;omega|omega|simp only [zql];omega|intro h;simp at h;done|(intro h;simp at h))
 ·have hw:=c (by simp)
  (repeat' first|apply iX;(intro hw;exact a);(apply gE;omega);rfl|(refine ⟨⟨y+1,by omega,hw⟩, ?_, ?_⟩)|apply wZ;rfl|show Cn _;constructor|exact rfl|apply KR.mk;kernel_rfl|(apply l)|apply wY;rfl|apply wI;rfl|apply gE;omega|omega|simp only [zql];omega|intro h;simp at h;done|(intro h;simp at h))
end
section
attribute [local irreducible] Ev PWp
set_option maxRecDepth 10000
set_option maxHeartbeats 4000000
structure TotOK (m:Su) (rows:List (List Vl)):Prop where
 len:rows.length<=2000
 c0:0<=m.col
 b0:0<=m.by_
 cl:∀r∈rows,m.col<r.length/\m.by_<r.length
 num:∀r∈rows,(-1099511627776<=r[m.col.toNat]!.n/\r[m.col.toNat]!.n<=1099511627776)/\(r[m.col.toNat]!.kind≠1->r[m.col.toNat]!.n=0)
theorem TotOK.ns {m:Su} {rows:List (List Vl)} (h:TotOK m rows):aCL m rows:=λr a=>(h.num r a).2
theorem xZ {m:Su} {g:Int}:∀{rows:List (List Vl)},(∀r∈rows, -1099511627776<=r[m.col.toNat]!.n/\r[m.col.toNat]!.n<=1099511627776)-> -1099511627776*(rows.length:Int)<=jB m g rows/\jB m g rows<=1099511627776*(rows.length:Int)
 |[],_=>by simp [jB]
 |r::rows,h=>by
  have a:=xZ (m:=m) (g:=g) (rows:=rows) λx hx=>h x (List.mem_cons_of_mem _ hx)
  have h0:=h r (List.mem_cons_self ..)
  rw [alI]
  have: -1099511627776<=aaD m g r/\aaD m g r<=1099511627776:=by
   unfold aaD;split
   ·exact h0
   ·omega
  simp only [zlc]
  omega
theorem aE2 {m:Su} {rows:List (List Vl)} (h:aCL m rows) (g:Int):(bZ g (mY m rows)).getD 0=jB m g rows:=by
 have:=ajW g [] h;simp only [bZ,Option.getD_none,Int.zero_add] at this;exact this
theorem aFp {m:Su} {rows:List (List Vl)} {k:Nat} (h:k<rows.length):sO m (rows.take (k+1))=(sO m (rows.take k)&&decide (rows[k][m.col.toNat]!.n>=0)):=by
 unfold sO;rw [List.take_succ_eq_append_getElem h,List.all_append];simp
theorem yX (m:Su) (rows:List (List Vl)) (h:TotOK m rows):PF Tryz.prog 84 [.agg m.cells, .seq (rows.map roC)] (.tup [.fmap (aX Ie mU (mY m rows)),(vb (sO m rows))]):=by
 have A:=h.len;refine pF Tryz.func84 rfl (λst=> ?_)
 focus ((repeat' first|(apply mkM (enc:=Ie) (f:=mU);rfl;intro id p)|apply wZ;rfl|show Cn _;constructor))
 have q:st id=none:=p;clear p;refine aC (X:={x:Nat//x<=rows.length}) (λi=>(((((((St.nil 52 (upd st id (some (.map (aX Ie mU (mY m (rows.take i.1))))))).var 2 134 (m.cells)).pv 6 (.mref id)).pv 7 ((vb (sO m (rows.take i.1))))).pv 11 (.seq (rows.map roC))).pv 12 ((vi ((((rows.map roC)).length:Nat))))).pv 13 ((vi ((i.1:Nat)))))) (λi=>rows.length-i.1) ⟨0,by omega⟩ ?_ (λi=> ?_)
 ·(repeat' first|show Cn (.t _ _);exact Cn.t0|show Cn _;constructor|exact rfl)
 obtain ⟨i,hi⟩:=i;dsimp only;by_cases o:rows.length<=i
 ·rw [ztl o]
  (repeat' first|apply jL 4;rfl;exact aA _ _ _|exact Cn.any ⟨_,_,st,rfl,zwr _,rO q,rfl,rfl⟩|apply wZ;rfl|show Cn _;constructor|simp only [zql];omega|(intro h;simp at h))
 have c:i<rows.length:=by omega
 obtain ⟨c1,c2⟩:=h.cl _ (zgm c);have C:=h.c0;have B:=h.b0;have H:=(h.num _ (zgm c)).1;have w:aCL m (rows.take i):=λr y=>h.ns r (List.mem_of_mem_take y);have hg:=aE2 w rows[i][m.by_.toNat]!.n;have e:=xZ (m:=m) (g:=rows[i][m.by_.toNat]!.n) (rows:=rows.take i) λr y=>(h.num r (List.mem_of_mem_take y)).1;have D:(rows.take i).length<=2000:=by rw [zlt];omega
 have a:=aFZ m c;have d:=aFp (m:=m) c;have l:m.col=((m.col.toNat:Nat):Int):=by omega
 have j:m.by_=((m.by_.toNat:Nat):Int):=by omega
 have E:m.col.toNat<rows[i].length:=by omega
 have F:m.by_.toNat<rows[i].length:=by omega
 rw [hg] at a;have s:=getElem!_pos rows[i] m.col.toNat E;have u:=getElem!_pos rows[i] m.by_.toNat F;rw [u] at hg e;rw [s,u] at a;rw [s] at d H;clear s u;generalize mY m (rows.take i)=M at*;generalize sO m (rows.take i)=G at*;generalize jB m rows[i][m.by_.toNat].n (rows.take i)=T at*;have t1: -2199023255552000<=T:=by omega
 have t2:T<=2199023255552000:=by omega
 clear e;by_cases hk:rows[i][m.by_.toNat].kind=1
 ·rw [zp hk] at a
  (repeat' first|apply wD pk [15] [7];kernel_rfl;rfl;rfl|apply iX;(intro hw;exact (by first|exact l|exact j));(apply gE;omega);rfl|refine ⟨⟨i+1,by omega⟩, ?_, ?_⟩;((dsimp only;rw [a,d]))|show Cn (.t _ _);exact .any (cM (by (((simp only [St.pv,St.put,St.sst,St.setv,St.nil,St.var,eH]);(done)))))|apply wZ;rfl|show Cn _;constructor|exact rfl|apply lkD pk xI (f:=mU) (z:=0) (k:=rows[i][m.by_.toNat].n) (n:=T);(iterate 5 rfl);rotate_left;rfl;exact aA _ _ _;rfl;exact hg|apply muA pk xI (f:=mU) (k:=rows[i][m.by_.toNat].n) (v:=T+rows[i][m.col.toNat].n);(exact .inr rfl);(iterate 5 rfl);exact aA _ _ _;rfl|apply wI;rfl|apply gE;omega|omega|simp only [zql];omega|(intro h;simp at h)|intro h)
 ·rw [zn hk] at a
  (repeat' first|apply iX;(intro hw;exact (by first|exact l|exact j));(apply gE;omega);rfl|refine ⟨⟨i+1,by omega⟩, ?_, ?_⟩;((dsimp only;rw [a,d]))|show Cn (.t _ _);exact Cn.t0|apply wZ;rfl|show Cn _;constructor|exact rfl|apply wI;rfl|apply gE;omega|omega|simp only [zql];omega|(intro h;simp at h)|intro h)
theorem uK {α β:Type} (f:α->β):∀(l:List α) (i:Nat),(l.map f).eraseIdx i=(l.eraseIdx i).map f
 |[],_=>rfl
 |_::_,0=>rfl
 |a::l,i+1=>by simp only [zmp,List.eraseIdx_cons_succ,uK f l i]
theorem aAi (es:List (Int×Int)) (i:Nat):(aX Ie mU es).eraseIdx i=aX Ie mU (es.eraseIdx i):=by unfold aX;rw [uK]
theorem aHe {es:List (Int×Int)} {i:Nat} {e:Value×PV} (h:(aX Ie mU es)[i]?=some e):∃x,es[i]?=some x/\e=(Ie x.1,mU x.2):=by
 unfold aX at h;rw [List.getElem?_map] at h;cases hx:es[i]? with
 |none=>rw [hx] at h;cases h
 |some x=>rw [hx] at h;exact ⟨x,rfl,(Option.some.inj h).symm⟩
theorem axI {es:List (Int×Int)} (h:aX Ie mU es=[]):es=[]:=by cases es with
 |nil=>rfl
 |cons x l=>cases h
theorem agQ {α:Type} {p:α->Bool}:∀{l:List α} {i:Nat} {x:α},l[i]?=some x->l.all p=(p x&&(l.eraseIdx i).all p)
 |[],_,_,h=>by simp at h
 |a::l,0,x,h=>by simp at h;subst h;rfl
 |a::l,i+1,x,h=>by
  simp only [List.getElem?_cons_succ] at h
  rw [List.eraseIdx_cons_succ,List.all_cons,List.all_cons,agQ h]
  cases p a<;>cases p x<;>simp
theorem aGZ (x:Int) (g:G):Rep g (vi (x)) (Ie x):=by unfold Rep;rfl
theorem arE (t:Tb) (rows:List (List Vl)) (b:Bs) (hx:t.sums.length<1000000000000000) (hT:∀m∈t.sums,TotOK m rows):PF Tryz.prog 49 [.agg (oC t rows b)] (vi (if acI t rows=false then 11 else 0)):=by
 have u:(∀j (h:j<t.sums.length),(sO t.sums[j] rows&&(mY t.sums[j] rows).all λe=>decide (e.2<=t.sums[j].max))=true)->acI t rows=true:=λh=>by
  unfold acI
  rw [zal]
  intro m hm
  obtain ⟨j,hj,rfl⟩:=zgo hm
  rw [<-ayW (hT _ hm).ns];exact h j hj
 have f:∀j (h:j<t.sums.length),(sO t.sums[j] rows&&(mY t.sums[j] rows).all λe=>decide (e.2<=t.sums[j].max))=false->acI t rows=false:=λj hj h=>by
  unfold acI
  rw [<-Bool.not_eq_true,zal]
  intro q
  have:=q _ (zgm hj)
  rw [<-ayW (hT _ (zgm hj)).ns,h] at this;cases this
 generalize acI t rows=B at*;refine pF Tryz.func49 rfl (λst=> ?_)
 focus ((repeat' first|apply wZ;rfl|show Cn _;constructor))
 refine aC (X:={x:Nat//x<=t.sums.length/\∀j (h:j<t.sums.length),j<x->(sO t.sums[j] rows&&(mY t.sums[j] rows).all λe=>decide (e.2<=t.sums[j].max))=true}) (λi=>(((((St.nil 40 st).var 1 119 ((oC t rows b))).pv 11 (.seq (t.sums.map Su.cells))).pv 12 ((vi (((t.sums.map Su.cells).length:Nat))))).pv 13 ((vi ((i.1:Nat)))))) (λi=>t.sums.length-i.1) ⟨0,by omega,by omega⟩ ?_ (λi=> ?_)
 ·(repeat' first|show Cn _;constructor|exact rfl)
 obtain ⟨i,hi,F⟩:=i;dsimp only;by_cases H:t.sums.length<=i
 ·have e:B=true:=u λj hj=>F j hj (by omega)
  (repeat' first|apply wZ;rfl|show Cn _;constructor|exact rfl|show (_:PV)=_;(rw [e];rfl);done|simp only [zql];omega|(intro h;simp at h))
 have n:i<t.sums.length:=by omega
 have D:=yX t.sums[i] rows (hT _ (zgm n));have f:=f i n;have r:(sO t.sums[i] rows&&(mY t.sums[i] rows).all λe=>decide (e.2<=t.sums[i].max))=true->∀j (h:j<t.sums.length),j<i+1->(sO t.sums[j] rows&&(mY t.sums[j] rows).all λe=>decide (e.2<=t.sums[j].max))=true:=λh j hj z=>by
  rcases zls.1 z with q|q
  ·exact F j hj q
  ·subst q;exact h
 generalize mY t.sums[i] rows=M at*;generalize sO t.sums[i] rows=G at*
 focus ((repeat' first|(apply aEW pk;(iterate 5 rfl);intro E o)|apply wZ;rfl|show Cn _;constructor|exact rfl|(apply D)|apply wY;rfl|apply wI;rfl|apply gE;omega|simp only [zql];omega|(intro h;simp at h)))
 have c:st E=none:=o;clear o;refine aC (X:={x:List (Int×Int)×Bool×Option (Value×PV)//(G&&M.all λe=>decide (e.2<=t.sums[i].max))=(x.2.1&&x.1.all λe=>decide (e.2<=t.sums[i].max))}) (λy=>((((((((St.nil 40 (upd st E (some (.iter y.1.2.2 (aX Ie mU y.1.1))))).var 1 119 ((oC t rows b))).var 4 134 (t.sums[i].cells)).pv 6 ((vb (y.1.2.1)))).pv 11 (.seq (t.sums.map Su.cells))).pv 12 ((vi (((t.sums.map Su.cells).length:Nat))))).pv 13 ((vi ((i:Nat))))).pv 25 (.ref E 0))) (λy=>y.1.1.length) ⟨(M,G,none),rfl⟩ ?_ (λy=> ?_)
 ·(repeat' first|show Cn (.t _ _);exact Cn.t0|show Cn _;constructor|exact rfl)
 obtain ⟨⟨a,g,cur⟩,d⟩:=y;dsimp only at d;dsimp only;have k:aX Ie mU a=[]->g=true->∀j (h:j<t.sums.length),j<i+1->(sO t.sums[j] rows&&(mY t.sums[j] rows).all λe=>decide (e.2<=t.sums[j].max))=true:=λv w=>r (by
  obtain rfl:=axI v
  rw [d,w];rfl)
 have l:aX Ie mU a=[]->g=false->B=false:=λv w=>f (by
  obtain rfl:=axI v
  rw [d,w];rfl)
 have p:∀{j:Nat} {x:Int×Int},a[j]?=some x->(a.eraseIdx j).length<a.length:=fun {j x} hx=>by
  have:=(zge.1 hx).1
  rw [List.length_eraseIdx_of_lt this];omega
 have C:∀{j:Nat} {x:Int×Int},a[j]?=some x->(G&&M.all λe=>decide (e.2<=t.sums[i].max))=((g&&decide (x.2<=t.sums[i].max))&&(a.eraseIdx j).all λe=>decide (e.2<=t.sums[i].max)):=fun {j x} hx=>by
  rw [d,agQ hx,Bool.and_assoc]
 clear r f d
 (repeat' first|((exact Cn.any ⟨_,_,st,rfl,zwr _,(by first|exact pG c|exact rO c),(by rw [l ‹_› ‹_›];rfl),rfl⟩))|((refine ⟨⟨i+1,by omega,k ‹_› ‹_›⟩, ?_,by simp only;omega⟩);focus ((repeat' first|(show Cn (.s _ (St.nil _ _));refine .any ?_;exact Sub.nil _ _ _ (by first|exact rO c|exact pG c) rfl)|show Cn _;constructor|exact rfl);done))|((refine ⟨⟨(a.eraseIdx j,g&&decide (x.2<=t.sums[i].max),some (Ie x.1,mU x.2)),C hx⟩, ?_,by simp only;omega⟩);((dsimp only));focus ((repeat' first|show Cn (.t _ _);exact .any (cM (by (((simp only [St.pv,St.put,St.sst,St.setv,St.nil,St.var,eH]);(done)))))|show Cn _;constructor|exact rfl);done))|apply wZ;rfl|show Cn _;constructor|((apply aHW;rfl;exact aA _ _ _;rfl;rfl;rfl;intro A;rotate_left;intro j e I;obtain ⟨x,hx,rfl⟩:=aHe I;rw [aAi];have J:=p hx;rotate_left))|apply aEh;rfl;rfl;exact aA _ _ _;exact aGZ x.1;rotate_left;rfl;rfl|omega|intro h)
end
end Go.Proofs.YtfablfldonhkiaaGreatDoor
namespace Go.Proofs.YtfablfldonhkiaaGreatDoor
open Go Go.Abs
attribute [local irreducible] Ev PWp
namespace X
set_option maxRecDepth 10000
set_option maxHeartbeats 4000000
theorem auA (c:Co):PF Tryz.prog 167 [.agg c.cells] (vi (eB c)):=by
 unfold eB;refine pF Tryz.func167 rfl (λst=> ?_)
 (repeat' first|apply wZ;rfl|show Cn _;constructor|exact rfl|show (_:PV)=_;((simp [*];done));done|omega|intro h)
theorem Right_spec {e:Ex} (m:e.ok) (cols:List Co) (hl:cols.length<10000000000):PF Tryz.prog 108 [.agg e.cells, .seq (cols.map Co.cells)] (vi (RightR e (cols.map eB))):=by
 have hT:=azG m (l:=cols.map eB) (by rw [zql];omega);have c:RightR e (cols.map eB)=if (lA e (cols.map eB)).2=0 then (if (lA e (cols.map eB)).1=2 then 6 else 0) else (lA e (cols.map eB)).2:=rfl
 generalize lA e (cols.map eB)=T at*;generalize RightR e (cols.map eB)=R at*;unfold kV at hT;obtain ⟨k,n,v,of⟩:=e;obtain ⟨q,T2⟩:=T;dsimp only at*;refine pF Tryz.func108 rfl (λst=> ?_)
 focus ((repeat' first|apply wZ;rfl|show Cn _;constructor))
 refine aaW 5 3 rfl rfl (λid a=> ?_);have a:st id=none:=a;refine aC (X:={x:Nat×Nat//x.1<=cols.length/\st x.2=none}) (λi=>((((((St.nil 35 (upd st i.1.2 (some (.tok 3)))).var 2 129 ((Ex.mk k n v of).cells)).pv 5 (.own i.1.2 (((cols.take i.1.1).map eB).map I1))).pv 10 (.seq (cols.map Co.cells))).pv 11 ((vi ((((cols.map Co.cells)).length:Nat))))).pv 12 ((vi ((i.1.1:Nat)))))) (λi=>cols.length-i.1.1) ⟨(0,id),by simp,a⟩ ?_ (λi=> ?_)
 ·(repeat' first|show Cn (.t _ _);exact Cn.t0|show Cn _;constructor|exact rfl)
 obtain ⟨⟨i,id⟩,hi,a⟩:=i;simp only at hi a;dsimp only;by_cases d:cols.length<=i
 ·rw [ztl d]
  by_cases h0:T2=0<;>by_cases p:q=2
  ·rw [zp h0,zp p] at c
   subst c
   (repeat' first|(apply cV;focus ((apply hT);done))|show Cn (.e _ _ _ _);refine .any ?_;((refine ⟨_,_,_,rfl,zwr _,cU ‹_›, ?_,rfl⟩;(rfl)))|apply wZ;rfl|show Cn _;constructor|apply wY;rfl|simp only [zql];omega|intro h;simp at h;omega|(intro h;simp at h))
  ·rw [zp h0,zn p] at c
   subst c;subst h0
   (repeat' first|(apply cV;focus ((apply hT);done))|show Cn (.e _ _ _ _);refine .any ?_;((refine ⟨_,_,_,rfl,zwr _,cU ‹_›, ?_,rfl⟩;(rfl)))|apply wZ;rfl|show Cn _;constructor|apply wY;rfl|omega|simp only [zql];omega|(intro h;simp at h)|intro h)
  ·rw [zn h0] at c
   subst c
   (repeat' first|(apply cV;focus ((apply hT);done))|show Cn (.e _ _ _ _);refine .any ?_;((refine ⟨_,_,_,rfl,zwr _,cU ‹_›, ?_,rfl⟩;(rfl)))|apply wZ;rfl|show Cn _;constructor|apply wY;rfl|simp only [zql];omega|intro h;simp at h;omega|(intro h;simp at h))
  ·rw [zn h0] at c
   subst c
   (repeat' first|(apply cV;focus ((apply hT);done))|show Cn (.e _ _ _ _);refine .any ?_;((refine ⟨_,_,_,rfl,zwr _,cU ‹_›, ?_,rfl⟩;(rfl)))|apply wZ;rfl|show Cn _;constructor|apply wY;rfl|simp only [zql];omega|intro h;simp at h;omega|(intro h;simp at h))
 have j:i<cols.length:=by omega
 have hs:=auA cols[i];have g:((cols.take (i+1)).map eB).map I1=((cols.take i).map eB).map I1++[I1 (eB cols[i])]:=by rw [List.take_succ_eq_append_getElem j,List.map_append,List.map_append];rfl
 have r:((cols.take i).map eB).length<=i:=by rw [zql];exact List.length_take_le ..
 generalize eB cols[i]=K at*
 (repeat' first|refine ⟨⟨(i+1,o),by simp only;omega,jG f⟩, ?_, ?_⟩;((dsimp only;rw [g]))|show Cn (.t _ _);exact .any (bR ‹_›)|apply wZ;rfl|show Cn _;constructor|exact rfl|(apply hs)|show _=_;((simp [I1];done))|(apply apS pk (K) 8;(iterate 8 rfl);exact aA _ _ _;exact λ_=>rfl;exact λ_=>rfl;exact lR;(omega);(omega);rfl;intro o f)|apply wY;rfl|apply wI;rfl|apply gE;omega|omega|simp only [zql];omega|(intro h;simp at h))
end X
theorem anW (s:Sc) (hl:s.length<200000000000000) (A:∀t∈s,TbB t) (hT:∀t∈s,vE t) (hc:∀t∈s,t.cols.length<10000000000):PF Tryz.prog 67 [.agg (scC s)] (vi (rightC s)):=by
 have z:=yV s hl A;by_cases h0:¬cE s=0
 ·have e:rightC s=cE s:=by unfold rightC;rw [zn h0]
  rw [e];generalize cE s=R at*;refine pF Tryz.func67 rfl (λst=> ?_)
  (repeat' first|apply wZ;rfl|show Cn _;constructor|exact rfl|(apply z)|apply wY;rfl|omega|intro h)
 replace h0:=zdn h0
 have e:rightC s=eJ rightX s:=by unfold rightC;rw [zp h0]
 rw [e];rw [h0] at z;clear e h0;refine pF Tryz.func67 rfl (λst=> ?_)
 focus ((repeat' first|apply wZ;rfl|show Cn _;constructor|(apply z)|apply wY;rfl))
 refine aC (X:={x:Nat//x<=s.length/\∀j (h:j<s.length),j<x->rightX s[j]=0}) (λi=>((((St.nil 37 st).pv 15 (.seq (s.map Tb.cells))).pv 16 ((vi (((s.map Tb.cells).length:Nat))))).pv 17 ((vi ((i.1:Nat)))))) (λi=>s.length-i.1) ⟨0,by omega,by omega⟩ ?_ (λi=> ?_)
 ·(repeat' first|show Cn _;constructor|exact rfl)
 obtain ⟨i,hi,o⟩:=i;dsimp only;by_cases C:s.length<=i
 ·have e:eJ rightX s=0:=oG λj hj=>o j hj (by omega)
  (repeat' first|apply wZ;rfl|show Cn _;constructor|exact rfl|show (_:PV)=_;(rw [e]);done|simp only [zql];omega|(intro h;simp at h))
 have a:i<s.length:=by omega
 have hk:=hT _ (zgm a);have r:=hc _ (zgm a);have E:=(A _ (zgm a)).k;have e:=uX o a;have hu:=uQ o a
 focus ((repeat' first|apply wZ;rfl|show Cn _;constructor|exact rfl|apply wI;rfl|apply gE;omega|simp only [zql];omega|(intro h;simp at h)))
 refine aC (X:={x:Nat//x<=s[i].checks.length/\∀j (h:j<s[i].checks.length),j<x->X.RightR (exOf s[i].checks[j]) (s[i].cols.map eB)=0}) (λy=>((((((((St.nil 37 st).var 5 58 (s[i].cells)).pv 15 (.seq (s.map Tb.cells))).pv 16 ((vi (((s.map Tb.cells).length:Nat))))).pv 17 ((vi ((i:Nat))))).pv 22 (.seq s[i].checks)).pv 23 ((vi ((s[i].checks.length:Nat))))).pv 24 ((vi ((y.1:Nat)))))) (λy=>s[i].checks.length-y.1) ⟨0,by omega,by omega⟩ ?_ (λy=> ?_)
 ·(repeat' first|show Cn _;constructor|exact rfl)
 obtain ⟨y,hy,l⟩:=y;dsimp only;by_cases v:s[i].checks.length<=y
 ·have D:rightX s[i]=0:=oG λj hj=>l j hj (by omega)
  (repeat' first|(refine ⟨⟨i+1,by omega,hu D⟩, ?_, ?_⟩)|apply wZ;rfl|show Cn _;constructor|exact rfl|omega|simp only [zql];omega|(intro h;simp at h))
 have d:y<s[i].checks.length:=by omega
 obtain ⟨w,q⟩:=akL (hk _ (zgm d));have u:=uX (f:=λc=>X.RightR (exOf c) (s[i].cols.map eB)) l d;have n:=uQ (f:=λc=>X.RightR (exOf c) (s[i].cols.map eB)) l d;change X.RightR (exOf s[i].checks[y]) (s[i].cols.map eB)≠0->rightX s[i]=X.RightR (exOf s[i].checks[y]) (s[i].cols.map eB) at u;change X.RightR (exOf s[i].checks[y]) (s[i].cols.map eB)=0->_ at n;have B:=X.Right_spec w s[i].cols r;have g:s[i].checks[y]?=some (exOf s[i].checks[y]).cells:=by rw [q,zgg d]
 generalize X.RightR (exOf s[i].checks[y]) (s[i].cols.map eB)=p at*;generalize exOf s[i].checks[y]=x at*;obtain ⟨F,G,I,H⟩:=x;by_cases hp:p=0
 ·(repeat' first|(refine ⟨⟨y+1,by omega,n hp⟩, ?_, ?_⟩)|apply wZ;rfl|show Cn _;constructor|exact rfl|apply dM pk;(iterate 6 rfl);rotate_left;rfl;(intro hw;rfl);(intro hw;apply g<;>omega);(intro _;rfl);rfl|(apply B)|apply wY;rfl|omega|simp only [zql];omega|(intro h;simp at h)|intro h)
 ·have m:eJ rightX s=p:=by rw [e (by rw [u hp];exact hp),u hp]
  (repeat' first|apply wZ;rfl|show Cn _;constructor|exact rfl|apply dM pk;(iterate 6 rfl);rotate_left;rfl;(intro hw;rfl);(intro hw;apply g<;>omega);(intro _;rfl);rfl|(apply B)|show (_:PV)=_;(rw [m]);done|apply wY;rfl|omega|(intro h;simp at h)|intro h)
end Go.Proofs.YtfablfldonhkiaaGreatDoor
namespace Go.Proofs.YtfablfldonhkiaaGreatDoor
open Go Go.Abs
attribute [local irreducible] Ev PWp
set_option maxRecDepth 10000
set_option maxHeartbeats 4000000
def dI (xs:List Vl) (i:Nat) (a:List Vl):List Vl:=xs.take i++a++xs.drop i
theorem aoN (xs:List Vl) (i:Nat) (a:List Vl):(dI xs i a).map Vl.cells=(xs.map Vl.cells).take i++a.map Vl.cells++(xs.map Vl.cells).drop i:=by
 unfold dI;rw [List.map_append,List.map_append,List.map_take,List.map_drop]
theorem zU {xs:List Vl} {i:Nat} {a:List Vl} (hi:i<=xs.length):(dI xs i a).length=xs.length+a.length:=by
 unfold dI;simp only [zla,zlt,zld];omega
def aJE (st:aD) (id:Nat) (zs:List Vl) (r:PV) (S:aD):Prop:=∃a,r= .vec a 3 0 zs.length/\upd st id none a=none/\S=upd (upd st id none) a (some (.arr 63 (zs.map Vl.cells)))
theorem amV (xs g:List Vl) (i id n:Nat) (st:aD) (O:st id=some (.arr 63 (xs.map Vl.cells))) (hn:xs.length=n) (hi:i<=n) (hy:g≠[]) (hl:n+g.length<1000000000000):PC Tryz.prog 199 [.vec id 3 0 n,(vi ((i:Nat))), .seq (g.map Vl.cells)] st (aJE st id (dI xs i g)):=by
 obtain ⟨m,hm⟩:∃m,g.length=m:=⟨_,rfl⟩;have u:(g.map Vl.cells).length=m:=(zql _).trans hm;have V:0<m:=by rw [<-hm];exact List.length_pos_iff.2 hy
 rw [hm] at hl;have x:(dI xs i g).length=n+m:=by rw [zU (by omega),hn,hm]
 have G:=aoN xs i g;have R:=ayR;refine pC Tryz.func199 rfl ?_;by_cases N:i=n
 ·subst N
  have hz:dI xs i g=xs++g:=by unfold dI;rw [ztl (by omega),List.drop_of_length_le (by omega),List.append_nil]
  (repeat' first|show Cn (.r _ _ _);refine .rr ?_;(exact ⟨Q,(by rw [x,hm]),jU F,(by rw [hz];rfl)⟩);done|apply wZ;rfl|show Cn _;constructor|(apply apV pk (f:=Vl.cells) g 32;(iterate 9 rfl);(assumption);(omega);exact λ_=>rfl;exact λ_=>rfl;exact R;(omega);(omega);rfl;intro Q F)|apply ayA pk i i;(iterate 4 rfl);rotate_left;rfl;(intro _;exact aL rfl rfl);(intro _;exact aZ);(intro _;omega);(intro _;omega);rfl|omega|(intro h;simp at h))
 have U:i<n:=by omega
 have s:(xs.map Vl.cells).length=n:=(zql _).trans hn;have y:∀r∈xs.map Vl.cells,r.all PV.one=true:=λr q=>by obtain ⟨a,_,rfl⟩:=List.mem_map.1 q;rfl
 have A:∀r∈xs.map Vl.cells,r.length=3:=λr q=>by obtain ⟨a,_,rfl⟩:=List.mem_map.1 q;rfl
 have C:∀r∈g.map Vl.cells,r.all PV.one=true:=λr q=>by obtain ⟨a,_,rfl⟩:=List.mem_map.1 q;rfl
 have p:∀r∈g.map Vl.cells,r.length=3:=λr q=>by obtain ⟨a,_,rfl⟩:=List.mem_map.1 q;rfl
 have hj:∀k,(xs.map Vl.cells++aW k 3).length=n+k:=λk=>by rw [zla,s];unfold aW;rw [List.length_replicate]
 generalize S:xs.map Vl.cells=X at*;generalize T:g.map Vl.cells=Y at*;have J:Y≠[]:=λe=>by rw [e] at u;simp at u;omega
 obtain ⟨yc,Z,yr,I⟩:∃c cs H,Y=(c::cs)::H:=by
  cases B:Y with
  |nil=>exact absurd B J
  |cons a b=>
   cases ha:a with
   |nil=>have:=p a (by rw [B];simp);rw [ha] at this;cases this
   |cons c cs=>exact ⟨c,cs,b,rfl⟩
 refine uW 0 m (id:=id) (rows:=X) rfl O vZ s (by omega) (by omega) (λk o hk d=> ?_) (λo d=> ?_)
 ·have d:st o=none:=d
  have P:(X++aW k 3).take i=X.take i:=List.take_append_of_le_length (by omega);have M:(X.take i++aW (n+m-i) 3).length=n+m:=by rw [zla,zlt];unfold aW;rw [List.length_replicate];omega
  have L:(aT (X.take i++aW (n+m-i) 3) i Y).length=n+m:=by rw [dP (by omega),M]
  have v:aT (aT (X.take i++aW (n+m-i) 3) i Y) (i+m) (X.drop i)=(dI xs i g).map Vl.cells:=by rw [G];rw [<-s];exact vG u (by omega)
  (repeat' first|(refine Cn.any ⟨_,_,upd (upd st id none) id2 (some (.arr 63 ((dI xs i g).map Vl.cells))),rfl,zwr _,oO (by rw [v]) d,id2,(by rw [x];congr 1;omega),mO l,rfl⟩)|apply wD pk [8] [];kernel_rfl;rfl;rfl|apply wZ;rfl|show Cn _;constructor|(refine alS pk (rows:=X++aW k 3) rfl rfl rfl rfl (.inr (aA _ _ _)) (by rw [hj];omega) rfl (λc D E=> ?_);have K:=E (aA _ _ _);rw [hj] at K)|apply zQ pk (j:=i) (rows:=X++aW k 3);(iterate 4 rfl);rotate_left;rfl;rfl;exact .inr (aA _ _ _);(rw [hj];omega);exact aL rfl rfl;(rw [hj];omega)|(refine apZ pk (kq:= .i64) (kn:= .i64) (i:=i) (m:=n+m-i) (sz:=3) (rows:=X++aW k 3) 32 rfl (congrArg (λz=>some (PV.val (.int .i64 z))) (show _=((n+m-i:Nat):Int) from by omega)) rfl (by kernel_rfl) rfl rfl rfl rfl (aA _ _ _) (by rw [hj];omega) (by rw [hj];omega) (by rw [hj];omega) R (by omega) (by omega) (by omega) rfl (λid2 l=> ?_);rw [P];have W:o≠id2:=(λe=>by rw [<-e] at l;have l:=(aA _ _ _).symm.trans l;cases l))|apply eP pk (i) (n+m-i);(iterate 4 rfl);rotate_left;rfl;(intro _;exact ⟨_,aL rfl rfl,by omega⟩);(intro _;exact ⟨_,aZ,by omega⟩);(intro _;omega);(intro _;omega);rfl|apply eP pk (i+m) (n-i);(iterate 4 rfl);rotate_left;rfl;(intro _;exact ⟨_,aL rfl (show _=((i+m:Nat):Int) from by omega),by omega⟩);(intro _;exact ⟨_,aZ,by omega⟩);(intro _;omega);(intro _;omega);rfl|apply eP pk (i) (n-i);(iterate 4 rfl);rotate_left;rfl;(intro _;exact ⟨_,aL rfl rfl,by omega⟩);(intro _;exact ⟨_,aZ,by omega⟩);(intro _;omega);(intro _;omega);rfl|(refine kJ pk (e:=63) (sz:=3) (rows:=X.take i++aW (n+m-i) 3) (new:=Y) (m:=Y.length) (n:=Y.length) (len:=n+m-i) rfl rfl rfl rfl rfl (aA _ _ _) (by omega) (rK aS rfl rfl rfl p C) rfl p (by omega) (by omega) rfl ?_)|(refine kJ pk (e:=63) (sz:=3) (rows:=aT (X.take i++aW (n+m-i) 3) i Y) (new:=X.drop i) (m:=n-i) (n:=n-i) (len:=n-i) rfl rfl rfl rfl rfl (aA _ _ _) (by omega) (mN (k:=k) rfl (.inr ((aB ‹_›).trans ((aB ‹_›).trans (aA _ _ _)))) s (by omega) vZ y (by omega) (by omega)) (by rw [zld];omega) (λr q=>A r (List.mem_of_mem_drop q)) (by omega) (by omega) rfl ?_)|omega|(intro h;simp at h)|intro h)
 ·have d:st o=none:=d
  have L:(aT (X++aW m 3) (i+m) (X.drop i)).length=n+m:=by rw [dP (by rw [zld,hj];omega),hj]
  have v:aT (aT (X++aW m 3) (i+m) (X.drop i)) i Y=(dI xs i g).map Vl.cells:=by rw [G];exact vY u (by omega)
  (repeat' first|(refine Cn.any ⟨_,_,upd (upd st id none) o (some (.arr 63 ((dI xs i g).map Vl.cells))),rfl,zwr _,oN (by rw [v]),o,(by rw [x]),jU d,rfl⟩)|apply wD pk [8] [];kernel_rfl;rfl;rfl|apply wZ;rfl|show Cn _;constructor|apply eP pk (i) (n-i);(iterate 4 rfl);rotate_left;rfl;(intro _;exact ⟨_,aL rfl rfl,by omega⟩);(intro _;exact ⟨_,aZ,by omega⟩);(intro _;omega);(intro _;omega);rfl|apply eP pk (i) (n+m-i);(iterate 4 rfl);rotate_left;rfl;(intro _;exact ⟨_,aL rfl rfl,by omega⟩);(intro _;exact ⟨_,aZ,by omega⟩);(intro _;omega);(intro _;omega);rfl|apply eP pk (i+m) (n-i);(iterate 4 rfl);rotate_left;rfl;(intro _;exact ⟨_,aL rfl (show _=((i+m:Nat):Int) from by omega),by omega⟩);(intro _;exact ⟨_,aZ,by omega⟩);(intro _;omega);(intro _;omega);rfl|(refine alS pk (rows:=X++aW m 3) rfl rfl rfl rfl (.inl (aA _ _ _)) (by rw [hj];omega) rfl (λc D E=> ?_);rw [hj] at D)|apply zQ pk (j:=n+m) (rows:=X++aW m 3);(iterate 4 rfl);rotate_left;rfl;rfl;exact .inl (aA _ _ _);(rw [hj];omega);exact aL rfl (show _=((n+m:Nat):Int) from by omega);(rw [hj];omega)|(refine ovA pk (w:=true) (tS:=59) (tR:=4) (off:=i+m) (len:=n-i) (e:=63) (sz:=3) (rows:=X++aW m 3) rfl rfl Tryz.func257 (by kernel_rfl) (by kernel_rfl) (by kernel_rfl) (by kernel_rfl) rfl rfl rfl I rfl (.inl (aA _ _ _)) (by rw [hj];omega) vZ (by omega) ?_ rfl rfl ?_;rotate_left)|(refine kJ pk (e:=63) (sz:=3) (rows:=X++aW m 3) (new:=X.drop i) (m:=n+m-i) (n:=n-i) (len:=n-i) rfl rfl rfl rfl rfl (aA _ _ _) (by rw [hj];omega) (mN (k:=m) rfl (.inl (aA _ _ _)) s (by omega) vZ y (by omega) (by omega)) (by rw [zld];omega) (λr q=>A r (List.mem_of_mem_drop q)) (by omega) (by omega) rfl ?_)|(refine kJ pk (e:=63) (sz:=3) (rows:=aT (X++aW m 3) (i+m) (X.drop i)) (new:=Y) (m:=Y.length) (n:=Y.length) (len:=n+m-i) rfl rfl rfl rfl rfl (aA _ _ _) (by omega) (rK aS rfl rfl rfl p C) rfl p (by omega) (by omega) rfl ?_)|omega|(intro h;simp at h)|intro h)
def cX (a b:Vl):Bool:=if a.kind≠b.kind then decide (a.kind<b.kind) else if a.n≠b.n then decide (a.n<b.n) else Op.bytesLess a.s.toList b.s.toList
def vO (a b:Vl):Bool:= !cX a b&& !cX b a
theorem tM (a b:Vl):PF Tryz.prog 197 [.agg a.cells, .agg b.cells] (vb (cX a b)):=by
 unfold cX;refine pF Tryz.func197 rfl (λst=> ?_)
 (repeat' first|apply wZ;rfl|show Cn _;constructor|exact rfl|show (_:PV)=_;(simp [*];done);done|intro h)
theorem asX (a b:Vl):PF Tryz.prog 198 [.agg a.cells, .agg b.cells] (vb (vO a b)):=by
 have c:=tM a b;have d:=tM b a;unfold vO;refine pF Tryz.func198 rfl (λst=> ?_)
 (repeat' first|apply wZ;rfl|show Cn _;constructor|exact rfl|((first|apply c|apply d))|apply wY;rfl)
def atV (o:List Vl) (v:Vl):Nat:=(o.findIdx? λx=> !cX x v).getD o.length
def aaH (o:List Vl) (v:Vl):List Vl:=if atV o v<o.length/\vO o[atV o v]! v=true then o else dI o (atV o v) [v]
def fQ (l:List Pt):List Vl:=l.foldl (λo p=>aaH o p.val) []
theorem aEb (o:List Vl) (v:Vl):atV o v<=o.length:=by
 unfold atV;cases h:o.findIdx? λx=> !cX x v with
 |none=>exact Nat.le_refl _
 |some k=>exact Nat.le_of_lt (List.findIdx?_eq_some_iff_getElem.1 h).1
theorem aCA {o:List Vl} {v:Vl} {a:Nat} (ha:a<=o.length) (c:∀j (h:j<o.length),j<a->cX o[j] v=true) (d:∀h:a<o.length,cX o[a] v=false):atV o v=a:=by
 unfold atV;rcases Nat.lt_or_ge a o.length with h|h
 ·rw [List.findIdx?_eq_some_iff_getElem.2 ⟨h,by rw [d h];rfl,λj hj=>by rw [c j (by omega) hj];simp⟩];rfl
 ·rw [List.findIdx?_eq_none_iff.2 λx hx=>by
   obtain ⟨j,hj,rfl⟩:=zgo hx;rw [c j hj (by omega)];rfl]
  show o.length=a;omega
theorem aEL (o:List Vl) (v:Vl):(aaH o v).length<=o.length+1:=by
 unfold aaH;split
 ·omega
 ·rw [zU (aEb o v)];exact Nat.le_refl _
theorem ajZ {l:List Pt} {i:Nat} (h:i<l.length):fQ (l.take (i+1))=aaH (fQ (l.take i)) l[i].val:=by
 unfold fQ;rw [List.take_succ_eq_append_getElem h,List.foldl_append];rfl
theorem aqE (l:List Pt):(fQ l).length<=l.length:=by
 have key:∀i,i<=l.length->(fQ (l.take i)).length<=i:=by
  intro i
  induction i with
  |zero=>intro _;simp [fQ]
  |succ i ih=>
   intro h;rw [ajZ (by omega)];have:=aEL (fQ (l.take i)) l[i].val;have:=ih (by omega);omega
 have:=key l.length (Nat.le_refl _);rwa [List.take_length] at this
theorem aFR (c:Cl) (hl:c.parts.length<1000000000) (st:aD):PC Tryz.prog 121 [.agg c.cells] st λr S=>∃id,r= .vec id 3 0 (fQ c.parts).length/\st id=none/\S=upd st id (some (.arr 63 ((fQ c.parts).map Vl.cells))):=by
 refine pC Tryz.func121 rfl ?_
 focus ((repeat' first|apply wZ;rfl|show Cn _;constructor))
 refine fG 3 63 3 rfl rfl rfl (λid k=> ?_);refine aC (X:={x:Nat×Nat×List Vl//x.1<=c.parts.length/\st x.2.1=none/\x.2.2=fQ (c.parts.take x.1)}) (λi=>(((((St.nil 51 (upd st i.1.2.1 (some (.arr 63 (i.1.2.2.map Vl.cells))))).pv 3 (.vec i.1.2.1 3 0 i.1.2.2.length)).pv 8 (.seq (c.parts.map Pt.cells))).pv 9 ((vi (((c.parts.map Pt.cells).length:Nat))))).pv 10 ((vi ((i.1.1:Nat)))))) (λi=>c.parts.length-i.1.1) ⟨(0,id,[]),by simp,k,rfl⟩ ?_ (λi=> ?_)
 ·dsimp only
  (repeat' first|show Cn (.t _ _);exact Cn.t0|show Cn _;constructor|exact rfl)
 obtain ⟨⟨i,id,o⟩,hi,k,ho⟩:=i;simp only at hi k ho;dsimp only;have E:o.length<=i:=by rw [ho];have:=aqE (c.parts.take i);rw [zlt] at this;omega
 by_cases n:c.parts.length<=i;have e:o=fQ c.parts:=by rw [ho,ztl n]
 subst e
 focus ((repeat' first|show Cn (.r _ _ _);refine .rr ?_;(exact ⟨id,rfl,k,rfl⟩);done|apply wZ;rfl|show Cn _;constructor|simp only [zql];omega|(intro h;simp at h)))
 have B:i<c.parts.length:=by omega
 have hu:=ajZ B;rw [<-ho] at hu
 focus ((repeat' first|apply wZ;rfl|show Cn _;constructor|exact rfl|apply wI;rfl|apply gE;omega|simp only [zql];omega|(intro h;simp at h)))
 refine aC (X:={x:Nat//x<=o.length/\∀j (h:j<o.length),j<x->cX o[j] c.parts[i].val=true}) (λy=>(((((((St.nil 51 (upd st id (some (.arr 63 (o.map Vl.cells))))).pv 3 (.vec id 3 0 o.length)).var 5 149 (c.parts[i].cells)).pv 6 ((vi ((y.1:Nat))))).pv 8 (.seq (c.parts.map Pt.cells))).pv 9 ((vi (((c.parts.map Pt.cells).length:Nat))))).pv 10 ((vi ((i:Nat)))))) (λy=>o.length-y.1) ⟨0,by omega,by omega⟩ ?_ (λy=> ?_)
 ·(repeat' first|show Cn (.t _ _);exact Cn.t0|show Cn _;constructor|exact rfl)
 obtain ⟨a,ha,w⟩:=y;dsimp only;by_cases l:a<o.length;have p:o.toArray[a]! =o[a]:=by rw [getElem!_pos o.toArray a (by simpa using l)];simp
 have d:=tM o.toArray[a]! c.parts[i].val;have g:=asX o.toArray[a]! c.parts[i].val;have D:cX o[a] c.parts[i].val=true->∀j (h:j<o.length),j<a+1->cX o[j] c.parts[i].val=true:=λh j hj C=>by
  rcases zls.1 C with q|q
  ·exact w j hj q
  ·subst q;exact h
 have A:=λh:cX o[a] c.parts[i].val=false=>aCA (v:=c.parts[i].val) ha w λ_=>h;have f:aaH o c.parts[i].val=if atV o c.parts[i].val<o.length/\vO o[atV o c.parts[i].val]! c.parts[i].val=true then o else dI o (atV o c.parts[i].val) [c.parts[i].val]:=rfl
 cases s:cX o[a] c.parts[i].val with
 |true=>
  rw [show cX o.toArray[a]! c.parts[i].val=true from by rw [p];exact s] at d;have z:=D s
  (repeat' first|apply wDx pk;rfl;kernel_rfl;rfl;rfl|(apply Cn.cf;focus ((apply d);done))|(refine ⟨⟨a+1,by omega,z⟩, ?_, ?_⟩)|show Cn (.t _ _);exact Cn.t0|apply wZ;rfl|show Cn _;constructor|exact rfl|apply ixA pk;(iterate 5 rfl);rotate_left;rfl;(intro hw;(exact (show _=((a:Nat):Int) from by omega)));(intro hw;(omega));rfl;(exact Nat.zero_add _)|apply ldA pk Vl.elem;rfl;rfl;rotate_left;rfl;(exact aA _ _ _);(intro hw;(omega));rfl|apply wY;rfl|omega|simp only [zql];omega|intro h;simp at h;omega|(intro h;simp at h))
 |false=>
  rw [show cX o.toArray[a]! c.parts[i].val=false from by rw [p];exact s] at d;rw [A s,getElem!_pos o a l] at f;cases u:vO o[a] c.parts[i].val with
  |true=>
   rw [show vO o.toArray[a]! c.parts[i].val=true from by rw [p];exact u] at g;rw [u] at f;rw [zp ⟨l,rfl⟩] at f;rw [f] at hu;have m:o=fQ (c.parts.take (i+1)):=hu.symm
   (repeat' first|apply wDx pk;rfl;kernel_rfl;rfl;rfl|(apply Cn.cf;focus (((first|apply d|apply g));done))|(refine ⟨⟨(i+1,id,o),by simp only;omega,k,m⟩, ?_, ?_⟩)|show Cn (.t _ _);exact Cn.t0|apply wZ;rfl|show Cn _;constructor|exact rfl|apply ixA pk;(iterate 5 rfl);rotate_left;rfl;(intro hw;(exact (show _=((a:Nat):Int) from by omega)));(intro hw;(omega));rfl;(exact Nat.zero_add _)|apply ldA pk Vl.elem;rfl;rfl;rotate_left;rfl;(exact aA _ _ _);(intro hw;(omega));rfl|apply wY;rfl|omega|simp only [zql];omega|intro h;simp at h;done|intro h;simp at h;omega|(intro h;simp at h))
  |false=>
   rw [show vO o.toArray[a]! c.parts[i].val=false from by rw [p];exact u] at g;rw [u] at f;rw [zn (by simp)] at f;rw [f] at hu;have m:dI o a [c.parts[i].val]=fQ (c.parts.take (i+1)):=hu.symm
   (repeat' first|apply wDx pk;rfl;kernel_rfl;rfl;rfl|(apply Cn.cf;focus (((first|apply d|apply g));done))|(apply cP;rfl;(apply (amV o [c.parts[i].val] a id o.length _ (aA _ _ _) rfl (by omega) (by simp) (by simp;omega)));rintro _ st' (⟨id2,rfl,hid2,rfl⟩))|(refine ⟨⟨(i+1,id2,dI o a [c.parts[i].val]),by simp only;omega,iG k hid2,m⟩, ?_, ?_⟩)|show Cn (.t _ _);exact .any (bR ‹_›)|apply wZ;rfl|show Cn _;constructor|exact rfl|apply ixA pk;(iterate 5 rfl);rotate_left;rfl;(intro hw;(exact (show _=((a:Nat):Int) from by omega)));(intro hw;(omega));rfl;(exact Nat.zero_add _)|apply ldA pk Vl.elem;rfl;rfl;rotate_left;rfl;(exact aA _ _ _);(intro hw;(omega));rfl|apply wY;rfl|omega|simp only [zql];omega|intro h;simp at h;done|(intro h;simp at h))
 have f:aaH o c.parts[i].val=dI o a [c.parts[i].val]:=by
  unfold aaH;rw [aCA (v:=c.parts[i].val) ha w λh=>absurd h l,zn (by simp [l])]
 rw [f] at hu;have m:dI o a [c.parts[i].val]=fQ (c.parts.take (i+1)):=hu.symm;obtain rfl:a=o.length:=by omega
 (repeat' first|apply wDx pk;rfl;kernel_rfl;rfl;rfl|(apply cW;focus (intro _;(apply (show PF Tryz.prog 197 [_,_] (vb (false)) from by rename_i hh;simp [gw] at hh));done))|(apply cW;focus (intro _;(apply (show PF Tryz.prog 198 [_,_] (vb (false)) from by rename_i hh;simp [gw] at hh));done))|(apply cP;rfl;(apply (amV o [c.parts[i].val] o.length id o.length _ (aA _ _ _) rfl (by omega) (by simp) (by simp;omega)));rintro _ st' (⟨id2,rfl,hid2,rfl⟩))|(refine ⟨⟨(i+1,id2,dI o o.length [c.parts[i].val]),by simp only;omega,iG k hid2,m⟩, ?_, ?_⟩)|show Cn (.t _ _);exact .any (bR ‹_›)|apply wZ;rfl|show Cn _;constructor|exact rfl|apply ixA pk;(iterate 5 rfl);rotate_left;rfl;(intro hw;(exact (show _=((o.length:Nat):Int) from by omega)));(intro hw;((focus (simp [gw] at hw;done))));rfl;(exact Nat.zero_add _)|apply ldA pk Vl.elem;rfl;rfl;rotate_left;rfl;(exact aA _ _ _);(intro hw;((focus (simp [gw] at hw;done))));rfl|apply wY;rfl|omega|simp only [zql];omega|intro h;simp at h;done|(intro h;simp at h))
end Go.Proofs.YtfablfldonhkiaaGreatDoor
