import Derived.Test.YtfablfldonhkiaaGreatDoorClAi
import Derived.Test.YtfablfldonhkiaaGreatDoorClAg
import Derived.Test.YtfablfldonhkiaaGreatDoorAbsG
import Derived.Test.YtfablfldonhkiaaGreatDoorClAh
import Derived.Test.YtfablfldonhkiaaGreatDoorClAd
import Derived.Test.YtfablfldonhkiaaGreatDoorClAa
set_option linter.unusedSimpArgs false
set_option linter.unusedVariables false
namespace Go.Proofs.YtfablfldonhkiaaGreatDoor
open Go Go.Abs
section
attribute [local irreducible] Ev PWp
set_option maxRecDepth 10000
set_option maxHeartbeats 4000000
variable (t:Tb) (rows:List (List Vl)) (b:Bs)
theorem amD (hl:rows.length<1000000000000000) (hx:t.checks.length<1000000000000000) (hk:tN t) (hr:∀r∈rows,X.rowOK r):PF Tryz.prog 47 [.agg (nD t rows b)] (vi (dZ (exR t) rows)):=by
 refine pF Tryz.func47 rfl (λst=> ?_)
 focus ((repeat' first|apply wZ;rfl|show Cn _;constructor))
 refine aC (X:={x:Nat//x<=rows.length/\∀j (h:j<rows.length),j<x->exR t rows[j]=0}) (λi=>(((((St.nil 38 st).var 1 119 ((nD t rows b))).pv 10 (.seq (rows.map roC))).pv 11 ((vi (((rows.map roC).length:Nat))))).pv 12 ((vi ((i.1:Nat)))))) (λi=>rows.length-i.1) ⟨0,by omega,by omega⟩ ?_ (λi=> ?_)
 ·(repeat' first|show Cn _;constructor|exact rfl)
 obtain ⟨i,hi,hI⟩:=i
 dsimp only
 by_cases hend:rows.length<=i
 ·have e:dZ (exR t) rows=0:=nF λj hj=>hI j hj (by omega)
  (repeat' first|apply wZ;rfl|show Cn _;constructor|exact rfl|show (_:PV)=_;(rw [e]);done|simp only [zql];omega|(intro h;simp at h))
 have hil:i<rows.length:=by omega
 have hro:=hr _ (zgm hil)
 have e:=tG hI hil
 have hu:=sY hI hil
 focus ((repeat' first|apply wZ;rfl|show Cn _;constructor|exact rfl|apply wI;rfl|apply gE;omega|simp only [zql];omega|(intro h;simp at h)))
 refine aC (X:={x:Nat//x<=t.checks.length/\∀j (h:j<t.checks.length),j<x->chE (X.EvalR (exOf t.checks[j]) rows[i])=0}) (λy=>(((((((((St.nil 38 st).var 1 119 ((nD t rows b))).pv 4 (.seq (rows[i].map Vl.cells))).pv 10 (.seq (rows.map roC))).pv 11 ((vi (((rows.map roC).length:Nat))))).pv 12 ((vi ((i:Nat))))).pv 18 (.seq t.checks)).pv 19 ((vi ((t.checks.length:Nat))))).pv 20 ((vi ((y.1:Nat)))))) (λy=>t.checks.length-y.1) ⟨0,by omega,by omega⟩ ?_ (λy=> ?_)
 ·(repeat' first|show Cn _;constructor|exact rfl)
 obtain ⟨y,hy,hyI⟩:=y
 dsimp only
 by_cases hend2:t.checks.length<=y
 ·have e2:exR t rows[i]=0:=nF λj hj=>hyI j hj (by omega)
  (repeat' first|(refine ⟨⟨i+1,by omega,hu e2⟩, ?_, ?_⟩)|apply wZ;rfl|show Cn _;constructor|exact rfl|omega|simp only [zql];omega|(intro h;simp at h))
 have hyl:y<t.checks.length:=by omega
 obtain ⟨hok,hcc⟩:=aiD (hk _ (zgm hyl))
 have he:=tG (f:=λc=>chE (X.EvalR (exOf c) rows[i])) hyI hyl
 have hyu:=sY (f:=λc=>chE (X.EvalR (exOf c) rows[i])) hyI hyl
 change chE _≠0->exR t rows[i]=chE _ at he
 change chE (X.EvalR (exOf t.checks[y]) rows[i])=0->_ at hyu
 have hE:=X.Eval_spec hok hro
 have hget:t.checks[y]?=some (exOf t.checks[y]).cells:=by rw [hcc,zgg hyl]
 generalize X.EvalR (exOf t.checks[y]) rows[i]=p at*
 generalize exOf t.checks[y]=x at*
 obtain ⟨xk,xn,xv,xo⟩:=x
 obtain ⟨⟨v1,v2,v3⟩,pe⟩:=p
 have hfin:chE (⟨v1,v2,v3⟩,pe)≠0->dZ (exR t) rows=chE (⟨v1,v2,v3⟩,pe):=λh=>by
  have:=he h
  rw [e (by rw [this];exact h),this]
 by_cases h1:pe=0
 ·by_cases h2:v1=1/\v2=0/\v3=e0
  ·have e9:chE (⟨v1,v2,v3⟩,pe)=9:=by unfold chE;rw [zp h1,zp (by simp [h2])]
   rw [e9] at hfin
   have hf:=hfin (by decide)
   obtain ⟨rfl,rfl,rfl⟩:=h2
   (repeat' first|apply wZ;rfl|show Cn _;constructor|exact rfl|apply cN pk;(iterate 6 rfl);rotate_left;rfl;(intro hw;rfl);(intro hw;apply hget<;>omega);(intro _;rfl);rfl|(apply hE)|show (_:PV)=_;(rw [hf]);done|apply wY;rfl|omega|(intro h;simp at h))
  ·have e0':chE (⟨v1,v2,v3⟩,pe)=0:=by unfold chE;rw [zp h1,zn (λq=>h2 (by simpa using q))]
   have hw:=hyu e0'
   (repeat' first|(refine ⟨⟨y+1,by omega,hw⟩, ?_, ?_⟩)|apply wZ;rfl|show Cn _;constructor|exact rfl|apply cN pk;(iterate 6 rfl);rotate_left;rfl;(intro hw;rfl);(intro hw;apply hget<;>omega);(intro _;rfl);rfl|(apply hE)|apply wY;rfl|omega|simp only [zql];omega|exfalso;simp_all;done|(intro h;simp at h))
 ·have e1:chE (⟨v1,v2,v3⟩,pe)=pe:=by unfold chE;rw [zn h1]
  rw [e1] at hfin
  have hf:=hfin h1
  (repeat' first|apply wZ;rfl|show Cn _;constructor|exact rfl|apply cN pk;(iterate 6 rfl);rotate_left;rfl;(intro hw;rfl);(intro hw;apply hget<;>omega);(intro _;rfl);rfl|(apply hE)|show (_:PV)=_;(rw [hf]);done|apply wY;rfl|omega|(intro h;simp at h))
theorem ahG (hl:rows.length<1000000000000000) (hx:t.foreign.length<1000000000000000) (hr:∀f∈t.foreign,0<=f.col/\∀r∈rows,f.col<r.length) {n:Nat} (hb:BsS n b) (hn:n<=1000):PF Tryz.prog 48 [.agg (nD t rows b)] (vi (if yQ b t rows=false then 10 else 0)):=by
 have hyes:(∀j (h:j<t.foreign.length),(rows.all λr=> !decide (r[t.foreign[j].col.toNat]!.kind=1)||(bE (aF b t.foreign[j].table) r[t.foreign[j].col.toNat]!.n).isSome)=true)->yQ b t rows=true:=λh=>by
  unfold yQ
  rw [zal]
  intro f hf
  obtain ⟨j,hj,rfl⟩:=zgo hf
  exact h j hj
 have hno:∀j (h:j<t.foreign.length),(rows.all λr=> !decide (r[t.foreign[j].col.toNat]!.kind=1)||(bE (aF b t.foreign[j].table) r[t.foreign[j].col.toNat]!.n).isSome)=false->yQ b t rows=false:=λj hj h=>by
  unfold yQ
  rw [<-Bool.not_eq_true,zal]
  intro q
  rw [q _ (zgm hj)] at h;cases h
 generalize yQ b t rows=B at*
 refine pF Tryz.func48 rfl (λst=> ?_)
 focus ((repeat' first|apply wZ;rfl|show Cn _;constructor))
 refine aC (X:={x:Nat//x<=t.foreign.length/\∀j (h:j<t.foreign.length),j<x->(rows.all λr=> !decide (r[t.foreign[j].col.toNat]!.kind=1)||(bE (aF b t.foreign[j].table) r[t.foreign[j].col.toNat]!.n).isSome)=true}) (λi=>(((((St.nil 51 st).var 1 119 ((nD t rows b))).pv 11 (.seq (t.foreign.map Fr.cells))).pv 12 ((vi (((t.foreign.map Fr.cells).length:Nat))))).pv 13 ((vi ((i.1:Nat)))))) (λi=>t.foreign.length-i.1) ⟨0,by omega,by omega⟩ ?_ (λi=> ?_)
 ·(repeat' first|show Cn _;constructor|exact rfl)
 obtain ⟨i,hi,hI⟩:=i
 dsimp only
 by_cases hend:t.foreign.length<=i
 ·have e:B=true:=hyes λj hj=>hI j hj (by omega)
  (repeat' first|apply wZ;rfl|show Cn _;constructor|exact rfl|show (_:PV)=_;(rw [e];rfl);done|simp only [zql];omega|(intro h;simp at h))
 have hil:i<t.foreign.length:=by omega
 obtain ⟨hf0,hfr⟩:=hr _ (zgm hil)
 have hno:=hno i hil
 have hup:(rows.all λr=> !decide (r[t.foreign[i].col.toNat]!.kind=1)||(bE (aF b t.foreign[i].table) r[t.foreign[i].col.toNat]!.n).isSome)=true->∀j (h:j<t.foreign.length),j<i+1->(rows.all λr=> !decide (r[t.foreign[j].col.toNat]!.kind=1)||(bE (aF b t.foreign[j].table) r[t.foreign[j].col.toNat]!.n).isSome)=true:=λh j hj hji=>by
  rcases zls.1 hji with q|q
  ·exact hI j hj q
  ·subst q;exact h
 focus ((repeat' first|apply wZ;rfl|show Cn _;constructor|exact rfl|apply wI;rfl|apply gE;omega|simp only [zql];omega|(intro h;simp at h)))
 refine aC (X:={x:Nat//x<=rows.length/\∀j (h:j<rows.length),j<x->(!decide (rows[j][t.foreign[i].col.toNat]!.kind=1)||(bE (aF b t.foreign[i].table) rows[j][t.foreign[i].col.toNat]!.n).isSome)=true}) (λy=>(((((((((St.nil 51 st).var 1 119 ((nD t rows b))).var 4 66 (t.foreign[i].cells)).pv 11 (.seq (t.foreign.map Fr.cells))).pv 12 ((vi (((t.foreign.map Fr.cells).length:Nat))))).pv 13 ((vi ((i:Nat))))).pv 18 (.seq (rows.map roC))).pv 19 ((vi (((rows.map roC).length:Nat))))).pv 20 ((vi ((y.1:Nat)))))) (λy=>rows.length-y.1) ⟨0,by omega,by omega⟩ ?_ (λy=> ?_)
 ·(repeat' first|show Cn _;constructor|exact rfl)
 obtain ⟨y,hy,hyI⟩:=y
 dsimp only
 by_cases hend2:rows.length<=y
 ·have hw:=hup (by
   rw [zal]
   intro r hr
   obtain ⟨j,hj,rfl⟩:=zgo hr
   exact hyI j hj (by omega))
  (repeat' first|(refine ⟨⟨i+1,by omega,hw⟩, ?_, ?_⟩)|apply wZ;rfl|show Cn _;constructor|exact rfl|omega|simp only [zql];omega|(intro h;simp at h))
 have hyl:y<rows.length:=by omega
 have hcr:=hfr _ (zgm hyl)
 have hG:=wR hb hn t.foreign[i].table rows[y][t.foreign[i].col.toNat]!.n
 have hno2:(!decide (rows[y][t.foreign[i].col.toNat]!.kind=1)||(bE (aF b t.foreign[i].table) rows[y][t.foreign[i].col.toNat]!.n).isSome)=false->B=false:=λh=>hno (by
  rw [<-Bool.not_eq_true,zal]
  intro q
  rw [q _ (zgm hyl)] at h;cases h)
 have hyu:(!decide (rows[y][t.foreign[i].col.toNat]!.kind=1)||(bE (aF b t.foreign[i].table) rows[y][t.foreign[i].col.toNat]!.n).isSome)=true->∀j (h:j<rows.length),j<y+1->(!decide (rows[j][t.foreign[i].col.toNat]!.kind=1)||(bE (aF b t.foreign[i].table) rows[j][t.foreign[i].col.toNat]!.n).isSome)=true:=λh j hj hji=>by
  rcases zls.1 hji with q|q
  ·exact hyI j hj q
  ·subst q;exact h
 have hci:t.foreign[i].col=((t.foreign[i].col.toNat:Nat):Int):=by omega
 have hlt:t.foreign[i].col.toNat<rows[y].length:=by omega
 have hgu:=getElem!_pos rows[y] t.foreign[i].col.toNat hlt
 rw [hgu] at hG hno2 hyu
 clear hgu
 generalize (bE (aF b t.foreign[i].table) rows[y][t.foreign[i].col.toNat].n).isSome=G at*
 cases G<;>by_cases hk1:rows[y][t.foreign[i].col.toNat].kind=1
 ·have e:B=false:=hno2 (by simp [hk1])
  (repeat' first|apply iX;(intro hw;exact hci);(apply gE;omega);rfl|apply wZ;rfl|show Cn _;constructor|exact rfl|apply KR.mk;kernel_rfl|(apply hG)|show (_:PV)=_;(rw [e];rfl);done|apply wY;rfl|apply wI;rfl|apply gE;omega|simp only [zql];omega|intro h;simp at h;omega|(intro h;simp at h))
 ·have hw:=hyu (by simp [hk1])
  (repeat' first|apply iX;(intro hw;exact hci);(apply gE;omega);rfl|(refine ⟨⟨y+1,by omega,hw⟩, ?_, ?_⟩)|apply wZ;rfl|show Cn _;constructor|exact rfl|apply KR.mk;kernel_rfl|(apply hG)|apply wY;rfl|apply wI;rfl|apply gE;omega|omega|simp only [zql];omega|intro h;simp at h;omega|(intro h;simp at h))
 ·have hw:=hyu (by simp)
  (repeat' first|apply iX;(intro hw;exact hci);(apply gE;omega);rfl|(refine ⟨⟨y+1,by omega,hw⟩, ?_, ?_⟩)|apply wZ;rfl|show Cn _;constructor|exact rfl|apply KR.mk;kernel_rfl|(apply hG)|apply wY;rfl|apply wI;rfl|apply gE;omega|omega|simp only [zql];omega|intro h;simp at h;done|(intro h;simp at h))
 ·have hw:=hyu (by simp)
  (repeat' first|apply iX;(intro hw;exact hci);(apply gE;omega);rfl|(refine ⟨⟨y+1,by omega,hw⟩, ?_, ?_⟩)|apply wZ;rfl|show Cn _;constructor|exact rfl|apply KR.mk;kernel_rfl|(apply hG)|apply wY;rfl|apply wI;rfl|apply gE;omega|omega|simp only [zql];omega|intro h;simp at h;done|(intro h;simp at h))
end
section
attribute [local irreducible] Ev PWp
set_option maxRecDepth 10000
set_option maxHeartbeats 4000000
structure TotOK (m:Su) (rows:List (List Vl)):Prop where
 len:rows.length<=2000
 c0:0<=m.col
 b0:0<=m.by_
 cl:∀r∈rows,m.col<r.length/\m.by_<r.length
 num:∀r∈rows,(-1099511627776<=r[m.col.toNat]!.n/\r[m.col.toNat]!.n<=1099511627776)/\(r[m.col.toNat]!.kind≠1->r[m.col.toNat]!.n=0)
theorem TotOK.ns {m:Su} {rows:List (List Vl)} (h:TotOK m rows):aBG m rows:=λr hr=>(h.num r hr).2
theorem wE {m:Su} {g:Int}:∀{rows:List (List Vl)},(∀r∈rows, -1099511627776<=r[m.col.toNat]!.n/\r[m.col.toNat]!.n<=1099511627776)-> -1099511627776*(rows.length:Int)<=nW m g rows/\nW m g rows<=1099511627776*(rows.length:Int)
 |[],_=>by simp [nW]
 |r::rows,h=>by
  have ih:=wE (m:=m) (g:=g) (rows:=rows) λx hx=>h x (List.mem_cons_of_mem _ hx)
  have h0:=h r (List.mem_cons_self ..)
  rw [aiX]
  have: -1099511627776<=axH m g r/\axH m g r<=1099511627776:=by
   unfold axH
   split
   ·exact h0
   ·omega
  simp only [zlc]
  omega
theorem aD1 {m:Su} {rows:List (List Vl)} (h:aBG m rows) (g:Int):(bY g (lZ m rows)).getD 0=nW m g rows:=by
 have:=ahQ g [] h
 simp only [bY,Option.getD_none,Int.zero_add] at this
 exact this
theorem aEm {m:Su} {rows:List (List Vl)} {k:Nat} (h:k<rows.length):rJ m (rows.take (k+1))=(rJ m (rows.take k)&&decide (rows[k][m.col.toNat]!.n>=0)):=by
 unfold rJ
 rw [List.take_succ_eq_append_getElem h,List.all_append];simp
theorem xM (m:Su) (rows:List (List Vl)) (h:TotOK m rows):PF Tryz.prog 84 [.agg m.cells, .seq (rows.map roC)] (.tup [.fmap (aM Ie lT (lZ m rows)),(vb (rJ m rows))]):=by
 have hlen:=h.len
 refine pF Tryz.func84 rfl (λst=> ?_)
 focus ((repeat' first|(apply mkM (enc:=Ie) (f:=lT);rfl;intro id hid)|apply wZ;rfl|show Cn _;constructor))
 have hid0:st id=none:=hid
 clear hid
 refine aC (X:={x:Nat//x<=rows.length}) (λi=>(((((((St.nil 52 (upd st id (some (.map (aM Ie lT (lZ m (rows.take i.1))))))).var 2 134 (m.cells)).pv 6 (.mref id)).pv 7 ((vb (rJ m (rows.take i.1))))).pv 11 (.seq (rows.map roC))).pv 12 ((vi ((((rows.map roC)).length:Nat))))).pv 13 ((vi ((i.1:Nat)))))) (λi=>rows.length-i.1) ⟨0,by omega⟩ ?_ (λi=> ?_)
 ·(repeat' first|show Cn (.t _ _);exact Cn.t0|show Cn _;constructor|exact rfl)
 obtain ⟨i,hi⟩:=i
 dsimp only
 by_cases hend:rows.length<=i
 ·rw [ztl hend]
  (repeat' first|apply iS 4;rfl;exact aA _ _ _|exact Cn.any ⟨_,_,st,rfl,zwr _,qQ hid0,rfl,rfl⟩|apply wZ;rfl|show Cn _;constructor|simp only [zql];omega|(intro h;simp at h))
 have hil:i<rows.length:=by omega
 obtain ⟨c1,c2⟩:=h.cl _ (zgm hil)
 have hc0:=h.c0
 have hb0:=h.b0
 have n1:=(h.num _ (zgm hil)).1
 have hns:aBG m (rows.take i):=λr hr=>h.ns r (List.mem_of_mem_take hr)
 have hg:=aD1 hns rows[i][m.by_.toNat]!.n
 have hbd:=wE (m:=m) (g:=rows[i][m.by_.toNat]!.n) (rows:=rows.take i) λr hr=>(h.num r (List.mem_of_mem_take hr)).1
 have hti:(rows.take i).length<=2000:=by rw [zlt];omega
 have hup:=aEU m hil
 have hpu:=aEm (m:=m) hil
 have hci:m.col=((m.col.toNat:Nat):Int):=by omega
 have hbi:m.by_=((m.by_.toNat:Nat):Int):=by omega
 have l1:m.col.toNat<rows[i].length:=by omega
 have l2:m.by_.toNat<rows[i].length:=by omega
 rw [hg] at hup
 have g1:=getElem!_pos rows[i] m.col.toNat l1
 have g2:=getElem!_pos rows[i] m.by_.toNat l2
 rw [g2] at hg hbd
 rw [g1,g2] at hup
 rw [g1] at hpu n1
 clear g1 g2
 generalize lZ m (rows.take i)=M at*
 generalize rJ m (rows.take i)=G at*
 generalize nW m rows[i][m.by_.toNat].n (rows.take i)=T at*
 have t1: -2199023255552000<=T:=by omega
 have t2:T<=2199023255552000:=by omega
 clear hbd
 by_cases hk:rows[i][m.by_.toNat].kind=1
 ·rw [zp hk] at hup
  (repeat' first|apply wD pk [15] [7];kernel_rfl;rfl;rfl|apply iX;(intro hw;exact (by first|exact hci|exact hbi));(apply gE;omega);rfl|refine ⟨⟨i+1,by omega⟩, ?_, ?_⟩;((dsimp only;rw [hup,hpu]))|show Cn (.t _ _);exact .any (cQ (by (((simp only [St.pv,St.put,St.sst,St.setv,St.nil,St.var,eF]);(done)))))|apply wZ;rfl|show Cn _;constructor|exact rfl|apply lkD pk vJ (f:=lT) (z:=0) (k:=rows[i][m.by_.toNat].n) (n:=T);(iterate 5 rfl);rotate_left;rfl;exact aA _ _ _;rfl;exact hg|apply muA pk vJ (f:=lT) (k:=rows[i][m.by_.toNat].n) (v:=T+rows[i][m.col.toNat].n);(exact .inr rfl);(iterate 5 rfl);exact aA _ _ _;rfl|apply wI;rfl|apply gE;omega|omega|simp only [zql];omega|(intro h;simp at h)|intro h)
 ·rw [zn hk] at hup
  (repeat' first|apply iX;(intro hw;exact (by first|exact hci|exact hbi));(apply gE;omega);rfl|refine ⟨⟨i+1,by omega⟩, ?_, ?_⟩;((dsimp only;rw [hup,hpu]))|show Cn (.t _ _);exact Cn.t0|apply wZ;rfl|show Cn _;constructor|exact rfl|apply wI;rfl|apply gE;omega|omega|simp only [zql];omega|(intro h;simp at h)|intro h)
theorem sV {α β:Type} (f:α->β):∀(l:List α) (i:Nat),(l.map f).eraseIdx i=(l.eraseIdx i).map f
 |[],_=>rfl
 |_::_,0=>rfl
 |a::l,i+1=>by simp only [zmp,List.eraseIdx_cons_succ,sV f l i]
theorem ayC (es:List (Int×Int)) (i:Nat):(aM Ie lT es).eraseIdx i=aM Ie lT (es.eraseIdx i):=by unfold aM;rw [sV]
theorem aF1 {es:List (Int×Int)} {i:Nat} {e:Value×PV} (h:(aM Ie lT es)[i]?=some e):∃x,es[i]?=some x/\e=(Ie x.1,lT x.2):=by
 unfold aM at h
 rw [List.getElem?_map] at h
 cases hx:es[i]? with
 |none=>rw [hx] at h;cases h
 |some x=>rw [hx] at h;exact ⟨x,rfl,(Option.some.inj h).symm⟩
theorem avD {es:List (Int×Int)} (h:aM Ie lT es=[]):es=[]:=by cases es with
 |nil=>rfl
 |cons x l=>cases h
theorem aeI {α:Type} {p:α->Bool}:∀{l:List α} {i:Nat} {x:α},l[i]?=some x->l.all p=(p x&&(l.eraseIdx i).all p)
 |[],_,_,h=>by simp at h
 |a::l,0,x,h=>by simp at h;subst h;rfl
 |a::l,i+1,x,h=>by
  simp only [List.getElem?_cons_succ] at h
  rw [List.eraseIdx_cons_succ,List.all_cons,List.all_cons,aeI h]
  cases p a<;>cases p x<;>simp
theorem aFM (x:Int) (g:G):Rep g (vi (x)) (Ie x):=by unfold Rep;rfl
theorem aoB (t:Tb) (rows:List (List Vl)) (b:Bs) (hx:t.sums.length<1000000000000000) (hT:∀m∈t.sums,TotOK m rows):PF Tryz.prog 49 [.agg (nD t rows b)] (vi (if aaH t rows=false then 11 else 0)):=by
 have hyes:(∀j (h:j<t.sums.length),(rJ t.sums[j] rows&&(lZ t.sums[j] rows).all λe=>decide (e.2<=t.sums[j].max))=true)->aaH t rows=true:=λh=>by
  unfold aaH
  rw [zal]
  intro m hm
  obtain ⟨j,hj,rfl⟩:=zgo hm
  rw [<-awU (hT _ hm).ns];exact h j hj
 have hno:∀j (h:j<t.sums.length),(rJ t.sums[j] rows&&(lZ t.sums[j] rows).all λe=>decide (e.2<=t.sums[j].max))=false->aaH t rows=false:=λj hj h=>by
  unfold aaH
  rw [<-Bool.not_eq_true,zal]
  intro q
  have:=q _ (zgm hj)
  rw [<-awU (hT _ (zgm hj)).ns,h] at this;cases this
 generalize aaH t rows=B at*
 refine pF Tryz.func49 rfl (λst=> ?_)
 focus ((repeat' first|apply wZ;rfl|show Cn _;constructor))
 refine aC (X:={x:Nat//x<=t.sums.length/\∀j (h:j<t.sums.length),j<x->(rJ t.sums[j] rows&&(lZ t.sums[j] rows).all λe=>decide (e.2<=t.sums[j].max))=true}) (λi=>(((((St.nil 40 st).var 1 119 ((nD t rows b))).pv 11 (.seq (t.sums.map Su.cells))).pv 12 ((vi (((t.sums.map Su.cells).length:Nat))))).pv 13 ((vi ((i.1:Nat)))))) (λi=>t.sums.length-i.1) ⟨0,by omega,by omega⟩ ?_ (λi=> ?_)
 ·(repeat' first|show Cn _;constructor|exact rfl)
 obtain ⟨i,hi,hI⟩:=i
 dsimp only
 by_cases hend:t.sums.length<=i
 ·have e:B=true:=hyes λj hj=>hI j hj (by omega)
  (repeat' first|apply wZ;rfl|show Cn _;constructor|exact rfl|show (_:PV)=_;(rw [e];rfl);done|simp only [zql];omega|(intro h;simp at h))
 have hil:i<t.sums.length:=by omega
 have hts:=xM t.sums[i] rows (hT _ (zgm hil))
 have hno:=hno i hil
 have hup:(rJ t.sums[i] rows&&(lZ t.sums[i] rows).all λe=>decide (e.2<=t.sums[i].max))=true->∀j (h:j<t.sums.length),j<i+1->(rJ t.sums[j] rows&&(lZ t.sums[j] rows).all λe=>decide (e.2<=t.sums[j].max))=true:=λh j hj hji=>by
  rcases zls.1 hji with q|q
  ·exact hI j hj q
  ·subst q;exact h
 generalize lZ t.sums[i] rows=M at*
 generalize rJ t.sums[i] rows=G at*
 focus ((repeat' first|(apply aDW pk;(iterate 5 rfl);intro it hit)|apply wZ;rfl|show Cn _;constructor|exact rfl|(apply hts)|apply wY;rfl|apply wI;rfl|apply gE;omega|simp only [zql];omega|(intro h;simp at h)))
 have hit0:st it=none:=hit
 clear hit
 refine aC (X:={x:List (Int×Int)×Bool×Option (Value×PV)//(G&&M.all λe=>decide (e.2<=t.sums[i].max))=(x.2.1&&x.1.all λe=>decide (e.2<=t.sums[i].max))}) (λy=>((((((((St.nil 40 (upd st it (some (.iter y.1.2.2 (aM Ie lT y.1.1))))).var 1 119 ((nD t rows b))).var 4 134 (t.sums[i].cells)).pv 6 ((vb (y.1.2.1)))).pv 11 (.seq (t.sums.map Su.cells))).pv 12 ((vi (((t.sums.map Su.cells).length:Nat))))).pv 13 ((vi ((i:Nat))))).pv 25 (.ref it 0))) (λy=>y.1.1.length) ⟨(M,G,none),rfl⟩ ?_ (λy=> ?_)
 ·(repeat' first|show Cn (.t _ _);exact Cn.t0|show Cn _;constructor|exact rfl)
 obtain ⟨⟨rest,g,cur⟩,hI2⟩:=y
 dsimp only at hI2
 dsimp only
 have hdone:aM Ie lT rest=[]->g=true->∀j (h:j<t.sums.length),j<i+1->(rJ t.sums[j] rows&&(lZ t.sums[j] rows).all λe=>decide (e.2<=t.sums[j].max))=true:=λh1 h2=>hup (by
  obtain rfl:=avD h1
  rw [hI2,h2];rfl)
 have hfail:aM Ie lT rest=[]->g=false->B=false:=λh1 h2=>hno (by
  obtain rfl:=avD h1
  rw [hI2,h2];rfl)
 have hltg:∀{j:Nat} {x:Int×Int},rest[j]?=some x->(rest.eraseIdx j).length<rest.length:=fun {j x} hx=>by
  have:=(zge.1 hx).1
  rw [List.length_eraseIdx_of_lt this];omega
 have hn2:∀{j:Nat} {x:Int×Int},rest[j]?=some x->(G&&M.all λe=>decide (e.2<=t.sums[i].max))=((g&&decide (x.2<=t.sums[i].max))&&(rest.eraseIdx j).all λe=>decide (e.2<=t.sums[i].max)):=fun {j x} hx=>by
  rw [hI2,aeI hx,Bool.and_assoc]
 clear hup hno hI2
 (repeat' first|((exact Cn.any ⟨_,_,st,rfl,zwr _,(by first|exact oI hit0|exact qQ hit0),(by rw [hfail ‹_› ‹_›];rfl),rfl⟩))|((refine ⟨⟨i+1,by omega,hdone ‹_› ‹_›⟩, ?_,by simp only;omega⟩);focus ((repeat' first|(show Cn (.s _ (St.nil _ _));refine .any ?_;exact Sub.nil _ _ _ (by first|exact qQ hit0|exact oI hit0) rfl)|show Cn _;constructor|exact rfl);done))|((refine ⟨⟨(rest.eraseIdx j,g&&decide (x.2<=t.sums[i].max),some (Ie x.1,lT x.2)),hn2 hx⟩, ?_,by simp only;omega⟩);((dsimp only));focus ((repeat' first|show Cn (.t _ _);exact .any (cQ (by (((simp only [St.pv,St.put,St.sst,St.setv,St.nil,St.var,eF]);(done)))))|show Cn _;constructor|exact rfl);done))|apply wZ;rfl|show Cn _;constructor|((apply aGI;rfl;exact aA _ _ _;rfl;rfl;rfl;intro hleft;rotate_left;intro j e he;obtain ⟨x,hx,rfl⟩:=aF1 he;rw [ayC];have hlt:=hltg hx;rotate_left))|apply aDe;rfl;rfl;exact aA _ _ _;exact aFM x.1;rotate_left;rfl;rfl|omega|intro h)
end
end Go.Proofs.YtfablfldonhkiaaGreatDoor
namespace Go.Proofs.YtfablfldonhkiaaGreatDoor
open Go Go.Abs
attribute [local irreducible] Ev PWp
namespace X
set_option maxRecDepth 10000
set_option maxHeartbeats 4000000
theorem arT (c:Co):PF Tryz.prog 167 [.agg c.cells] (vi (dQ c)):=by
 unfold dQ
 refine pF Tryz.func167 rfl (λst=> ?_)
 (repeat' first|apply wZ;rfl|show Cn _;constructor|exact rfl|show (_:PV)=_;((simp [*];done));done|omega|intro h)
theorem Right_spec {e:Ex} (hok:e.ok) (cols:List Co) (hl:cols.length<10000000000):PF Tryz.prog 108 [.agg e.cells, .seq (cols.map Co.cells)] (vi (RightR e (cols.map dQ))):=by
 have hT:=axE hok (l:=cols.map dQ) (by rw [zql];omega)
 have hR:RightR e (cols.map dQ)=if (kG e (cols.map dQ)).2=0 then (if (kG e (cols.map dQ)).1=2 then 6 else 0) else (kG e (cols.map dQ)).2:=rfl
 generalize kG e (cols.map dQ)=T at*
 generalize RightR e (cols.map dQ)=R at*
 unfold kD at hT
 obtain ⟨k,n,v,of⟩:=e
 obtain ⟨T1,T2⟩:=T
 dsimp only at*
 refine pF Tryz.func108 rfl (λst=> ?_)
 focus ((repeat' first|apply wZ;rfl|show Cn _;constructor))
 refine zA 5 3 rfl rfl (λid hid=> ?_)
 have hid:st id=none:=hid
 refine aC (X:={x:Nat×Nat//x.1<=cols.length/\st x.2=none}) (λi=>((((((St.nil 35 (upd st i.1.2 (some (.tok 3)))).var 2 129 ((Ex.mk k n v of).cells)).pv 5 (.own i.1.2 (((cols.take i.1.1).map dQ).map I1))).pv 10 (.seq (cols.map Co.cells))).pv 11 ((vi ((((cols.map Co.cells)).length:Nat))))).pv 12 ((vi ((i.1.1:Nat)))))) (λi=>cols.length-i.1.1) ⟨(0,id),by simp,hid⟩ ?_ (λi=> ?_)
 ·(repeat' first|show Cn (.t _ _);exact Cn.t0|show Cn _;constructor|exact rfl)
 obtain ⟨⟨i,id⟩,hi,hid⟩:=i
 simp only at hi hid
 dsimp only
 by_cases hend:cols.length<=i
 ·rw [ztl hend]
  by_cases h0:T2=0<;>by_cases h1:T1=2
  ·rw [zp h0,zp h1] at hR
   subst hR
   (repeat' first|(apply cV;focus ((apply hT);done))|show Cn (.e _ _ _ _);refine .any ?_;((refine ⟨_,_,_,rfl,zwr _,cR ‹_›, ?_,rfl⟩;(rfl)))|apply wZ;rfl|show Cn _;constructor|apply wY;rfl|simp only [zql];omega|intro h;simp at h;omega|(intro h;simp at h))
  ·rw [zp h0,zn h1] at hR
   subst hR
   subst h0
   (repeat' first|(apply cV;focus ((apply hT);done))|show Cn (.e _ _ _ _);refine .any ?_;((refine ⟨_,_,_,rfl,zwr _,cR ‹_›, ?_,rfl⟩;(rfl)))|apply wZ;rfl|show Cn _;constructor|apply wY;rfl|omega|simp only [zql];omega|(intro h;simp at h)|intro h)
  ·rw [zn h0] at hR
   subst hR
   (repeat' first|(apply cV;focus ((apply hT);done))|show Cn (.e _ _ _ _);refine .any ?_;((refine ⟨_,_,_,rfl,zwr _,cR ‹_›, ?_,rfl⟩;(rfl)))|apply wZ;rfl|show Cn _;constructor|apply wY;rfl|simp only [zql];omega|intro h;simp at h;omega|(intro h;simp at h))
  ·rw [zn h0] at hR
   subst hR
   (repeat' first|(apply cV;focus ((apply hT);done))|show Cn (.e _ _ _ _);refine .any ?_;((refine ⟨_,_,_,rfl,zwr _,cR ‹_›, ?_,rfl⟩;(rfl)))|apply wZ;rfl|show Cn _;constructor|apply wY;rfl|simp only [zql];omega|intro h;simp at h;omega|(intro h;simp at h))
 have hil:i<cols.length:=by omega
 have hs:=arT cols[i]
 have hmap:((cols.take (i+1)).map dQ).map I1=((cols.take i).map dQ).map I1++[I1 (dQ cols[i])]:=by rw [List.take_succ_eq_append_getElem hil,List.map_append,List.map_append];rfl
 have htl:((cols.take i).map dQ).length<=i:=by rw [zql];exact List.length_take_le ..
 generalize dQ cols[i]=K at*
 (repeat' first|refine ⟨⟨(i+1,id'),by simp only;omega,iL hid'⟩, ?_, ?_⟩;((dsimp only;rw [hmap]))|show Cn (.t _ _);exact .any (bP ‹_›)|apply wZ;rfl|show Cn _;constructor|exact rfl|(apply hs)|show _=_;((simp [I1];done))|(apply apS pk (K) 8;(iterate 8 rfl);exact aA _ _ _;exact λ_=>rfl;exact λ_=>rfl;exact lY;(omega);(omega);rfl;intro id' hid')|apply wY;rfl|apply wI;rfl|apply gE;omega|omega|simp only [zql];omega|(intro h;simp at h))
end X
theorem alA (s:Sc) (hl:s.length<200000000000000) (hB:∀t∈s,TbB t) (hT:∀t∈s,tN t) (hc:∀t∈s,t.cols.length<10000000000):PF Tryz.prog 67 [.agg (scC s)] (vi (rightC s)):=by
 have hr:=xI s hl hB
 by_cases h0:¬cB s=0
 ·have e:rightC s=cB s:=by unfold rightC;rw [zn h0]
  rw [e]
  generalize cB s=R at*
  refine pF Tryz.func67 rfl (λst=> ?_)
  (repeat' first|apply wZ;rfl|show Cn _;constructor|exact rfl|(apply hr)|apply wY;rfl|omega|intro h)
 replace h0:=zdn h0
 have e:rightC s=dZ rightX s:=by unfold rightC;rw [zp h0]
 rw [e]
 rw [h0] at hr
 clear e h0
 refine pF Tryz.func67 rfl (λst=> ?_)
 focus ((repeat' first|apply wZ;rfl|show Cn _;constructor|(apply hr)|apply wY;rfl))
 refine aC (X:={x:Nat//x<=s.length/\∀j (h:j<s.length),j<x->rightX s[j]=0}) (λi=>((((St.nil 37 st).pv 15 (.seq (s.map Tb.cells))).pv 16 ((vi (((s.map Tb.cells).length:Nat))))).pv 17 ((vi ((i.1:Nat)))))) (λi=>s.length-i.1) ⟨0,by omega,by omega⟩ ?_ (λi=> ?_)
 ·(repeat' first|show Cn _;constructor|exact rfl)
 obtain ⟨i,hi,hI⟩:=i
 dsimp only
 by_cases hend:s.length<=i
 ·have e:dZ rightX s=0:=nF λj hj=>hI j hj (by omega)
  (repeat' first|apply wZ;rfl|show Cn _;constructor|exact rfl|show (_:PV)=_;(rw [e]);done|simp only [zql];omega|(intro h;simp at h))
 have hil:i<s.length:=by omega
 have hk:=hT _ (zgm hil)
 have hcl:=hc _ (zgm hil)
 have hkl:=(hB _ (zgm hil)).k
 have e:=tG hI hil
 have hu:=sY hI hil
 focus ((repeat' first|apply wZ;rfl|show Cn _;constructor|exact rfl|apply wI;rfl|apply gE;omega|simp only [zql];omega|(intro h;simp at h)))
 refine aC (X:={x:Nat//x<=s[i].checks.length/\∀j (h:j<s[i].checks.length),j<x->X.RightR (exOf s[i].checks[j]) (s[i].cols.map dQ)=0}) (λy=>((((((((St.nil 37 st).var 5 58 (s[i].cells)).pv 15 (.seq (s.map Tb.cells))).pv 16 ((vi (((s.map Tb.cells).length:Nat))))).pv 17 ((vi ((i:Nat))))).pv 22 (.seq s[i].checks)).pv 23 ((vi ((s[i].checks.length:Nat))))).pv 24 ((vi ((y.1:Nat)))))) (λy=>s[i].checks.length-y.1) ⟨0,by omega,by omega⟩ ?_ (λy=> ?_)
 ·(repeat' first|show Cn _;constructor|exact rfl)
 obtain ⟨y,hy,hyI⟩:=y
 dsimp only
 by_cases hend2:s[i].checks.length<=y
 ·have e2:rightX s[i]=0:=nF λj hj=>hyI j hj (by omega)
  (repeat' first|(refine ⟨⟨i+1,by omega,hu e2⟩, ?_, ?_⟩)|apply wZ;rfl|show Cn _;constructor|exact rfl|omega|simp only [zql];omega|(intro h;simp at h))
 have hyl:y<s[i].checks.length:=by omega
 obtain ⟨hok,hcc⟩:=aiD (hk _ (zgm hyl))
 have he:=tG (f:=λc=>X.RightR (exOf c) (s[i].cols.map dQ)) hyI hyl
 have hyu:=sY (f:=λc=>X.RightR (exOf c) (s[i].cols.map dQ)) hyI hyl
 change X.RightR (exOf s[i].checks[y]) (s[i].cols.map dQ)≠0->rightX s[i]=X.RightR (exOf s[i].checks[y]) (s[i].cols.map dQ) at he
 change X.RightR (exOf s[i].checks[y]) (s[i].cols.map dQ)=0->_ at hyu
 have hE:=X.Right_spec hok s[i].cols hcl
 have hget:s[i].checks[y]?=some (exOf s[i].checks[y]).cells:=by rw [hcc,zgg hyl]
 generalize X.RightR (exOf s[i].checks[y]) (s[i].cols.map dQ)=p at*
 generalize exOf s[i].checks[y]=x at*
 obtain ⟨xk,xn,xv,xo⟩:=x
 by_cases hp:p=0
 ·(repeat' first|(refine ⟨⟨y+1,by omega,hyu hp⟩, ?_, ?_⟩)|apply wZ;rfl|show Cn _;constructor|exact rfl|apply cN pk;(iterate 6 rfl);rotate_left;rfl;(intro hw;rfl);(intro hw;apply hget<;>omega);(intro _;rfl);rfl|(apply hE)|apply wY;rfl|omega|simp only [zql];omega|(intro h;simp at h)|intro h)
 ·have hfin:dZ rightX s=p:=by rw [e (by rw [he hp];exact hp),he hp]
  (repeat' first|apply wZ;rfl|show Cn _;constructor|exact rfl|apply cN pk;(iterate 6 rfl);rotate_left;rfl;(intro hw;rfl);(intro hw;apply hget<;>omega);(intro _;rfl);rfl|(apply hE)|show (_:PV)=_;(rw [hfin]);done|apply wY;rfl|omega|(intro h;simp at h)|intro h)
end Go.Proofs.YtfablfldonhkiaaGreatDoor
namespace Go.Proofs.YtfablfldonhkiaaGreatDoor
open Go Go.Abs
attribute [local irreducible] Ev PWp
set_option maxRecDepth 10000
set_option maxHeartbeats 4000000
def dM (xs:List Vl) (i:Nat) (ys:List Vl):List Vl:=xs.take i++ys++xs.drop i
theorem alQ (xs:List Vl) (i:Nat) (ys:List Vl):(dM xs i ys).map Vl.cells=(xs.map Vl.cells).take i++ys.map Vl.cells++(xs.map Vl.cells).drop i:=by
 unfold dM
 rw [List.map_append,List.map_append,List.map_take,List.map_drop]
theorem yG {xs:List Vl} {i:Nat} {ys:List Vl} (hi:i<=xs.length):(dM xs i ys).length=xs.length+ys.length:=by
 unfold dM
 simp only [zla,zlt,zld];omega
def aHW (st:aD) (id:Nat) (zs:List Vl) (r:PV) (S:aD):Prop:=∃id',r= .vec id' 3 0 zs.length/\upd st id none id'=none/\S=upd (upd st id none) id' (some (.arr 63 (zs.map Vl.cells)))
theorem akE (xs ys:List Vl) (i id n:Nat) (st:aD) (hst:st id=some (.arr 63 (xs.map Vl.cells))) (hn:xs.length=n) (hi:i<=n) (hy:ys≠[]) (hl:n+ys.length<1000000000000):PC Tryz.prog 199 [.vec id 3 0 n,(vi ((i:Nat))), .seq (ys.map Vl.cells)] st (aHW st id (dM xs i ys)):=by
 obtain ⟨m,hm⟩:∃m,ys.length=m:=⟨_,rfl⟩
 have hln:(ys.map Vl.cells).length=m:=(zql _).trans hm
 have hm0:0<m:=by rw [<-hm];exact List.length_pos_iff.2 hy
 rw [hm] at hl
 have hzl:(dM xs i ys).length=n+m:=by rw [yG (by omega),hn,hm]
 have hzm:=alQ xs i ys
 have hB:=awN
 refine pC Tryz.func199 rfl ?_
 by_cases hin:i=n
 ·subst hin
  have hz:dM xs i ys=xs++ys:=by unfold dM;rw [ztl (by omega),List.drop_of_length_le (by omega),List.append_nil]
  (repeat' first|show Cn (.r _ _ _);refine .rr ?_;(exact ⟨id',(by rw [hzl,hm]),jC hid',(by rw [hz];rfl)⟩);done|apply wZ;rfl|show Cn _;constructor|(apply apV pk (f:=Vl.cells) ys 32;(iterate 9 rfl);(assumption);(omega);exact λ_=>rfl;exact λ_=>rfl;exact hB;(omega);(omega);rfl;intro id' hid')|apply avY pk i i;(iterate 4 rfl);rotate_left;rfl;(intro _;exact aJ rfl rfl);(intro _;exact aW);(intro _;omega);(intro _;omega);rfl|omega|(intro h;simp at h))
 have hlt:i<n:=by omega
 have hxl:(xs.map Vl.cells).length=n:=(zql _).trans hn
 have hX1:∀r∈xs.map Vl.cells,r.all PV.one=true:=λr hr=>by obtain ⟨a,_,rfl⟩:=List.mem_map.1 hr;rfl
 have hX3:∀r∈xs.map Vl.cells,r.length=3:=λr hr=>by obtain ⟨a,_,rfl⟩:=List.mem_map.1 hr;rfl
 have hY1:∀r∈ys.map Vl.cells,r.all PV.one=true:=λr hr=>by obtain ⟨a,_,rfl⟩:=List.mem_map.1 hr;rfl
 have hY3:∀r∈ys.map Vl.cells,r.length=3:=λr hr=>by obtain ⟨a,_,rfl⟩:=List.mem_map.1 hr;rfl
 have hj:∀k,(xs.map Vl.cells++aV k 3).length=n+k:=λk=>by rw [zla,hxl];unfold aV;rw [List.length_replicate]
 generalize hXe:xs.map Vl.cells=X at*
 generalize hYe:ys.map Vl.cells=Y at*
 have hYn:Y≠[]:=λe=>by rw [e] at hln;simp at hln;omega
 obtain ⟨yc,ycs,yr,hYc⟩:∃c cs rest,Y=(c::cs)::rest:=by
  cases hY0:Y with
  |nil=>exact absurd hY0 hYn
  |cons a b=>
   cases ha:a with
   |nil=>have:=hY3 a (by rw [hY0];simp);rw [ha] at this;cases this
   |cons c cs=>exact ⟨c,cs,b,rfl⟩
 refine tF 0 m (id:=id) (rows:=X) rfl hst uJ hxl (by omega) (by omega) (λk id1 hk hid1=> ?_) (λid1 hid1=> ?_)
 ·have hid1:st id1=none:=hid1
  have htk:(X++aV k 3).take i=X.take i:=List.take_append_of_le_length (by omega)
  have hgl:(X.take i++aV (n+m-i) 3).length=n+m:=by rw [zla,zlt];unfold aV;rw [List.length_replicate];omega
  have hg2:(aP (X.take i++aV (n+m-i) 3) i Y).length=n+m:=by rw [dF (by omega),hgl]
  have hgr:aP (aP (X.take i++aV (n+m-i) 3) i Y) (i+m) (X.drop i)=(dM xs i ys).map Vl.cells:=by rw [hzm];rw [<-hxl];exact tP hln (by omega)
  (repeat' first|(refine Cn.any ⟨_,_,upd (upd st id none) id2 (some (.arr 63 ((dM xs i ys).map Vl.cells))),rfl,zwr _,nO (by rw [hgr]) hid1,id2,(by rw [hzl];congr 1;omega),lP hid2,rfl⟩)|apply wD pk [8] [];kernel_rfl;rfl;rfl|apply wZ;rfl|show Cn _;constructor|(refine ajG pk (rows:=X++aV k 3) rfl rfl rfl rfl (.inr (aA _ _ _)) (by rw [hj];omega) rfl (λc hc1 hc2=> ?_);have hc3:=hc2 (aA _ _ _);rw [hj] at hc3)|apply yD pk (j:=i) (rows:=X++aV k 3);(iterate 4 rfl);rotate_left;rfl;rfl;exact .inr (aA _ _ _);(rw [hj];omega);exact aJ rfl rfl;(rw [hj];omega)|(refine apZ pk (kq:= .i64) (kn:= .i64) (i:=i) (m:=n+m-i) (sz:=3) (rows:=X++aV k 3) 32 rfl (congrArg (λz=>some (PV.val (.int .i64 z))) (show _=((n+m-i:Nat):Int) from by omega)) rfl (by kernel_rfl) rfl rfl rfl rfl (aA _ _ _) (by rw [hj];omega) (by rw [hj];omega) (by rw [hj];omega) hB (by omega) (by omega) (by omega) rfl (λid2 hid2=> ?_);rw [htk];have hne:id1≠id2:=(λe=>by rw [<-e] at hid2;have hid2:=(aA _ _ _).symm.trans hid2;cases hid2))|apply eC pk (i) (n+m-i);(iterate 4 rfl);rotate_left;rfl;(intro _;exact ⟨_,aJ rfl rfl,by omega⟩);(intro _;exact ⟨_,aW,by omega⟩);(intro _;omega);(intro _;omega);rfl|apply eC pk (i+m) (n-i);(iterate 4 rfl);rotate_left;rfl;(intro _;exact ⟨_,aJ rfl (show _=((i+m:Nat):Int) from by omega),by omega⟩);(intro _;exact ⟨_,aW,by omega⟩);(intro _;omega);(intro _;omega);rfl|apply eC pk (i) (n-i);(iterate 4 rfl);rotate_left;rfl;(intro _;exact ⟨_,aJ rfl rfl,by omega⟩);(intro _;exact ⟨_,aW,by omega⟩);(intro _;omega);(intro _;omega);rfl|(refine jO pk (e:=63) (sz:=3) (rows:=X.take i++aV (n+m-i) 3) (new:=Y) (m:=Y.length) (n:=Y.length) (len:=n+m-i) rfl rfl rfl rfl rfl (aA _ _ _) (by omega) (qN aQ rfl rfl rfl hY3 hY1) rfl hY3 (by omega) (by omega) rfl ?_)|(refine jO pk (e:=63) (sz:=3) (rows:=aP (X.take i++aV (n+m-i) 3) i Y) (new:=X.drop i) (m:=n-i) (n:=n-i) (len:=n-i) rfl rfl rfl rfl rfl (aA _ _ _) (by omega) (lO (k:=k) rfl (.inr ((aB ‹_›).trans ((aB ‹_›).trans (aA _ _ _)))) hxl (by omega) uJ hX1 (by omega) (by omega)) (by rw [zld];omega) (λr hr=>hX3 r (List.mem_of_mem_drop hr)) (by omega) (by omega) rfl ?_)|omega|(intro h;simp at h)|intro h)
 ·have hid1:st id1=none:=hid1
  have hg2:(aP (X++aV m 3) (i+m) (X.drop i)).length=n+m:=by rw [dF (by rw [zld,hj];omega),hj]
  have hgr:aP (aP (X++aV m 3) (i+m) (X.drop i)) i Y=(dM xs i ys).map Vl.cells:=by rw [hzm];exact uI hln (by omega)
  (repeat' first|(refine Cn.any ⟨_,_,upd (upd st id none) id1 (some (.arr 63 ((dM xs i ys).map Vl.cells))),rfl,zwr _,nN (by rw [hgr]),id1,(by rw [hzl]),jC hid1,rfl⟩)|apply wD pk [8] [];kernel_rfl;rfl;rfl|apply wZ;rfl|show Cn _;constructor|apply eC pk (i) (n-i);(iterate 4 rfl);rotate_left;rfl;(intro _;exact ⟨_,aJ rfl rfl,by omega⟩);(intro _;exact ⟨_,aW,by omega⟩);(intro _;omega);(intro _;omega);rfl|apply eC pk (i) (n+m-i);(iterate 4 rfl);rotate_left;rfl;(intro _;exact ⟨_,aJ rfl rfl,by omega⟩);(intro _;exact ⟨_,aW,by omega⟩);(intro _;omega);(intro _;omega);rfl|apply eC pk (i+m) (n-i);(iterate 4 rfl);rotate_left;rfl;(intro _;exact ⟨_,aJ rfl (show _=((i+m:Nat):Int) from by omega),by omega⟩);(intro _;exact ⟨_,aW,by omega⟩);(intro _;omega);(intro _;omega);rfl|(refine ajG pk (rows:=X++aV m 3) rfl rfl rfl rfl (.inl (aA _ _ _)) (by rw [hj];omega) rfl (λc hc1 hc2=> ?_);rw [hj] at hc1)|apply yD pk (j:=n+m) (rows:=X++aV m 3);(iterate 4 rfl);rotate_left;rfl;rfl;exact .inl (aA _ _ _);(rw [hj];omega);exact aJ rfl (show _=((n+m:Nat):Int) from by omega);(rw [hj];omega)|(refine ovA pk (w:=true) (tS:=59) (tR:=4) (off:=i+m) (len:=n-i) (e:=63) (sz:=3) (rows:=X++aV m 3) rfl rfl Tryz.func257 (by kernel_rfl) (by kernel_rfl) (by kernel_rfl) (by kernel_rfl) rfl rfl rfl hYc rfl (.inl (aA _ _ _)) (by rw [hj];omega) uJ (by omega) ?_ rfl rfl ?_;rotate_left)|(refine jO pk (e:=63) (sz:=3) (rows:=X++aV m 3) (new:=X.drop i) (m:=n+m-i) (n:=n-i) (len:=n-i) rfl rfl rfl rfl rfl (aA _ _ _) (by rw [hj];omega) (lO (k:=m) rfl (.inl (aA _ _ _)) hxl (by omega) uJ hX1 (by omega) (by omega)) (by rw [zld];omega) (λr hr=>hX3 r (List.mem_of_mem_drop hr)) (by omega) (by omega) rfl ?_)|(refine jO pk (e:=63) (sz:=3) (rows:=aP (X++aV m 3) (i+m) (X.drop i)) (new:=Y) (m:=Y.length) (n:=Y.length) (len:=n+m-i) rfl rfl rfl rfl rfl (aA _ _ _) (by omega) (qN aQ rfl rfl rfl hY3 hY1) rfl hY3 (by omega) (by omega) rfl ?_)|omega|(intro h;simp at h)|intro h)
def gS (a b:Vl):Bool:=if a.kind≠b.kind then decide (a.kind<b.kind) else if a.n≠b.n then decide (a.n<b.n) else Op.bytesLess a.s.toList b.s.toList
def aaX (a b:Vl):Bool:= !gS a b&& !gS b a
theorem sB (a b:Vl):PF Tryz.prog 197 [.agg a.cells, .agg b.cells] (vb (gS a b)):=by
 unfold gS
 refine pF Tryz.func197 rfl (λst=> ?_)
 (repeat' first|apply wZ;rfl|show Cn _;constructor|exact rfl|show (_:PV)=_;(simp [*];done);done|intro h)
theorem aqM (a b:Vl):PF Tryz.prog 198 [.agg a.cells, .agg b.cells] (vb (aaX a b)):=by
 have h1:=sB a b
 have h2:=sB b a
 unfold aaX
 refine pF Tryz.func198 rfl (λst=> ?_)
 (repeat' first|apply wZ;rfl|show Cn _;constructor|exact rfl|((first|apply h1|apply h2))|apply wY;rfl)
def atV (o:List Vl) (v:Vl):Nat:=(o.findIdx? λx=> !gS x v).getD o.length
def apD (o:List Vl) (v:Vl):List Vl:=if atV o v<o.length/\aaX o[atV o v]! v=true then o else dM o (atV o v) [v]
def jQ (l:List Pt):List Vl:=l.foldl (λo p=>apD o p.val) []
theorem aHK (o:List Vl) (v:Vl):atV o v<=o.length:=by
 unfold atV
 cases h:o.findIdx? λx=> !gS x v with
 |none=>exact Nat.le_refl _
 |some k=>exact Nat.le_of_lt (List.findIdx?_eq_some_iff_getElem.1 h).1
theorem aBt {o:List Vl} {v:Vl} {a:Nat} (ha:a<=o.length) (h1:∀j (h:j<o.length),j<a->gS o[j] v=true) (h2:∀h:a<o.length,gS o[a] v=false):atV o v=a:=by
 unfold atV
 rcases Nat.lt_or_ge a o.length with h|h
 ·rw [List.findIdx?_eq_some_iff_getElem.2 ⟨h,by rw [h2 h];rfl,λj hj=>by rw [h1 j (by omega) hj];simp⟩];rfl
 ·rw [List.findIdx?_eq_none_iff.2 λx hx=>by
   obtain ⟨j,hj,rfl⟩:=zgo hx
   rw [h1 j hj (by omega)];rfl]
  show o.length=a
  omega
theorem aDL (o:List Vl) (v:Vl):(apD o v).length<=o.length+1:=by
 unfold apD
 split
 ·omega
 ·rw [yG (aHK o v)];exact Nat.le_refl _
theorem avF {l:List Pt} {i:Nat} (h:i<l.length):jQ (l.take (i+1))=apD (jQ (l.take i)) l[i].val:=by
 unfold jQ
 rw [List.take_succ_eq_append_getElem h,List.foldl_append];rfl
theorem anC (l:List Pt):(jQ l).length<=l.length:=by
 have key:∀i,i<=l.length->(jQ (l.take i)).length<=i:=by
  intro i
  induction i with
  |zero=>intro _;simp [jQ]
  |succ i ih=>
   intro h
   rw [avF (by omega)]
   have:=aDL (jQ (l.take i)) l[i].val
   have:=ih (by omega)
   omega
 have:=key l.length (Nat.le_refl _)
 rwa [List.take_length] at this
theorem aEM (c:Cl) (hl:c.parts.length<1000000000) (st:aD):PC Tryz.prog 121 [.agg c.cells] st λr S=>∃id,r= .vec id 3 0 (jQ c.parts).length/\st id=none/\S=upd st id (some (.arr 63 ((jQ c.parts).map Vl.cells))):=by
 refine pC Tryz.func121 rfl ?_
 focus ((repeat' first|apply wZ;rfl|show Cn _;constructor))
 refine fK 3 63 3 rfl rfl rfl (λid hid=> ?_)
 refine aC (X:={x:Nat×Nat×List Vl//x.1<=c.parts.length/\st x.2.1=none/\x.2.2=jQ (c.parts.take x.1)}) (λi=>(((((St.nil 51 (upd st i.1.2.1 (some (.arr 63 (i.1.2.2.map Vl.cells))))).pv 3 (.vec i.1.2.1 3 0 i.1.2.2.length)).pv 8 (.seq (c.parts.map Pt.cells))).pv 9 ((vi (((c.parts.map Pt.cells).length:Nat))))).pv 10 ((vi ((i.1.1:Nat)))))) (λi=>c.parts.length-i.1.1) ⟨(0,id,[]),by simp,hid,rfl⟩ ?_ (λi=> ?_)
 ·dsimp only
  (repeat' first|show Cn (.t _ _);exact Cn.t0|show Cn _;constructor|exact rfl)
 obtain ⟨⟨i,id,o⟩,hi,hid,ho⟩:=i
 simp only at hi hid ho
 dsimp only
 have hol:o.length<=i:=by rw [ho];have:=anC (c.parts.take i);rw [zlt] at this;omega
 by_cases hend:c.parts.length<=i
 have e:o=jQ c.parts:=by rw [ho,ztl hend]
 subst e
 focus ((repeat' first|show Cn (.r _ _ _);refine .rr ?_;(exact ⟨id,rfl,hid,rfl⟩);done|apply wZ;rfl|show Cn _;constructor|simp only [zql];omega|(intro h;simp at h)))
 have hil:i<c.parts.length:=by omega
 have hu:=avF hil
 rw [<-ho] at hu
 focus ((repeat' first|apply wZ;rfl|show Cn _;constructor|exact rfl|apply wI;rfl|apply gE;omega|simp only [zql];omega|(intro h;simp at h)))
 refine aC (X:={x:Nat//x<=o.length/\∀j (h:j<o.length),j<x->gS o[j] c.parts[i].val=true}) (λy=>(((((((St.nil 51 (upd st id (some (.arr 63 (o.map Vl.cells))))).pv 3 (.vec id 3 0 o.length)).var 5 149 (c.parts[i].cells)).pv 6 ((vi ((y.1:Nat))))).pv 8 (.seq (c.parts.map Pt.cells))).pv 9 ((vi (((c.parts.map Pt.cells).length:Nat))))).pv 10 ((vi ((i:Nat)))))) (λy=>o.length-y.1) ⟨0,by omega,by omega⟩ ?_ (λy=> ?_)
 ·(repeat' first|show Cn (.t _ _);exact Cn.t0|show Cn _;constructor|exact rfl)
 obtain ⟨a,ha,hA⟩:=y
 dsimp only
 by_cases hlt:a<o.length
 have ea:o.toArray[a]! =o[a]:=by rw [getElem!_pos o.toArray a (by simpa using hlt)];simp
 have hless:=sB o.toArray[a]! c.parts[i].val
 have hsame:=aqM o.toArray[a]! c.parts[i].val
 have hup:gS o[a] c.parts[i].val=true->∀j (h:j<o.length),j<a+1->gS o[j] c.parts[i].val=true:=λh j hj hja=>by
  rcases zls.1 hja with q|q
  ·exact hA j hj q
  ·subst q;exact h
 have hat:=λh:gS o[a] c.parts[i].val=false=>aBt (v:=c.parts[i].val) ha hA λ_=>h
 have hIf:apD o c.parts[i].val=if atV o c.parts[i].val<o.length/\aaX o[atV o c.parts[i].val]! c.parts[i].val=true then o else dM o (atV o c.parts[i].val) [c.parts[i].val]:=rfl
 cases hF:gS o[a] c.parts[i].val with
 |true=>
  rw [show gS o.toArray[a]! c.parts[i].val=true from by rw [ea];exact hF] at hless
  have hA2:=hup hF
  (repeat' first|apply wDx pk;rfl;kernel_rfl;rfl;rfl|(apply Cn.cf;focus ((apply hless);done))|(refine ⟨⟨a+1,by omega,hA2⟩, ?_, ?_⟩)|show Cn (.t _ _);exact Cn.t0|apply wZ;rfl|show Cn _;constructor|exact rfl|apply ixA pk;(iterate 5 rfl);rotate_left;rfl;(intro hw;(exact (show _=((a:Nat):Int) from by omega)));(intro hw;(omega));rfl;(exact Nat.zero_add _)|apply ldA pk Vl.elem;rfl;rfl;rotate_left;rfl;(exact aA _ _ _);(intro hw;(omega));rfl|apply wY;rfl|omega|simp only [zql];omega|intro h;simp at h;omega|(intro h;simp at h))
 |false=>
  rw [show gS o.toArray[a]! c.parts[i].val=false from by rw [ea];exact hF] at hless
  rw [hat hF,getElem!_pos o a hlt] at hIf
  cases hG:aaX o[a] c.parts[i].val with
  |true=>
   rw [show aaX o.toArray[a]! c.parts[i].val=true from by rw [ea];exact hG] at hsame
   rw [hG] at hIf
   rw [zp ⟨hlt,rfl⟩] at hIf
   rw [hIf] at hu
   have hu2:o=jQ (c.parts.take (i+1)):=hu.symm
   (repeat' first|apply wDx pk;rfl;kernel_rfl;rfl;rfl|(apply Cn.cf;focus (((first|apply hless|apply hsame));done))|(refine ⟨⟨(i+1,id,o),by simp only;omega,hid,hu2⟩, ?_, ?_⟩)|show Cn (.t _ _);exact Cn.t0|apply wZ;rfl|show Cn _;constructor|exact rfl|apply ixA pk;(iterate 5 rfl);rotate_left;rfl;(intro hw;(exact (show _=((a:Nat):Int) from by omega)));(intro hw;(omega));rfl;(exact Nat.zero_add _)|apply ldA pk Vl.elem;rfl;rfl;rotate_left;rfl;(exact aA _ _ _);(intro hw;(omega));rfl|apply wY;rfl|omega|simp only [zql];omega|intro h;simp at h;done|intro h;simp at h;omega|(intro h;simp at h))
  |false=>
   rw [show aaX o.toArray[a]! c.parts[i].val=false from by rw [ea];exact hG] at hsame
   rw [hG] at hIf
   rw [zn (by simp)] at hIf
   rw [hIf] at hu
   have hu2:dM o a [c.parts[i].val]=jQ (c.parts.take (i+1)):=hu.symm
   (repeat' first|apply wDx pk;rfl;kernel_rfl;rfl;rfl|(apply Cn.cf;focus (((first|apply hless|apply hsame));done))|(apply cP;rfl;(apply (akE o [c.parts[i].val] a id o.length _ (aA _ _ _) rfl (by omega) (by simp) (by simp;omega)));rintro _ st' (⟨id2,rfl,hid2,rfl⟩))|(refine ⟨⟨(i+1,id2,dM o a [c.parts[i].val]),by simp only;omega,gQ hid hid2,hu2⟩, ?_, ?_⟩)|show Cn (.t _ _);exact .any (bP ‹_›)|apply wZ;rfl|show Cn _;constructor|exact rfl|apply ixA pk;(iterate 5 rfl);rotate_left;rfl;(intro hw;(exact (show _=((a:Nat):Int) from by omega)));(intro hw;(omega));rfl;(exact Nat.zero_add _)|apply ldA pk Vl.elem;rfl;rfl;rotate_left;rfl;(exact aA _ _ _);(intro hw;(omega));rfl|apply wY;rfl|omega|simp only [zql];omega|intro h;simp at h;done|(intro h;simp at h))
 have hIf:apD o c.parts[i].val=dM o a [c.parts[i].val]:=by
  unfold apD
  rw [aBt (v:=c.parts[i].val) ha hA λh=>absurd h hlt,zn (by simp [hlt])]
 rw [hIf] at hu
 have hu2:dM o a [c.parts[i].val]=jQ (c.parts.take (i+1)):=hu.symm
 obtain rfl:a=o.length:=by omega
 (repeat' first|apply wDx pk;rfl;kernel_rfl;rfl;rfl|(apply cW;focus (intro _;(apply (show PF Tryz.prog 197 [_,_] (vb (false)) from by rename_i hh;simp [gw] at hh));done))|(apply cW;focus (intro _;(apply (show PF Tryz.prog 198 [_,_] (vb (false)) from by rename_i hh;simp [gw] at hh));done))|(apply cP;rfl;(apply (akE o [c.parts[i].val] o.length id o.length _ (aA _ _ _) rfl (by omega) (by simp) (by simp;omega)));rintro _ st' (⟨id2,rfl,hid2,rfl⟩))|(refine ⟨⟨(i+1,id2,dM o o.length [c.parts[i].val]),by simp only;omega,gQ hid hid2,hu2⟩, ?_, ?_⟩)|show Cn (.t _ _);exact .any (bP ‹_›)|apply wZ;rfl|show Cn _;constructor|exact rfl|apply ixA pk;(iterate 5 rfl);rotate_left;rfl;(intro hw;(exact (show _=((o.length:Nat):Int) from by omega)));(intro hw;((focus (simp [gw] at hw;done))));rfl;(exact Nat.zero_add _)|apply ldA pk Vl.elem;rfl;rfl;rotate_left;rfl;(exact aA _ _ _);(intro hw;((focus (simp [gw] at hw;done))));rfl|apply wY;rfl|omega|simp only [zql];omega|intro h;simp at h;done|(intro h;simp at h))
end Go.Proofs.YtfablfldonhkiaaGreatDoor
