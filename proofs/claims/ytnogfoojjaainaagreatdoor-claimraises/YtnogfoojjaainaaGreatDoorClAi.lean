import Derived.Test.YtnogfoojjaainaaGreatDoorClAh
import Derived.Test.YtnogfoojjaainaaGreatDoorClAf
import Derived.Test.YtnogfoojjaainaaGreatDoorClAg
import Derived.Test.YtnogfoojjaainaaGreatDoorAbsI
set_option linter.unusedSimpArgs false
set_option linter.unusedVariables false
namespace Go.Proofs.YtnogfoojjaainaaGreatDoor
open Go Go.Abs
section
attribute [local irreducible] Ev PWp
set_option maxRecDepth 10000
set_option maxHeartbeats 4000000
theorem awB{α:Type}{f:α->Bool}:∀{l:List α}{i:Nat}(h:i<l.length),f l[i]=true->(∀j (hj:j<l.length),j<i->f l[j]=false)->agK f l=i
 |[],_,h,_,_=>by simp at h
 |a::l,0,_,hf,_=>by rw[rZ,zp (show f a=true from hf)]
 |a::l,i+1,h,hf,hn=>by
  rw[rZ,zn (by rw[show f a=false from hn 0 (by simp) (by omega)];simp),awB (l:=l) (i:=i) (by simpa using h) hf λj hj d=>hn (j+1) (by simp;omega) (by omega)]
theorem atC{α:Type}{f:α->Bool}:∀{l:List α},(∀j (hj:j<l.length),f l[j]=false)->agK f l=l.length
 |[],_=>rfl
 |a::l,hn=>by
  rw[rZ,zn (by rw[show f a=false from hn 0 (by simp)];simp),atC (l:=l) λj hj=>hn (j+1) (by simp;omega)];rfl
def aAO(st:aD)(c:Cl)(r:PV)(S:aD):Prop:=∃id,r= .agg [vi c.kind,vi c.val.kind,vi c.val.n,vs c.val.s, .vec id 11 0 c.parts.length]/\st id=none/\S=upd st id (some (.arr 177 (c.parts.map Pt.cells)))
theorem axP{f:FuncId}{args:List PV}{c:Cl}(h:∀st,PC Tryz.prog f args st (aAO st c)):PF Tryz.prog f args (.agg c.cells):=λst=>
 fD (sz:=11) (h st) λp st' h=>by
  obtain⟨id,rfl,a,rfl⟩:=h
  exact .inl ⟨id,177,c.parts.map Pt.cells,_,st,aA _ _ _,sU, .agg (.cons .refl (.cons .refl (.cons .refl (.cons .refl (.cons (eQ (by simp)) .nil))))),bU a,rfl,rfl⟩
theorem aHf(l:List Pt)(g:FuncId)(caps:List PV)(f:Pt->Bool)(hl:l.length<1000000000)(hf:∀p,PF Tryz.prog g ([.agg p.cells]++caps) (vb (f p)))(st:aD):PC Tryz.prog 258 [.seq (l.map Pt.cells), .fn g caps] st λr S=>∃id,r= .vec id 11 0 (l.filter f).length/\st id=none/\S=upd st id (some (.arr 177 ((l.filter f).map Pt.cells))):=by
 refine pC Tryz.func258 rfl ?_
 repeat' first|apply wZ;rfl|show Cn _;constructor
 refine eC 5 177 11 rfl rfl rfl λid a=>?_;refine aC (X:={x:Nat×Nat//x.1<=l.length/\st x.2=none}) (λi=>((((((St.nil 23 (upd st i.1.2 (some (.arr 177 (((l.take i.1.1).filter f).map Pt.cells))))).pv 1 (.fn g caps)).pv 5 (.vec i.1.2 11 0 ((l.take i.1.1).filter f).length)).pv 8 (.seq (l.map Pt.cells))).pv 9 (vi ((l.map Pt.cells).length:Nat))).pv 10 (vi (i.1.1:Nat)))) (λi=>l.length-i.1.1) ⟨(0,id),by simp,a⟩ ?_ λi=>?_
 ·dsimp only
  repeat' first|show Cn (.t _ _);exact Cn.t0|show Cn _;constructor|exact rfl
 obtain⟨⟨i,id⟩,hi,a⟩:=i;simp only at hi a;dsimp only;by_cases j:l.length<=i
 ·have e:l.take i=l:=ztl j
  rw[e]
  repeat' first|show Cn (.r _ _ _);refine .rr ?_;(exact⟨id,rfl,a,rfl⟩);done|apply wZ;rfl|show Cn _;constructor|simp only[zql];omega|intro h;simp at h
 have q:i<l.length:=by omega
 have d:=hf l[i];have u:((l.take i).filter f).length<=l.length:=Nat.le_trans (List.length_filter_le ..) (by simp;omega);cases hb:f l[i]with
 |false=>
  have e:(l.take (i+1)).filter f=(l.take i).filter f:=by rw[List.take_succ_eq_append_getElem q,List.filter_append];simp[hb]
  rw[hb]at d
  (repeat' first|apply Cn.cf;focus((apply d);done)|refine⟨⟨(i+1,id),by simp only;omega,a⟩,?_,?_⟩;(dsimp only;rw[e])|apply wZ;rfl|show Cn _;constructor|exact rfl|apply wY;rfl|apply wI;rfl|apply gE;omega|omega|simp only[zql];omega|intro h;simp at h)
 |true=>
  have e:(l.take (i+1)).filter f=(l.take i).filter f++[l[i]]:=by rw[List.take_succ_eq_append_getElem q,List.filter_append];simp[hb]
  rw[hb]at d;generalize(l.take i).filter f=K at*
  repeat' first|apply Cn.cf;focus((apply d);done)|refine⟨⟨(i+1,m),by simp only;omega,cG k⟩,?_,?_⟩;(dsimp only;rw[e])|show Cn (.t _ _);exact .any (bI ‹_›)|apply wZ;rfl|show Cn _;constructor|exact rfl|show _=_;(simp)|apply apV pk (f:=Pt.cells) [l[i]] 96;(iterate 9 rfl);(exact aA _ _ _);(omega);exactλ_=>rfl;exactλ_=>rfl;exact xE;(focus(simp;omega));(focus(simp;omega));rfl;intro m k|apply wY;rfl|apply wI;rfl|apply gE;omega|omega|simp only[zql];omega|intro h;simp at h
theorem aKs(a b:Dt):(decide (a.dev=b.dev)&&decide (a.seq=b.seq))=decide (a=b):=by
 rw[Bool.eq_iff_iff];simp[Dt.ext_iff]
theorem auS(d:Dt)(kn:List Int)(hk:kn.length<1000000000000)(p:Pt):PF Tryz.prog 259 ([.agg p.cells]++[.rp d.cells, .rp [.seq (kn.map I1)]]) (vb (tQ d kn p)):=by
 have h:=ajA kn p.dot hk;have e:tQ d kn p=(!(decide (p.dot.dev=d.dev)&&decide (p.dot.seq=d.seq))&& !arQ kn p.dot):=by unfold tQ;rw[aKs];simp
 rw[e];generalize arQ kn p.dot=H at*;refine pF Tryz.func259 rfl λst=>?_
 repeat' first|apply wZ;rfl|show Cn _;constructor|exact rfl|apply h|apply wY;rfl
theorem aBL(c:Cl)(v:Vl)(d:Dt)(kn:List Int)(hl:c.parts.length<1000000000)(hk:kn.length<1000000000000)(st:aD):PC Tryz.prog 190 [.agg c.cells, .agg v.cells, .agg d.cells, .seq (kn.map I1)] st (aAO st (jB c v d kn)):=by
 have C:=aHf c.parts 259 [.rp d.cells, .rp [.seq (kn.map I1)]] (tQ d kn) hl (auS d kn hk);have E:=List.length_filter_le (tQ d kn) c.parts;unfold aAO jB;dsimp only;generalize c.parts.filter (tQ d kn)=K at*;refine pC Tryz.func190 rfl ?_
 focus(repeat' first|apply cP;rfl;(apply C _);rintro _ st' (⟨id,rfl,l,rfl⟩)|apply wZ;rfl|show Cn _;constructor|apply bB 6;rfl;rfl|apply bB 7;rfl;rfl|apply wY;rfl)
 have l:st id=none:=l;refine aC (X:={x:Nat//x<=K.length/\∀j (h:j<K.length),j<x->aW K[j].dot d=false}) (λi=>((((((((((St.nil 42 (upd st id (some (.arr 177 (K.map Pt.cells))))).var 4 116 (c.cells)).var 5 60 (v.cells)).pv 6 (.rp d.cells)).var 8 116 ([vi 0,vi 0,vi 0,vs e0, .val (.slice none 0 0)])).pv 9 (.vec id 11 0 K.length)).pv 10 (vi (K.length:Nat))).pv 19 (.vec id 11 0 K.length)).pv 20 (vi (K.length:Nat))).pv 21 (vi (i.1:Nat)))) (λi=>K.length-i.1) ⟨0,by omega,by omega⟩ ?_ λi=>?_
 ·repeat' first|show Cn (.t _ _);exact Cn.t0|show Cn _;constructor|exact rfl
 obtain⟨i,hi,y⟩:=i;dsimp only;have m:=λ(k:Nat)(hk:k<=K.length)(st2:aD)(hst:st2 id=some (.arr 177 (K.map Pt.cells)))=>amR K [ptN v d] k id K.length st2 hst rfl hk (by simp) (by simp;omega);by_cases D:K.length<=i
 ·have e:=atC (f:=λp:Pt=>aW p.dot d) λj hj=>y j hj (by omega)
  rw[e]
  repeat' first|exact Cn.any ⟨_,_,upd st id2 (some (.arr 177 ((dQ K K.length [ptN v d]).map Pt.cells))),rfl,zwr _,kX l,id2,rfl,iO l hid2,rfl⟩|apply cP;rfl;(apply m K.length (Nat.le_refl _) _ (aA _ _ _));rintro _ st' (⟨id2,rfl,hid2,rfl⟩)|apply wZ;rfl|show Cn _;constructor|apply wY;rfl|omega|intro h;simp at h
 have r:i<K.length:=by omega
 have u:=aiP K[i].dot d;have g:=awZ K[i].dot d;cases hb:aW K[i].dot d with
 |true=>
  have e:=awB (f:=λp:Pt=>aW p.dot d) r hb y;rw[e];rw[hb]at g;have g:byD K[i].dot d>0:=by simpa using g
  generalize byD K[i].dot d=B at*
  (repeat' first|exact Cn.any ⟨_,_,upd st id2 (some (.arr 177 ((dQ K i [ptN v d]).map Pt.cells))),rfl,zwr _,kX l,id2,rfl,iO l hid2,rfl⟩|apply Cn.cf;focus((apply u);done)|apply cP;rfl;(apply m i hi _ (aA _ _ _));rintro _ st' (⟨id2,rfl,hid2,rfl⟩)|apply wZ;rfl|show Cn _;constructor|apply ldL pk Pt.elem (a:=K[i]);rfl;rfl;rotate_left;rfl;(exact aA _ _ _);(intro _;exact zgg r);rfl|apply ixA pk;(iterate 5 rfl);rotate_left;rfl;(intro hw;(exact(show _=((i:Nat):Int)from by omega)));(intro hw;(omega));rfl;(exact Nat.zero_add _)|apply wY;rfl|omega|intro h;simp at h)
 |false=>
  rw[hb]at g;have g:¬byD K[i].dot d>0:=by simpa using g
  have z:∀j (h:j<K.length),j<i+1->aW K[j].dot d=false:=λj hj A=>by
   rcases zls.1 A with q|q
   ·exact y j hj q
   ·subst q;exact hb
  generalize byD K[i].dot d=B at*
  repeat' first|apply Cn.cf;focus((apply u);done)|refine⟨⟨i+1,by omega,z⟩,?_,?_⟩|show Cn (.t _ _);exact Cn.t0|apply wZ;rfl|show Cn _;constructor|exact rfl|apply ldL pk Pt.elem (a:=K[i]);rfl;rfl;rotate_left;rfl;(exact aA _ _ _);(intro _;exact zgg r);rfl|apply ixA pk;(iterate 5 rfl);rotate_left;rfl;(intro hw;(exact(show _=((i:Nat):Int)from by omega)));(intro hw;(omega));rfl;(exact Nat.zero_add _)|apply wY;rfl|omega|simp only[zql];omega|intro h;simp at h
theorem aaZ(c:Cl)(v:Vl)(d:Dt)(kn:List Int)(hl:c.parts.length<1000000000)(hk:kn.length<1000000000000):PF Tryz.prog 190 [.agg c.cells, .agg v.cells, .agg d.cells, .seq (kn.map I1)] (.agg (jB c v d kn).cells):=axP (aBL c v d kn hl hk)
def aAG(n:Int)(d:Dt):List Value:=[.int .i64 n, .int .i64 d.dev, .int .i64 d.seq]
theorem aFS(n:Int)(d:Dt)(p:Pt):decide (ahI (ptN (nV n) d) p=0)=tP n d p:=by
 unfold ahI tP jE ptN nV;simp only[orI];rw[Bool.eq_iff_iff];simp only[zde,zba,Dt.ext_iff]
 grind
theorem aGi(c:Cl)(n:Int)(d:Dt)(hl:c.parts.length<1000000000)(st:aD):PC Tryz.prog 194 [.agg c.cells,vi n, .agg d.cells] st (aAO st (oK c n d)):=by
 have B:=yS c.parts;have e:=λp=>axF (ptN (nV n) d) p;have hz:=aFS n d;have f:=λp=>aFi (ptN (nV n) d) p;refine pC Tryz.func194 rfl ?_
 focus(repeat' first|apply wZ;rfl|show Cn _;constructor|apply mkB (xs:=aAG n d);iterate 4 rfl)
 refine aC (X:={x:Nat×Nat//x.1<=c.parts.length/\(∀j (h:j<c.parts.length),j<x.1->tP n d c.parts[j]=false)/\((x.2=c.parts.length/\∀j (h:j<c.parts.length),j<x.1->dP c.parts[j] (ptN (nV n) d)=false)\/(∃h:x.2<c.parts.length,dP c.parts[x.2] (ptN (nV n) d)=true/\∀j (h:j<c.parts.length),j<x.2->dP c.parts[j] (ptN (nV n) d)=false))}) (λi=>((((((((((St.nil 65 st).pv 1 (vi n)).var 3 116 (c.cells)).var 5 69 (d.cells)).var 6 116 ([vi 0,vi 0,vi 0,vs e0, .val (.slice none 0 0)])).pv 8 (.val (anI 227 (aAG n d)))).pv 9 (vi (i.1.2:Nat))).pv 22 (.seq (c.parts.map Pt.cells))).pv 23 (vi ((c.parts.map Pt.cells).length:Nat))).pv 24 (vi (i.1.1:Nat)))) (λi=>c.parts.length-i.1.1) ⟨(0,c.parts.length),by simp,by simp, .inl ⟨rfl,by simp⟩⟩ ?_ λi=>?_
 ·repeat' first|show Cn _;constructor|exact rfl|simp
 obtain⟨⟨i,a⟩,hi,hs,ha⟩:=i;simp only at hi hs ha;dsimp only;by_cases K:c.parts.length<=i
 ·have I:¬c.parts.any (tP n d)=true:=by
   rw[List.any_eq_true];rintro⟨p,hp,q⟩;obtain⟨j,hj,rfl⟩:=zgo hp;rw[hs j hj (by omega)]at q;cases q
  have l:a<=c.parts.length/\agK (λp=>dP p (ptN (nV n) d)) c.parts=a:=by
   rcases ha with⟨F,G⟩|⟨F,G,L⟩
   ·subst F;exact⟨Nat.le_refl _,atC λj hj=>G j hj (by omega)⟩
   ·exact⟨by omega,awB F G L⟩
  unfold aAO oK;rw[zn I,l.2];have l:=l.1;dsimp only;have D:=λ(id:Nat)(st2:aD)(hst:st2 id=some (.arr 177 (c.parts.map Pt.cells)))=>amR c.parts [ptN (nV n) d] a id c.parts.length st2 hst rfl l (by simp) (by simp;omega)
  repeat' first|exact Cn.any ⟨_,_,upd st id2 (some (.arr 177 ((dQ c.parts a [ptN (nV n) d]).map Pt.cells))),rfl,zwr _,kX hid,id2,rfl,iO hid hid2,rfl⟩|apply wDO pk [0,1,3,4,5,6,7,8,2,9,10,11] [2,9] [] [8,9] [];rfl;rfl;kernel_rfl;rfl;rfl|apply cP;rfl;(apply(B _ (by omega)));rintro _ st' (⟨id,rfl,hid,rfl⟩)|apply cP;rfl;(apply D id _ (aA _ _ _));rintro _ st' (⟨id2,rfl,hid2,rfl⟩)|apply wZ;rfl|show Cn _;constructor|apply wY;rfl|simp only[zql];omega|intro h;simp at h
 have C:i<c.parts.length:=by omega
 have e:=e c.parts[i];have hz:=hz c.parts[i];have f:=f c.parts[i];have m:=xO c.parts[i];by_cases A:tP n d c.parts[i]=true
 ·rw[A]at hz
  have hz:ahI (ptN (nV n) d) c.parts[i]=0:=by simpa using hz
  rw[hz]at e;have E:c.parts.any (tP n d)=true:=List.any_eq_true.2 ⟨_,zgm C,A⟩;unfold aAO oK;rw[zp E]
  repeat' first|apply Cn.cf;focus((apply m);done)|apply cP;rfl;(apply(B _ (by omega)));rintro _ st' (⟨id,rfl,hid,rfl⟩)|show Cn (.r _ _ _);refine .rr ?_;(exact⟨id,rfl,hid,rfl⟩);done|apply wZ;rfl|show Cn _;constructor|exact rfl|apply axN (xs:=aAG n d);rfl;rfl;exact e;rfl;rfl;rfl|apply wY;rfl|apply wI;rfl|apply gE;omega|simp only[zql];omega|intro h;simp at h
 have u:tP n d c.parts[i]=false:=by simpa using A
 have z:∀j (h:j<c.parts.length),j<i+1->tP n d c.parts[j]=false:=λj hj y=>by
  rcases zls.1 y with q|q
  ·exact hs j hj q
  ·subst q;exact u
 rw[u]at hz;have hz:¬ahI (ptN (nV n) d) c.parts[i]=0:=by simpa using hz
 have g:dP c.parts[i] (ptN (nV n) d)=decide (ahI (ptN (nV n) d) c.parts[i]<0):=by
  cases J:dP c.parts[i] (ptN (nV n) d)with
  |true=>
   rw[J]at f;have:=of_decide_eq_false f;exact(decide_eq_true (by omega)).symm
  |false=>
   rw[J]at f;have:=of_decide_eq_true f;exact(decide_eq_false (by omega)).symm
 clear f;generalize ahI (ptN (nV n) d) c.parts[i]=O at*;by_cases t:O<0
 ·rw[decide_eq_true t]at g
  by_cases H:a=c.parts.length
  ·have k:∀j (h:j<c.parts.length),j<i->dP c.parts[j] (ptN (nV n) d)=false:=by
    rcases ha with⟨_,q⟩|⟨q,_⟩
    ·exact q
    ·omega
   repeat' first|refine⟨⟨(i+1,i),by simp only;omega,z, .inr ⟨C,g,k⟩⟩,?_,?_⟩|apply wZ;rfl|show Cn _;constructor|exact rfl|apply m|apply axN (xs:=aAG n d);rfl;rfl;exact e;rfl;rfl;rfl|apply wY;rfl|apply wI;rfl|apply gE;omega|omega|simp only[zql];omega|intro h;simp at h;omega|intro h;simp at h|intro h
  ·have k:∃h:a<c.parts.length,dP c.parts[a] (ptN (nV n) d)=true/\∀j (h:j<c.parts.length),j<a->dP c.parts[j] (ptN (nV n) d)=false:=by
    rcases ha with⟨q,_⟩|q
    ·exact absurd q H
    ·exact q
   repeat' first|refine⟨⟨(i+1,a),by simp only;omega,z, .inr k⟩,?_,?_⟩|apply wZ;rfl|show Cn _;constructor|exact rfl|apply m|apply axN (xs:=aAG n d);rfl;rfl;exact e;rfl;rfl;rfl|apply wY;rfl|apply wI;rfl|apply gE;omega|omega|simp only[zql];omega|intro h;simp at h;omega|intro h;simp at h|intro h
 ·rw[decide_eq_false t]at g
  have k:(a=c.parts.length/\∀j (h:j<c.parts.length),j<i+1->dP c.parts[j] (ptN (nV n) d)=false)\/∃h:a<c.parts.length,dP c.parts[a] (ptN (nV n) d)=true/\∀j (h:j<c.parts.length),j<a->dP c.parts[j] (ptN (nV n) d)=false:=by
   rcases ha with⟨F,G⟩|q
   ·refine .inl ⟨F,λj hj y=>?_⟩
    rcases zls.1 y with q|q
    ·exact G j hj q
    ·subst q;exact g
   ·exact .inr q
  repeat' first|refine⟨⟨(i+1,a),by simp only;omega,z,k⟩,?_,?_⟩|apply wZ;rfl|show Cn _;constructor|exact rfl|apply m|apply axN (xs:=aAG n d);rfl;rfl;exact e;rfl;rfl;rfl|apply wY;rfl|apply wI;rfl|apply gE;omega|omega|simp only[zql];omega|intro h;simp at h;omega|intro h;simp at h|intro h
theorem aeB(c:Cl)(n:Int)(d:Dt)(hl:c.parts.length<1000000000):PF Tryz.prog 194 [.agg c.cells,vi n, .agg d.cells] (.agg (oK c n d).cells):=axP (aGi c n d hl)
theorem agE(c e:Cl):PF Tryz.prog 231 [.seq [c.cells,e.cells]] (vi (if bV c≠0 then bV c else bV e)):=by
 have hc:=mO c;have g:=mO e;generalize bV c=R at*;generalize bV e=Q at*;refine pF Tryz.func231 rfl λst=>?_
 repeat' first|apply wZ;rfl|show Cn _;constructor
 refine aC (X:={x:Nat//x<=2/\(0<x->R=0)/\(x=2->Q=0)}) (λi=>((((St.nil 18 st).pv 6 (.seq [c.cells,e.cells])).pv 7 (vi (([c.cells,e.cells]).length:Nat))).pv 8 (vi (i.1:Nat)))) (λi=>2-i.1) ⟨0,by omega,by omega,by omega⟩ ?_ λi=>?_
 ·repeat' first|show Cn _;constructor|exact rfl
 obtain⟨i,l,a,d⟩:=i;dsimp only;rcases(show i=0\/i=1\/i=2 by omega)with rfl|rfl|rfl
 ·by_cases f:R=0
  ·repeat' first|refine⟨⟨1,by omega,λ_=>f,by omega⟩,?_,?_⟩|apply wZ;rfl|show Cn _;constructor|exact rfl|apply cL pk;(iterate 6 rfl);rotate_left;rfl;(intro hw;rfl);(intro hw;apply(rfl:([c.cells,e.cells]:List (List PV))[0]?=some c.cells)<;>omega);(intro _;rfl);rfl|apply hc|apply wY;rfl|omega|simp only[zql];omega|intro h
  ·repeat' first|apply wZ;rfl|show Cn _;constructor|exact rfl|apply cL pk;(iterate 6 rfl);rotate_left;rfl;(intro hw;rfl);(intro hw;apply(rfl:([c.cells,e.cells]:List (List PV))[0]?=some c.cells)<;>omega);(intro _;rfl);rfl|apply hc|show(_:PV)=_;(rw[zp f]);done|apply wY;rfl|omega|intro h
 ·have h0:=a (by omega)
  by_cases k:Q=0
  ·repeat' first|refine⟨⟨2,by omega,λ_=>h0,λ_=>k⟩,?_,?_⟩|apply wZ;rfl|show Cn _;constructor|exact rfl|apply cL pk;(iterate 6 rfl);rotate_left;rfl;(intro hw;rfl);(intro hw;apply(rfl:([c.cells,e.cells]:List (List PV))[1]?=some e.cells)<;>omega);(intro _;rfl);rfl|apply g|apply wY;rfl|omega|simp only[zql];omega|intro h
  ·repeat' first|apply wZ;rfl|show Cn _;constructor|exact rfl|apply cL pk;(iterate 6 rfl);rotate_left;rfl;(intro hw;rfl);(intro hw;apply(rfl:([c.cells,e.cells]:List (List PV))[1]?=some e.cells)<;>omega);(intro _;rfl);rfl|apply g|show(_:PV)=_;(rw[zn (by omega)]);done|apply wY;rfl|omega|intro h
 ·have h0:=a (by omega)
  have j:=d rfl
  repeat' first|apply wZ;rfl|show Cn _;constructor|exact rfl|show(_:PV)=_;(rw[zn (by omega),j]);done
def abH(r:Cl×Int):PV:= .tup [.agg r.1.cells,vi r.2]
theorem aJh(e:Int):Wk (.tup [.agg [vi 0,vi 0,vi 0, .val (.string e0), .val (.slice none 0 0)],vi e]) (abH (Cl.zero,e)):=Wk.tup (.cons wkz (.cons (zwr _) .nil))
theorem aBn(c:Cl):PF Tryz.prog 263 [.agg c.cells] (abH (if bV c≠0 then(Cl.zero,bV c)else(c,0))):=by
 have hc:=wG c;generalize bV c=R at*;by_cases a:R≠0
 ·rw[zp a]
  refine pF Tryz.func263 rfl λst=>?_
  repeat' first|exact Cn.any ⟨_,_,_,rfl,aJh _,zsr _,rfl,rfl⟩|apply wZ;rfl|show Cn _;constructor|apply hc|apply wY;rfl|omega|intro h
 ·rw[zn a]
  refine pF Tryz.func263 rfl λst=>?_
  repeat' first|apply wZ;rfl|show Cn _;constructor|exact rfl|apply hc|apply wY;rfl|omega|intro h
theorem aAS{c:Cl}(h:bV c=0): -1099511627776<=c.val.n/\c.val.n<=1099511627776:=by
 unfold bV at h;split at h
 ·cases h
 ·split at h
  ·cases h
  ·split at h
   ·cases h
   ·omega
theorem ahJ(c:Cl)(n:Int)(hn:inL n):PF Tryz.prog 192 [.agg c.cells,vi n] (abH (vL c n)):=by
 have d:=xS [n] (by simp) (by simpa using hn);rw[show([n]:List Int).sum=n from by simp]at d;have a:=agE c (qE n);unfold vL;by_cases hc:bV c≠0
 ·rw[zp hc]at a⊢
  generalize bV c=R at*;refine pF Tryz.func192 rfl λst=>?_
  repeat' first|exact Cn.any ⟨_,_,_,rfl,aJh _,zsr _,rfl,rfl⟩|apply wZ;rfl|show Cn _;constructor|apply KR.mk;kernel_rfl|(first|apply d|apply a)|apply wY;rfl|omega|intro h
 rw[zn hc]at a⊢;have hc:=zdn hc;by_cases hd:bV (qE n)≠0
 ·rw[zp hd]
  generalize bV (qE n)=R at*;refine pF Tryz.func192 rfl λst=>?_
  repeat' first|exact Cn.any ⟨_,_,_,rfl,aJh _,zsr _,rfl,rfl⟩|apply wZ;rfl|show Cn _;constructor|apply KR.mk;kernel_rfl|(first|apply d|apply a)|apply wY;rfl|omega|intro h
 rw[zn hd];have hd:=zdn hd;rw[hd]at a;have g:=aAS hc;have e:=xS [c.val.n,n] (by simp) (λx hx=>by
  rcases zmc.1 hx with rfl|hx
  ·unfold inL;omega
  ·rw[zms.1 hx];exact hn)
 rw[show([c.val.n,n]:List Int).sum=c.val.n+n from by simp]at e;have h4:=aBn (qE (c.val.n+n));generalize qE (c.val.n+n)=D at*;by_cases f:bV D≠0
 ·rw[zp f]at h4⊢
  generalize bV D=R at*;refine pF Tryz.func192 rfl λst=>?_
  repeat' first|apply wZ;rfl|show Cn _;constructor|exact rfl|apply KR.mk;kernel_rfl|(first|apply d|apply a|apply e|apply h4)|apply wY;rfl
 ·rw[zn f]at h4⊢
  refine pF Tryz.func192 rfl λst=>?_
  repeat' first|apply wZ;rfl|show Cn _;constructor|exact rfl|apply KR.mk;kernel_rfl|(first|apply d|apply a|apply e|apply h4)|apply wY;rfl
theorem aBx :PF Tryz.prog 254 [] (.agg (qE 0).cells):=by
 have h:=xS [] (by simp) (by simp);refine pF Tryz.func254 rfl λst=>?_
 repeat' first|apply wZ;rfl|show Cn _;constructor|exact rfl|(apply ayJ (qs:=[.seq []]) (p:= .agg (qE 0).cells);rfl;rfl;rfl;exact WkL.cons Wk.nil .nil;(intro _;exact h);(focus repeat' constructor);rfl);rfl
theorem wkN(k:Int):Wk (.agg [vi k,vi 0,vi 0, .val (.string e0), .val (.slice none 0 0)]) (.agg (Cl.mk k Vl.zero []).cells):= .agg (.cons (zwr _) (.cons (zwr _) (.cons (zwr _) (.cons (zwr _) (.cons Wk.nil .nil)))))
theorem aBv :PF Tryz.prog 255 [] (.agg (Cl.mk 4 Vl.zero []).cells):=by
 refine pF Tryz.func255 rfl λst=>?_
 repeat' first|exact Cn.any ⟨_,_,_,rfl,wkN 4,zsr _,rfl,rfl⟩|apply wZ;rfl|show Cn _;constructor
theorem jN(w:Wr):PF Tryz.prog 120 [.agg w.cells] (.agg w.dot.cells):=by
 refine pF Tryz.func120 rfl λst=>?_
 repeat' first|apply wZ;rfl|show Cn _;constructor|exact rfl
theorem wkV(v:Vl)(e:Int):Wk (.tup [.agg [vi 0,vi v.kind,vi v.n,vs v.s, .val (.slice none 0 0)],vi e]) (abH (⟨0,v,[]⟩,e)):=Wk.tup (.cons (.agg (.cons (zwr _) (.cons (zwr _) (.cons (zwr _) (.cons (zwr _) (.cons Wk.nil .nil)))))) (.cons (zwr _) .nil))
theorem aLc(k e:Int):Wk (.tup [.agg [vi k,vi 0,vi 0, .val (.string e0), .val (.slice none 0 0)],vi e]) (abH (⟨k,Vl.zero,[]⟩,e)):=Wk.tup (.cons (wkN k) (.cons (zwr _) .nil))
theorem avM(w:Wr)(kind:Int)(v:Vl)(hv:inL v.n)(hs:v.s.size<1000000)(hk:w.knew.length<1000000000000):PF Tryz.prog 184 [.agg w.cells,vi kind, .agg v.cells] (abH (lJ w kind v)):=by
 have hd:=jN w;unfold lJ;by_cases a:kind=0
 ·rw[zp a]
  refine pF Tryz.func184 rfl λst=>?_
  repeat' first|exact Cn.any ⟨_,_,_,rfl,wkV v 0,zsr _,rfl,rfl⟩|apply wZ;rfl|show Cn _;constructor|apply KR.mk;kernel_rfl|omega|intro h
 rw[zn a];by_cases k2:kind=2
 ·rw[zp k2]
  have ha:=ahJ (qE 0) v.n hv;generalize vL (qE 0) v.n=R at*;refine pF Tryz.func184 rfl λst=>?_
  repeat' first|apply wZ;rfl|show Cn _;constructor|exact rfl|apply KR.mk;kernel_rfl|(first|apply aBx|apply ha)|apply wY;rfl|omega|intro h
 rw[zn k2];by_cases e:kind=4
 ·rw[zp e]
  have ht:=T.type_spec ⟨4,Vl.zero,[]⟩ v.s w.who Dt.zero 0 (by simp) hs;rw[show(⟨Dt.zero,0⟩:T.Nm)=T.Nm.zero from rfl]at ht;generalize T.typeP ⟨4,Vl.zero,[]⟩ v.s w.who T.Nm.zero=R at*;refine pF Tryz.func184 rfl λst=>?_
  repeat' first|apply wZ;rfl|show Cn _;constructor|exact rfl|apply KR.mk;kernel_rfl|(first|apply aBv|apply ht)|apply wY;rfl|omega|intro h
 rw[zn e];by_cases v0:v.kind=0
 ·rw[zp v0]
  refine pF Tryz.func184 rfl λst=>?_
  repeat' first|exact Cn.any ⟨_,_,_,rfl,aLc kind 0,zsr _,rfl,rfl⟩|apply wZ;rfl|show Cn _;constructor|apply KR.mk;kernel_rfl|omega|intro h
 rw[zn v0];by_cases d:kind=3
 ·rw[zp d]
  have hp:=aeB ⟨kind,Vl.zero,[]⟩ v.n w.dot (by simp);generalize oK ⟨kind,Vl.zero,[]⟩ v.n w.dot=R at*;refine pF Tryz.func184 rfl λst=>?_
  repeat' first|apply wZ;rfl|show Cn _;constructor|exact rfl|apply KR.mk;kernel_rfl|apply hd|(apply ayJ (qs:=[.agg (Cl.mk kind Vl.zero []).cells,vi v.n, .agg w.dot.cells]) (p:= .agg R.cells);rfl;rfl;rfl;exact WkL.cons (wkN kind) (.cons (zwr _) (.cons (zwr _) .nil));(intro _;exact hp);(focus repeat' constructor);rfl);rfl|apply wY;rfl|omega|intro h
 ·rw[zn d]
  have hp:=aaZ ⟨kind,Vl.zero,[]⟩ v w.dot w.knew (by simp) hk;generalize jB ⟨kind,Vl.zero,[]⟩ v w.dot w.knew=R at*;refine pF Tryz.func184 rfl λst=>?_
  repeat' first|apply wZ;rfl|show Cn _;constructor|exact rfl|apply KR.mk;kernel_rfl|apply hd|(apply ayJ (qs:=[.agg (Cl.mk kind Vl.zero []).cells, .agg v.cells, .agg w.dot.cells, .seq (w.knew.map I1)]) (p:= .agg R.cells);rfl;rfl;rfl;exact WkL.cons (wkN kind) (.cons (zwr _) (.cons (zwr _) (.cons (zwr _) .nil)));(intro _;exact hp);(focus repeat' constructor);rfl);rfl|apply wY;rfl|omega|intro h
def qS :Option (Nat×List Pt)->PV
 |none=> .val (.slice none 0 0)
 |some y=> .vec y.1 11 0 y.2.length
def nN :Option (Nat×List Pt)->List Pt
 |none=>[]
 |some y=>y.2
structure AccP (L:Nat->Prop) (S:aD) (id3:Nat) (a:Option (Nat×List Pt)):Prop where
 box:S id3=some (.cells 114 [qS a])
 arr:∀y,a=some y->S y.1=some (.arr 177 (y.2.map Pt.cells))/\¬L y.1
 out:¬L id3
theorem AccP.grow{L:Nat->Prop}{S S1:aD}{id3:Nat}{a:Option (Nat×List Pt)}(h:AccP L S id3 a){d:Nat}{f:List Pt}(hi:S d=none)(hL:∀j,L j->S j≠none)
  (k:S1=upd (upd S d (some (.arr 177 (f.map Pt.cells)))) id3 (some (.cells 114 [qS (some (d,f))]))\/∃y,a=some y/\S1=upd (upd (upd S y.1 none) d (some (.arr 177 (f.map Pt.cells)))) id3 (some (.cells 114 [qS (some (d,f))]))):
  AccP L S1 id3 (some (d,f))/\∀j,L j->S1 j=S j:=by
 have i:d≠id3:=λe=>by rw[e,h.box]at hi;cases hi
 have g:¬L d:=λq=>hL d q hi
 rcases k with rfl|⟨y,ha,rfl⟩
 ·refine⟨⟨aA _ _ _,λy e=>?_,h.out⟩,λj hj=>?_⟩
  ·injection e with e;subst e
   exact⟨by rw[aB i,aA],g⟩
  ·rw[aB (λe=>h.out (by rw[<-e];exact hj)),aB λe=>g (by rw[<-e];exact hj)]
 ·refine⟨⟨aA _ _ _,λy e=>?_,h.out⟩,λj hj=>?_⟩
  ·injection e with e;subst e
   exact⟨by rw[aB i,aA],g⟩
  ·rw[aB (λe=>h.out (by rw[<-e];exact hj)),aB (λe=>g (by rw[<-e];exact hj)),aB λe=>(h.arr y ha).2 (by rw[<-e];exact hj)]
theorem AccP.move{L d:Nat->Prop}{S S1:aD}{id3:Nat}{a:Option (Nat×List Pt)}(h:AccP L S id3 a)(f:S1 id3=S id3)(ha:∀y,a=some y->S1 y.1=S y.1/\¬d y.1)(hL:¬d id3):AccP d S1 id3 a:=
 ⟨f.trans h.box,λy e=>⟨(ha y e).1.trans (h.arr y e).1,(ha y e).2⟩,hL⟩
theorem AccP.round{L:Nat->Prop}{S S1:aD}{id3 idl:Nat}{a:Option (Nat×List Pt)}(h:AccP L S id3 a)(hl:L idl)(hL:∀j,L j->S j≠none)(d f:AObj){g:Nat}{k:List Pt}(hi:upd S idl (some d) g=none)
  (t:S1=upd (upd (upd S idl (some d)) g (some (.arr 177 (k.map Pt.cells)))) id3 (some (.cells 114 [qS (some (g,k))]))\/∃y,a=some y/\S1=upd (upd (upd (upd S idl (some d)) y.1 none) g (some (.arr 177 (k.map Pt.cells)))) id3 (some (.cells 114 [qS (some (g,k))]))):
  AccP L (upd S1 idl (some f)) id3 (some (g,k))/\S1 idl=some d/\∀j,L j->j≠idl->upd S1 idl (some f) j=S j:=by
 have r:id3≠idl:=λe=>h.out (by rw[e];exact hl)
 have hb:AccP L (upd S idl (some d)) id3 a:=h.move (aB r) (λy e=>⟨aB λq=>(h.arr y e).2 (by rw[q];exact hl),(h.arr y e).2⟩) h.out
 have m:∀j,L j->upd S idl (some d) j≠none:=λj hj=>by
  by_cases e:j=idl
  ·rw[e,aA];simp
  ·rw[aB e];exact hL j hj
 obtain⟨l,p⟩:=hb.grow hi m t
 refine⟨l.move (aB r) (λy e=>⟨aB λq=>(l.arr y e).2 (by rw[q];exact hl),(l.arr y e).2⟩) l.out,by rw[p idl hl,aA],λj hj i=>?_⟩
 rw[aB i,p j hj,aB i]
theorem aDy{idl:Nat}(l:List Pt)(d:FuncId)(caps:List PV)(f:Pt->Bool)(hl:l.length<1000000000)(hf:∀p,PF Tryz.prog d ([.agg p.cells]++caps) (vb (f p))){st:aD}(J:Nat->aD->Prop)(h0:J 0 st)
  (q:∀i S (h:i<l.length),J i S->f l[i]=false->J (i+1) S)
  (u:∀i S (h:i<l.length),J i S->f l[i]=true->PY Tryz.prog idl [.agg l[i].cells] S λr k=>r= .val (.bool true)/\J (i+1) k):
  PC Tryz.prog 312 [.yld idl, .rp [.seq (l.map Pt.cells)], .rp [.fn d caps]] st λ_ S=>J l.length S:=by
 refine pC Tryz.func312 rfl ?_
 focus(repeat' first|apply wZ;rfl|show Cn _;constructor)
 refine aC (X:={x:Nat×aD//x.1<=l.length/\J x.1 x.2}) (λi=>((((((St.nil 22 (i.1.2)).pv 0 (.yld idl)).pv 2 (.rp [.fn d caps])).pv 6 (.seq (l.map Pt.cells))).pv 7 (vi ((l.map Pt.cells).length:Nat))).pv 8 (vi (i.1.1:Nat)))) (λi=>l.length-i.1.1) ⟨(0,st),by simp,h0⟩ ?_ λi=>?_
 ·repeat' first|show Cn (.t _ _);exact Cn.t0|show Cn _;constructor|exact rfl
 obtain⟨⟨i,S⟩,hi,g⟩:=i
 simp only at hi g
 dsimp only
 by_cases m:l.length<=i
 ·have e:i=l.length:=by omega
  rw[e]at g
  repeat' first|show Cn (.r _ _ _);refine .rr ?_;(exact g);done|apply wZ;rfl|show Cn _;constructor|simp only[zql];omega|intro h;simp at h
 have j:i<l.length:=by omega
 have a:=hf l[i]
 cases hb:f l[i]with
 |false=>
  have hn:=q i S j g hb;rw[hb]at a
  (repeat' first|apply Cn.cf;focus((apply a);done)|refine⟨⟨(i+1,S),by simp only;omega,hn⟩,?_,?_⟩|apply wZ;rfl|show Cn _;constructor|exact rfl|apply aKp (vb false);rfl;rfl;rfl|apply wY;rfl|apply wI;rfl|apply gE;omega|omega|simp only[zql];omega|intro h;simp at h)
 |true=>
  have hy:=u i S j g hb;rw[hb]at a
  repeat' first|apply Cn.cf;focus((apply a);done)|refine⟨⟨(i+1,k),by simp only;omega,hJ'⟩,?_,?_⟩|apply wZ;rfl|show Cn _;constructor|exact rfl|apply aIy;rfl;rfl;rfl;exact hy;rfl;rfl;rfl;rintro _ k ⟨rfl,hJ'⟩|apply wY;rfl|apply wI;rfl|apply gE;omega|omega|simp only[zql];omega|intro h;simp at h
theorem aA0(l:List Pt)(a:FuncId)(caps:List PV):PF Tryz.prog 265 [.seq (l.map Pt.cells), .fn a caps] (.fn 312 [.rp [.seq (l.map Pt.cells)], .rp [.fn a caps]]):=by
 refine pF Tryz.func265 rfl λst=>?_
 repeat' first|apply wZ;rfl|show Cn _;constructor|exact rfl|apply bB 2;rfl;rfl|apply bB 3;rfl;rfl
theorem asG(n:Int)(d:Dt)(kn:List Int)(hk:kn.length<1000000000000)(p:Pt):PF Tryz.prog 266 ([.agg p.cells]++[.rp [vi n], .rp d.cells, .rp [.seq (kn.map I1)]]) (vb (tZ n d kn p)):=by
 have h:=ajA kn p.dot hk;have e:tZ n d kn p=(!decide (p.val.n=n)||(!(decide (p.dot.dev=d.dev)&&decide (p.dot.seq=d.seq))&& !arQ kn p.dot)):=by unfold tZ;rw[aKs];simp
 rw[e];generalize arQ kn p.dot=H at*;refine pF Tryz.func266 rfl λst=>?_
 repeat' first|apply wZ;rfl|show Cn _;constructor|exact rfl|apply h|apply wY;rfl
structure TkJ (st0:aD) (lp:AObj) (idl id2:Nat) (m:List Pt) (S:aD):Prop where
 loop:S idl=some lp
 acc:∃b,AccP (λj=>st0 j≠none\/j=idl) S id2 b/\nN b=m
 old:∀j,st0 j≠none->S j=st0 j
theorem TkJ.live{st0 S:aD}{lp:AObj}{idl id2:Nat}{m:List Pt}(h:TkJ st0 lp idl id2 m S):∀j,st0 j≠none\/j=idl->S j≠none:=λj hj=>by
 rcases hj with hj|rfl
 ·rw[h.old j hj];exact hj
 ·rw[h.loop];simp
theorem axL{l:List Pt}{f:Pt->Bool}{i:Nat}(h:i<l.length):(l.take (i+1)).filter f=(l.take i).filter f++if f l[i]=true then[l[i]]else[]:=by
 rw[List.take_succ_eq_append_getElem h,List.filter_append];by_cases hf:f l[i]=true
 ·rw[zp hf];simp[hf]
 ·rw[zn hf];simp[hf]
theorem aGc(c:Cl)(n:Int)(d:Dt)(kn:List Int)(hl:c.parts.length<100000)(hk:kn.length<1000000000000)(st:aD):PC Tryz.prog 196 [.agg c.cells,vi n, .agg d.cells, .seq (kn.map I1)] st λr S=>∃b,r= .agg [vi c.kind,vi c.val.kind,vi c.val.n,vs c.val.s,qS b]/\nN b=c.parts.filter (tZ n d kn)/\(∀y,b=some y->S y.1=some (.arr 177 (y.2.map Pt.cells))/\st y.1=none)/\∀j,st j≠none->S j=st j:=by
 have N:=aA0 c.parts 266 [.rp [vi n], .rp d.cells, .rp [.seq (kn.map I1)]];have M:=asG n d kn hk;refine pC Tryz.func196 rfl ?_
 focus(repeat' first|apply wZ;rfl|show Cn _;constructor|apply N|apply bB 5;rfl;rfl|apply bB 6;rfl;rfl|apply bB 7;rfl;rfl|apply wY;rfl)
 refine aB6 9 rfl rfl λid2 B=>?_;have B:st id2=none:=B;refine avD [(9, .ref id2 0)] rfl rfl ⟨rfl,trivial⟩ (λidl S=>∃b,nN b=c.parts.filter (tZ n d kn)/\AccP (λj=>st j≠none) (upd S idl none) id2 b/\∀j,st j≠none->upd S idl none j=st j) ?_ ?_
 ·intro idl h
  have h:upd st id2 (some (.cells 114 [.val (.slice none 0 0)])) idl=none:=h;have A:idl≠id2:=λe=>by rw[e,aA]at h;cases h
  have E:st idl=none:=by rwa[aB A]at h
  generalize D:AObj.loop _ _ _ _ _ _=lp;have:=aDy (idl:=idl) c.parts 266 [.rp [vi n], .rp d.cells, .rp [.seq (kn.map I1)]] (tZ n d kn) (by omega) M (st:=upd (upd st id2 (some (.cells 114 [.val (.slice none 0 0)]))) idl (some lp)) (λi S=>TkJ st lp idl id2 ((c.parts.take i).filter (tZ n d kn)) S) ?_ (λi S hi p hf=>?_) λi S hi p hf=>?_
  ·refine⟨this.1,λw g vs I B=>(this.2 w g vs I B).mono ?_⟩
   rintro e w' ⟨v,q,S,g',h3,p,h4⟩;rw[ztl (Nat.le_refl _)]at p;obtain⟨b,hb,u⟩:=p.acc;refine⟨v,q,S,g',h3,⟨p.loop,b,u,hb.move (aB λe=>hb.out (.inr e)) (λy e=>⟨aB λq=>(hb.arr y e).2 (.inr q),λq=>(hb.arr y e).2 (.inl q)⟩) λq=>hb.out (.inl q),λj hj=>?_⟩,h4⟩;rw[aB λe=>hj (by rw[e];exact E)];exact p.old j hj
  ·refine⟨aA _ _ _,⟨none,⟨by rw[aB (Ne.symm A),aA];rfl,λ_ e=>(by cases e),?_⟩,by simp[nN]⟩,λj hj=>?_⟩
   ·rintro(q|q)
    ·exact q B
    ·exact A q.symm
   ·rw[aB (λe=>hj (by rw[e];exact E)),aB λe=>hj (by rw[e];exact B)]
  ·rw[axL hi,zn (by rw[hf];simp),List.append_nil];exact p
  ·rw[axL hi,zp hf]
   have m:=p.loop;obtain⟨b,hb,u⟩:=p.acc;have K:(nN b).length<=100000:=by
    rw[u];have:=List.length_filter_le (tZ n d kn) (c.parts.take i);rw[zlt]at this;omega
   have hL:=p.live;have ho:=p.old;rw[<-u];generalize c.parts[i]=x at*;have C:∀(a:AObj)(F:Nat)(S1:aD),upd S idl (some a) F=none->(S1=upd (upd (upd S idl (some a)) F (some (.arr 177 ((nN b++[x]).map Pt.cells)))) id2 (some (.cells 114 [qS (some (F,nN b++[x]))]))\/∃y,b=some y/\S1=upd (upd (upd (upd S idl (some a)) y.1 none) F (some (.arr 177 ((nN b++[x]).map Pt.cells)))) id2 (some (.cells 114 [qS (some (F,nN b++[x]))])))->S1 idl=some a/\TkJ st lp idl id2 (nN b++[x]) (upd S1 idl (some lp)):=λa F S1 L J=>by
    obtain⟨G,H,W⟩:=hb.round (.inr rfl) hL a lp L J
    exact⟨H,aA _ _ _,⟨_,G,rfl⟩,λj hj=>by rw[W j (.inl hj) λe=>hj (by rw[e];exact E)];exact ho j hj⟩
   have U:id2≠idl:=Ne.symm A;have l:∀o,upd S idl o id2=some (.cells 114 [qS b]):=λo=>(aB U).trans hb.box;rw[<-D]at m;refine aKM (R:=λV=>TkJ st lp idl id2 (nN b++[x]) V) m (show 15<23 by decide) ?_;show PWp _ _ _ (((St.nilR idl 23 S).pv 9 (.ref id2 0)).pv 15 (.agg x.cells))
   repeat' first|apply wZ;rfl|show Cn _;constructor
   refine⟨rfl,m,?_⟩;cases b with
   |none=>
    repeat' first|apply wZ;rfl|show Cn _;constructor|apply ap0 pk (f:=Pt.cells) [x] 96;(iterate 10 rfl);exactλ_=>rfl;exactλ_=>rfl;exact xE;(focus(simp;done));(focus(simp;done));rfl;intro t k|apply ldR pk;rfl;rfl;rotate_left;rfl;exact l _;rfl;rfl|apply stR pk;rfl;rfl;exact(aB λe=>Option.some_ne_none _ ((l _).symm.trans ((congrArg (upd S idl _) e).trans k))).trans (l _);rfl;rfl
    obtain⟨G,H⟩:=C _ t _ k (.inl rfl);subst D;exact⟨rfl,_,zsr _,G,H⟩
   |some z=>
    have Y:z.1≠idl:=λe=>(hb.arr z rfl).2 (.inr e);have P:∀o,upd S idl o z.1=some (.arr 177 (z.2.map Pt.cells)):=λo=>(aB Y).trans (hb.arr z rfl).1;have Q:id2≠z.1:=λe=>by have I:=hb.box;have B:=(hb.arr z rfl).1;rw[e,B]at I;cases I
    have X:z.2.length<=100000:=K
    repeat' first|apply wZ;rfl|show Cn _;constructor|apply ldR pk;rfl;rfl;rotate_left;rfl;exact l _;rfl;rfl|apply apV pk (f:=Pt.cells) (xs:=z.2) [x] 96;(iterate 9 rfl);exact P _;rfl;exactλ_=>rfl;exactλ_=>rfl;exact xE;(simp only[zlc,List.length_nil];omega);(simp only[zlc,List.length_nil];omega);rfl;intro t k|apply stR pk;rfl;rfl;exact(aB λe=>Option.some_ne_none _ ((l _).symm.trans ((congrArg (upd S idl _) e).trans k))).trans ((aB Q).trans (l _));rfl;rfl
    have hg:=C _ t _ k (.inr ⟨z,rfl,rfl⟩);rw[show qS (some (t,nN (some z)++[x]))= .vec t 11 0 (z.2.length+[x].length)from by simp[qS,nN]]at hg;obtain⟨G,H⟩:=hg;subst D;exact⟨rfl,_,zsr _,G,H⟩
 ·rintro idl S h ⟨b,hp,hb,ho⟩
  have l:=hb.box;cases b with
  |none=>
   (repeat' first|show Cn (.r _ _ _);refine .rr ?_;(exact⟨none,rfl,hp,λ_ e=>(by cases e),ho⟩);done|apply wZ;rfl|show Cn _;constructor|apply ldR pk;rfl;rfl;rotate_left;rfl;(assumption);rfl;rfl)
  |some z=>
   have hz:=hb.arr z rfl;have O:st z.1=none:=Decidable.byContradiction λq=>hz.2 q
   repeat' first|show Cn (.r _ _ _);refine .rr ?_;(exact⟨some z,rfl,hp,λ_ e=>(by cases e;exact⟨hz.1,O⟩),ho⟩);done|apply wZ;rfl|show Cn _;constructor|apply ldR pk;rfl;rfl;rotate_left;rfl;(assumption);rfl;rfl
theorem avX(c:Cl)(n:Int)(d:Dt)(kn:List Int)(hl:c.parts.length<100000)(hk:kn.length<1000000000000):PF Tryz.prog 196 [.agg c.cells,vi n, .agg d.cells, .seq (kn.map I1)] (.agg (tW c n d kn).cells):=λst=>
 fD (sz:=11) (aGc c n d kn hl hk st) λp st' h=>by
  obtain⟨b,rfl,f,g,h4⟩:=h
  have a:StSub st st':=λj=>by
   by_cases q:st j=none
   ·exact .inl q
   ·exact .inr (h4 j q).symm
  cases b with
  |none=>
   have e:tW c n d kn=⟨c.kind,c.val,[]⟩:=by unfold tW;rw[<-f];rfl
   rw[e];exact .inr ⟨_,st,Wk.agg (.cons (zwr _) (.cons (zwr _) (.cons (zwr _) (.cons (zwr _) (.cons Wk.nil .nil))))),a,rfl,rfl⟩
  |some z=>
   obtain⟨h5,i⟩:=g z rfl;have e:tW c n d kn=⟨c.kind,c.val,z.2⟩:=by unfold tW;rw[<-f];rfl
   rw[e];refine .inl ⟨z.1,177,z.2.map Pt.cells,_,st,h5,sU, .agg (.cons .refl (.cons .refl (.cons .refl (.cons .refl (.cons (eQ (by simp)) .nil))))),λj=>?_,rfl,rfl⟩;by_cases q:j=z.1
   ·subst q;exact .inl i
   ·rw[aB q];exact a j
end
section
attribute [local irreducible] Ev PWp
set_option maxRecDepth 10000
set_option maxHeartbeats 4000000
structure TnOK (w:Wr) (c:Cl) (o:Ot):Prop where
 n:inL o.val.n
 s:o.val.s.size<1000000
 kn:w.knew.length<1000000000000
 parts:c.parts.length<100000
def abC(w:Wr)(c:Cl)(o:Ot):List PV:=[.rp c.cells, .rp o.cells, .rp w.cells]
def aiU(c:Cl)(o:Ot):List PV:=[.rp c.cells, .rp o.cells]
section
variable{w:Wr}{c:Cl}{o:Ot}(hT:TnOK w c o)
theorem aKZ(v:Vl):Wk (.agg [vi 0,vi v.kind,vi v.n,vs v.s, .val (.slice none 0 0)]) (.agg (Cl.mk 0 v []).cells):= .agg (.cons (zwr _) (.cons (zwr _) (.cons (zwr _) (.cons (zwr _) (.cons Wk.nil .nil)))))
include hT
theorem aGm :PF Tryz.prog 189 (abC w c o) (.agg (if c.kind=0 then⟨0,o.val,[]⟩else jB c o.val w.dot w.knew).cells):=by
 have hd:=jN w;have hp:=aaZ c o.val w.dot w.knew (by have:=hT.parts;omega) hT.kn;unfold abC;by_cases k:c.kind=0
 ·rw[zp k]
  refine pF Tryz.func189 rfl λst=>?_
  repeat' first|exact Cn.any ⟨_,_,_,rfl,aKZ o.val,zsr _,rfl,rfl⟩|apply wZ;rfl|show Cn _;constructor|omega|intro h
 ·rw[zn k]
  generalize jB c o.val w.dot w.knew=R at*;refine pF Tryz.func189 rfl λst=>?_
  repeat' first|apply wZ;rfl|show Cn _;constructor|exact rfl|apply KR.mk;kernel_rfl|(first|apply hd|apply hp)|apply wY;rfl|omega|intro h
theorem aHC :PF Tryz.prog 191 (aiU c o) (abH (vL c o.val.n)):=by
 have h:=ahJ c o.val.n hT.n;unfold aiU;generalize vL c o.val.n=R at*;refine pF Tryz.func191 rfl λst=>?_
 repeat' first|apply wZ;rfl|show Cn _;constructor|exact rfl|apply h|apply wY;rfl
theorem aGW :PF Tryz.prog 193 (abC w c o) (.agg (oK c o.val.n w.dot).cells):=by
 have hd:=jN w;have hp:=aeB c o.val.n w.dot (by have:=hT.parts;omega);unfold abC;generalize oK c o.val.n w.dot=R at*;refine pF Tryz.func193 rfl λst=>?_
 repeat' first|apply wZ;rfl|show Cn _;constructor|exact rfl|apply KR.mk;kernel_rfl|(first|apply hd|apply hp)|apply wY;rfl
theorem aGP :PF Tryz.prog 195 (abC w c o) (.agg (tW c o.val.n w.dot w.knew).cells):=by
 have hd:=jN w;have hp:=avX c o.val.n w.dot w.knew hT.parts hT.kn;unfold abC;generalize tW c o.val.n w.dot w.knew=R at*;refine pF Tryz.func195 rfl λst=>?_
 repeat' first|apply wZ;rfl|show Cn _;constructor|exact rfl|apply KR.mk;kernel_rfl|(first|apply hd|apply hp)|apply wY;rfl
theorem aHn :PF Tryz.prog 197 (abC w c o) (abH (T.typeP c o.val.s w.who ⟨o.after,o.at_⟩)):=by
 have h:=T.type_spec c o.val.s w.who o.after o.at_ (by have:=hT.parts;omega) hT.s;unfold abC;generalize T.typeP c o.val.s w.who ⟨o.after,o.at_⟩=R at*;refine pF Tryz.func197 rfl λst=>?_
 repeat' first|apply wZ;rfl|show Cn _;constructor|exact rfl|apply h|apply wY;rfl
theorem aGK :PF Tryz.prog 199 (aiU c o) (.agg (T.eraseP c ⟨o.after,o.at_⟩).cells):=by
 have h:=T.erase_spec c o.after o.at_ (by have:=hT.parts;omega);unfold aiU;generalize T.eraseP c ⟨o.after,o.at_⟩=R at*;refine pF Tryz.func199 rfl λst=>?_
 repeat' first|apply wZ;rfl|show Cn _;constructor|exact rfl|apply h|apply wY;rfl
end
theorem aA3(f:FuncId)(caps:List PV):PF Tryz.prog 187 [.fn f caps] (.fn 188 [.rp [.fn f caps]]):=by
 refine pF Tryz.func187 rfl λst=>?_
 repeat' first|apply wZ;rfl|show Cn _;constructor|exact rfl|apply bB 1;rfl;rfl
theorem oT{f:FuncId}{caps:List PV}{d:Cl}(h:PF Tryz.prog f caps (.agg d.cells)):PF Tryz.prog 188 [.rp [.fn f caps]] (abH (d,0)):=by
 have a:PF Tryz.prog f ([]++caps) (.agg d.cells):=h;refine pF Tryz.func188 rfl λst=>?_
 repeat' first|apply Cn.cf;focus((apply a);done)|apply wZ;rfl|show Cn _;constructor|exact rfl|apply wY;rfl
def ayA(f:FuncId)(caps:List PV):PV:= .fn 188 [.rp [.fn f caps]]
def aJO(w:Wr)(c:Cl)(o:Ot):List (Value×PV):=[(.int .i64 2,ayA 189 (abC w c o)),(.int .i64 3, .fn 191 (aiU c o)),(.int .i64 4,ayA 193 (abC w c o)),(.int .i64 5,ayA 195 (abC w c o)),(.int .i64 6, .fn 197 (abC w c o)),(.int .i64 7,ayA 199 (aiU c o))]
theorem aBl{w:Wr}{c:Cl}{o:Ot}(hT:TnOK w c o)(a:2<=o.kind)(d:o.kind<=7):∃f caps,iJ tt 246 (aJO w c o) (.int .i64 o.kind) false=some (.fn f caps)/\PF Tryz.prog f caps (abH (fE w c o)):=by
 have h:o.kind=2\/o.kind=3\/o.kind=4\/o.kind=5\/o.kind=6\/o.kind=7:=by omega
 unfold fE;rcases h with h|h|h|h|h|h
 ·rw[h]
  refine⟨_,_,rfl,?_⟩;have:=oT (aGm hT);rw[zp rfl];by_cases k:c.kind=0
  ·rw[zp k]at this⊢;exact this
  ·rw[zn k]at this⊢;exact this
 ·rw[h];exact⟨_,_,rfl,aHC hT⟩
 ·rw[h];exact⟨_,_,rfl,oT (aGW hT)⟩
 ·rw[h];exact⟨_,_,rfl,oT (aGP hT)⟩
 ·rw[h];exact⟨_,_,rfl,aHn hT⟩
 ·rw[h];exact⟨_,_,rfl,oT (aGK hT)⟩
theorem atQ{st S:aD}{id idm:Nat}{a b:AObj}(h:id≠idm)(hm:st idm=none)(e:b=a)(g:∀q,q≠idm->S q=st q):StSub (upd st id (some a)) (upd S id (some b)):=λq=>by
 subst e
 by_cases d:q=id
 ·subst d;right;rw[aA,aA]
 ·rw[aB d,aB d]
  by_cases f:q=idm
  ·subst f;exact .inl hm
  ·exact .inr (g q f).symm
theorem aGk{w:Wr}{cs:List Cl}{j id:Nat}{o:Ot}(hj:j<cs.length)(hT:TnOK w cs[j] o)(t:2<=o.kind)(u:o.kind<=7){st:aD}(p:st id=some (.arr 116 (cs.map Cl.cells))):PC Tryz.prog 122 [.agg w.cells, .el id 5 j 0, .agg o.cells] st λr S=>r=(vi ((fE w cs[j] o).2))/\S=upd st id (some (.arr 116 ((cs.set j (fE w cs[j] o).1).map Cl.cells))):=by
 obtain⟨f,caps,g,x⟩:=aBl hT t u;generalize fE w cs[j] o=R at*;have i:cs[j]?=some cs[j]:=zgg hj;have y:=aA3;have l:PF Tryz.prog f ([]++caps) (abH R):=x;refine pC Tryz.func122 rfl ?_
 repeat' first|apply sE aS;exact .inl rfl;(iterate 7 rfl);exact aA _ _ _;rfl;(iterate 2 (apply mV aS;(iterate 4 rfl)));refine vC ?_;apply jW 9;rfl;exact aA _ _ _|refine Cn.any ⟨_,_,upd st id (some (.arr 116 ((cs.set j R.1).map Cl.cells))),rfl,zwr _,?_,rfl,rfl⟩;exact atQ m d (by simp) λq h=>by repeat (first|rfl|refine(aB h).trans ?_)|apply Cn.cf;focus(((first|apply y|apply l));done)|apply wZ;rfl|show Cn _;constructor|apply ncA;rfl;rfl;rfl;rotate_left;rfl;rfl|apply ldL pk Cl.elem (a:=cs[j]);rfl;rfl;rotate_left;rfl;(assumption);(intro _;exact i);rfl|apply stA pk Cl.elem;rfl;rfl;rfl;(focus((repeat (first|assumption|refine(aB ‹_›).trans ?_));done));(omega);rfl|apply bB 3;rfl;rfl|apply bB 5;rfl;rfl|apply bB 8;rfl;rfl|((refine pK rfl λidm k=>?_);have d:st idm=none:=k;have m:id≠idm:=(λe=>by rw[<-e,p]at d;cases d))|apply sE aS;exact .inl rfl;(iterate 7 rfl);exact aA _ _ _;rfl|apply lV pk;(iterate 4 rfl);(focus repeat' constructor);rfl;exact g;rfl|apply wY;rfl
end
section
set_option maxRecDepth 10000
set_option maxHeartbeats 4000000
def LnW(k:Nat)(l:Ln):Prop:=l.by_.length<=60+k/\l.cells_.length<=20/\∀c∈l.cells_,c.parts.length<=40+40*k
def OpW(k:Nat)(b:Bs):Prop:=b.length<=20/\∀d∈b,d.lines.length<=100+k/\∀l∈d.lines,LnW k l
theorem LnW.S{k:Nat}{l:Ln}(h:LnW k l)(hk:k<=20):LnS l:=⟨by have:=h.1;omega,by have:=h.2.1;omega,λc hc=>by have:=h.2.2 c hc;omega⟩
theorem OpW.S{k:Nat}{b:Bs}(h:OpW k b)(hk:k<=20):BsS 200 b:=⟨h.1,λd hd=>⟨by have:=(h.2 d hd).1;omega,λl hl=>((h.2 d hd).2 l hl).S hk⟩⟩
theorem LnW.up{k m:Nat}{l:Ln}(h:LnW k l)(a:k<=m):LnW m l:=⟨by have:=h.1;omega,h.2.1,λc hc=>by have:=h.2.2 c hc;omega⟩
theorem OpW.nil(k:Nat):OpW k []:=⟨by simp,λd hd=>by cases hd⟩
theorem aKf{b:Bs}(h:xL b=true):OpW 0 b:=by
 have h0:=h;unfold xL at h;simp only[zba,zde,zal]at h;obtain⟨e,f,a⟩:=h;refine⟨by omega,λd hd=>⟨?_,λl hl=>?_⟩⟩
 ·have:=((aH3 h0).2 d hd).1;omega
 ·have:=a d hd l hl
  unfold fR mT at this;simp only[zba,zde,zal]at this;exact⟨by omega,by omega,λc hc=>by have:=this.1 c hc;omega⟩
theorem jX{k:Nat}{b:Bs}(h:OpW k b)(t:Int):(aF b t).length<=100+k/\∀l∈aF b t,LnW k l:=by
 unfold aF;split
 ·rename_i ho
  unfold okT at ho;simp only[zba,zde]at ho;rw[getElem!_pos b t.toNat (by omega)];exact h.2 _ (zgm _)
 ·exact⟨by simp,λl hl=>by cases hl⟩
theorem wJ{L:List Ln}{k:Int}{l:Ln}(h:cB L k=some l):l∈L:=by
 unfold cB at h;exact List.mem_of_find?_eq_some h
theorem aEa{L:List Ln}{a x:Ln}(h:x∈qN L a):x=a\/x∈L:=by
 unfold qN at h;split at h
 ·exact(List.mem_or_eq_of_mem_set h).symm
 ·rcases amE.1 (show x∈L.take _++[a]++L.drop _ from h)with q|q
  ·exact .inl q
  ·exact .inr q
theorem aHU{k:Nat}{b:Bs}(h:OpW k b)(t:Int){a:Ln}(ha:LnW (k+1) a):OpW (k+1) (vM b t a):=by
 unfold vM;split
 ·refine⟨by rw[List.length_set];exact h.1,λd hd=>?_⟩
  rcases List.mem_or_eq_of_mem_set hd with q|rfl
  ·exact⟨by have:=(h.2 d q).1;omega,λl hl=>((h.2 d q).2 l hl).up (by omega)⟩
  ·obtain⟨f,e⟩:=jX h t
   refine⟨?_,λl hl=>?_⟩
   ·have:=amK (aF b t) a
    show(qN (aF b t) a).length<=_;omega
   ·rcases aEa hl with rfl|hl
    ·exact ha
    ·exact(e l hl).up (by omega)
 ·exact⟨h.1,λd hd=>⟨by have:=(h.2 d hd).1;omega,λl hl=>((h.2 d hd).2 l hl).up (by omega)⟩⟩
theorem aJB{t:Tb}{G:R2->Bool}{who:Dt}{l:Ln}{m:Nat}(h:LnW m l):LnW (m+1) (lT t G who l):=by
 obtain⟨e,d,a⟩:=h;have hw:=ahR l who;unfold lT;split
 ·refine⟨?_,?_,λc hc=>?_⟩
  ·show(dD l who).by_.length<=_;omega
  ·show(eX _ _ _).length<=_;rw[dE];exact d
  ·obtain⟨j,hj,rfl⟩:=zgo hc
   have hj:j<(eX (eH G l) t.foreign l.cells_).length:=hj;rw[dE]at hj;show((eX (eH G l) t.foreign l.cells_)[j]'(by rw[dE];exact hj)).parts.length<=_;rw[oZ hj];split
   ·simp[Cl.zero]
   ·have:=a _ (zgm hj);omega
 ·exact⟨by omega,by omega,λc hc=>by have:=a c hc;omega⟩
theorem aFX{e:Bool}{s:Sc}{b:Bs}{z:R2}{who:Dt}{M:List R2}{m:Nat}(h:OpW m b):OpW (m+1) (yG e s b z who M).1:=by
 unfold yG;split
 ·split
  ·split
   ·refine⟨by rw[ajU];exact h.1,λd hd=>?_⟩
    unfold abA at hd;obtain⟨k,hk,rfl⟩:=List.mem_map.1 hd;have hk:=List.mem_range.1 hk;obtain⟨f,a⟩:=h.2 _ (zgm hk);refine⟨?_,λx hx=>?_⟩
    ·show(rX s b (inR M) who k).length<=_
     unfold rX;rw[zql,getElem!_pos b k hk];have:=List.length_filter_le (λl:Ln=> !inR M ((k:Int),l.key)) b[k].lines;omega
    ·obtain⟨l,hl,_,rfl⟩:=anS.1 hx
     rw[getElem!_pos b k hk]at hl;exact aJB (a l hl)
   ·exact OpW.nil _
  ·exact OpW.nil _
 ·exact OpW.nil _
theorem pH{l:List Pt}{k:Nat}{x:Pt}:(dQ l k [x]).length=l.length+1:=by
 unfold dQ;simp only[zla,zlt,zld,List.length_singleton];omega
def nF(o:Ot):Prop:=o.row.length<=20/\o.val.s.size<=40/\∀v∈o.row,v.s.size<=40
theorem apB(c:Cl)(n:Int):(vL c n).1.parts.length=0:=by
 unfold vL;split
 ·rfl
 ·split
  ·rfl
  ·split<;>rfl
theorem aDc(w:Wr)(c:Cl)(o:Ot){m:Nat}(hc:c.parts.length<=m)(ho:nF o):(fE w c o).1.parts.length<=m+40:=by
 unfold fE;have d:=apB c o.val.n;have e:=List.length_filter_le (tQ w.dot w.knew) c.parts;have a:=List.length_filter_le (tZ o.val.n w.dot w.knew) c.parts;have h4:=T.type_len c o.val.s w.who ⟨o.after,o.at_⟩;have h5:=T.eraseP_len ⟨o.after,o.at_⟩ c;have f:=ho.2.1;have g:(jB c o.val w.dot w.knew).parts.length<=c.parts.length+1:=by unfold jB;simp only;rw[pH];omega
 have h8:(oK c o.val.n w.dot).parts.length<=c.parts.length+1:=by
  unfold oK;split
  ·omega
  ·simp only;rw[pH];omega
 have h9:(tW c o.val.n w.dot w.knew).parts.length<=c.parts.length:=a
 repeat' split
 all_goals ((try dsimp only);first|omega|simp;done)
theorem aAi(w:Wr)(k:Int)(v:Vl)(hv:v.s.size<=40):(lJ w k v).1.parts.length<=40:=by
 unfold lJ;have a:=apB (qE 0) v.n;have h4:=T.type_len ⟨4,Vl.zero,[]⟩ v.s w.who T.Nm.zero;have d:(jB ⟨k,Vl.zero,[]⟩ v w.dot w.knew).parts.length<=1:=by unfold jB;simp only;rw[pH];simp
 have h8:(oK ⟨k,Vl.zero,[]⟩ v.n w.dot).parts.length<=1:=by
  unfold oK;split
  ·simp
  ·simp only;rw[pH];simp
 simp only[List.length_nil]at h4
 repeat' split
 all_goals ((try dsimp only);first|omega|simp;done)
theorem aIG{w:Wr}{t:Tb}{o:Ot}(ho:nF o)(k:Nat):LnW (k+1) (fF w t o.row):=by
 refine⟨by simp only[fF,List.length_singleton];omega,by unfold fF;simp only[zql,List.length_range];exact ho.1,λc hc=>?_⟩;unfold fF at hc;obtain⟨i,hi,rfl⟩:=List.mem_map.1 hc;have hi:=List.mem_range.1 hi;have:=aAi w t.cols[i]!.kind o.row[i]! (by rw[getElem!_pos o.row i hi];exact ho.2.2 _ (zgm hi));unfold pD;omega
theorem aKS{w:Wr}{o:Ot}{l:Ln}{k:Nat}(ho:nF o)(h:LnW k l):LnW (k+1) (rH w o l):=by
 obtain⟨f,e,d⟩:=h;have hw:=ahR ⟨l.key,l.cells_.set o.col.toNat (fE w l.cells_[o.col.toNat]! o).1,l.by_⟩ w.dot;have hc:(rH w o l).cells_=l.cells_.set o.col.toNat (fE w l.cells_[o.col.toNat]! o).1:=by unfold rH dD;split<;>rfl
 refine⟨?_,?_,λc a=>?_⟩
 ·show(dD _ _).by_.length<=_
  simp only at hw;omega
 ·rw[hc,List.length_set];exact e
 ·rw[hc]at a
  rcases List.mem_or_eq_of_mem_set a with q|rfl
  ·have:=d c q;omega
  ·by_cases hj:o.col.toNat<l.cells_.length
   ·rw[getElem!_pos l.cells_ _ hj]
    have:=aDc w l.cells_[o.col.toNat] o (d _ (zgm hj)) ho;omega
   ·rw[List.set_eq_of_length_le (by omega)]at a
    have:=d _ a;omega
theorem aE5{w:Wr}{s:Sc}{b:Bs}{o:Ot}{k:Nat}(h:OpW k b)(ho:nF o):OpW (k+1) (bX w s b o).1:=by
 unfold bX;split
 ·exact OpW.nil _
 ·split
  ·unfold aHI
   split
   ·exact OpW.nil _
   ·split
    ·exact OpW.nil _
    ·split
     ·exact OpW.nil _
     ·exact aHU h _ (aIG ho k)
  ·split
   ·exact aFX h
   ·unfold ayI
    cases hg:cB (aF b o.table) o.key with
    |none=>exact OpW.nil _
    |some l=>
     simp only;split
     ·exact OpW.nil _
     ·exact aHU h _ (aKS ho ((jX h _).2 l (wJ hg)))
theorem auO{tx:Cl->Int}{t:Tb}{L:List Ln}(h:tI tx t L=true)(a:Ln)(hl:(qN L a).length<=2000)(ha:iT tx t a=true):tI tx t (qN L a)=true:=by
 obtain⟨f,e,d⟩:=gT.1 h;refine gT.2 ⟨hl,λx hx=>?_,d.put a⟩;rcases(akW d a x).1 hx with rfl|w
 ·exact ha
 ·exact e x w.1
theorem aIA(b:Bs)(k:Int)(a:Ln):vM b k a=agL b k (qN (aF b k) a):=rfl
theorem aiY{s:Sc}{b:Bs}{k:Nat}(h:bC T.rightP s b=true)(hk:k<s.length){a:Ln}(hl:(qN (aF b k) a).length<=2000)(ha:LineOK T.rightP s[k] a):bC T.rightP s (vM b k a)=true:=by
 obtain⟨⟨e,f⟩,_⟩:=aU.1 h;have d:okT b (k:Int)=true:=by unfold okT;simp only[zba,zde];omega
 rw[aIA,aBt h d,Int.toNat_natCast,getElem!_pos s k hk];have hd:=afW h d;rw[Int.toNat_natCast,getElem!_pos s k hk]at hd;exact auO hd a hl (abL.2 ha)
theorem agM{L:List Ln}{a:Ln}(h:(cB L a.key).isSome=true):(qN L a).length=L.length:=by
 rcases acT L a.key with⟨j,hj,e,_⟩|⟨j,hj,e,q,_⟩
 ·unfold qN;rw[e,zp rfl,List.length_set]
 ·rw[q]at h;cases h
theorem aKd{s:Sc}(h:bT s=0){k:Nat}(hk:k<s.length):s[k].cols[0]!.kind=0/\s[k].cols[0]!.type_=1/\s[k].cols[0]!.null=false:=by
 have a:=fU h hk (lk3 s[k]!) (by simp[lks]);rw[getElem!_pos s k hk]at a;unfold lk3 at a;split at a
 ·cases a
 ·rename_i d
  rw[not_or]at d;have h4:gH s[k].cols[0]! =true:=by simpa using d.1
  unfold gH at h4;rw[zba,zde,zde]at h4;exact⟨h4.1,h4.2,by simpa using d.2⟩
theorem aLf{s:Sc}(h:bT s=0){k:Nat}(hk:k<s.length){j:Nat}(hj:j<s[k].cols.length):0<=s[k].cols[j].kind/\s[k].cols[j].kind<=4:=by
 have a:=fU h hk (lk2 s[k]!) (by simp[lks]);rw[getElem!_pos s k hk]at a;unfold lk2 at a;have:=xP (show orI ((List.range s[k].cols.length).map (tG s[k]))=0 from a) _ (List.mem_map.2 ⟨j,List.mem_range.2 hj,rfl⟩);unfold tG aiT at this;rw[getElem!_pos s[k].cols j hj]at this;split at this
 ·cases this
 ·rename_i q;simp only[not_or]at q;omega
theorem aA7{w:Wr}{s:Sc}(h:bT s=0){k:Nat}(hk:k<s.length){o:Ot}(hw:qK w=true)(i:awP s[k] o=0)(u:mG w s[k] o.row=0):LineOK T.rightP s[k] (fF w s[k] o.row):=by
 unfold awP at i;split at i
 ·cases i
 split at i
 ·rename_i q;exact absurd i q
 rename_i A m;split at i
 ·cases i
 rename_i r;simp only[not_or,Bool.not_eq_false,Decidable.not_not]at A m r;have f:=awY m;have hv:∀j,j<o.row.length->vB s[k].cols[j]! o.row[j]! =0:=λj hj=>by
  unfold eS at m
  rw[zp f.symm]at m
  exact iC.1 m j (List.mem_range.2 hj)
 have hf:∀j (hj:j<o.row.length),iR T.rightP (pD w s[k] o.row j).1=true/\(pD w s[k] o.row j).1.kind=s[k].cols[j]!.kind:=λj hj=>by
  have h0:=iC.1 u j (List.mem_range.2 hj)
  have hc:=aLf h hk (j:=j) (by omega)
  refine aCN hw ?_ (hv j hj) h0
  rw[getElem!_pos s[k].cols j (by omega)];exact hc
 have hl:(fF w s[k] o.row).cells_.length=o.row.length:=by unfold fF;simp
 have hg:∀j (hj:j<(fF w s[k] o.row).cells_.length),(fF w s[k] o.row).cells_[j]=(pD w s[k] o.row j).1:=λj hj=>by
  unfold fF
  show(List.map _ _)[j]'(by simpa[fF]using hj)=_
  rw[List.getElem_map,List.getElem_range]
 have g:=r.2;unfold aAY at g;simp only[zba,zde]at g;have d:0<o.row.length:=by omega
 refine⟨g.1,by show o.row[0]!.n<_;omega,by rw[hl];exact f,λj hj=>?_,λc hc=>?_,?_,?_⟩
 ·rw[hg j hj];exact(hf j (by omega)).2
 ·obtain⟨j,hj,rfl⟩:=zgo hc
  rw[hg j hj];exact(hf j (by omega)).1
 ·rw[getElem!_pos _ 0 (by rw[hl];exact d),hg 0 (by rw[hl];exact d)]
  obtain⟨c1,c2,t⟩:=aKd h hk;have a:=hv 0 d;unfold pD lJ;rw[zp c1];show o.row[0]! =⟨1,o.row[0]!.n,e0⟩;unfold vB at a;split at a
  ·cases a
  split at a
  ·cases a
  split at a
  ·cases a
  rename_i B C D;have l:o.row[0]!.kind=1:=by
   have p:bS s[k].cols[0]! =1:=by unfold bS;rw[zp (.inl c1),c2]
   by_cases z:o.row[0]!.kind=0
   ·exact absurd ⟨z, .inl c1,t⟩ C
   ·exact Classical.byContradiction λy=>D ⟨z,by rw[p];exact y⟩
  have e:cE o.row[0]! =true:=by simpa using B
  unfold cE at e;rw[zn (by omega),zp l]at e;simp only[zba,zde]at e;rw[Vl.ext_iff];exact⟨l,rfl,e.1.1⟩
 ·refine afI.2 ⟨λx hx=>?_,?_⟩
  ·have hx:x∈[w.dot]:=hx
   rw[zms.1 hx];exact rK hw
  ·exact List.pairwise_singleton _ _
theorem aAp{w:Wr}{t:Tb}{o:Ot}{l:Ln}(hw:qK w=true)(hL:LineOK T.rightP t l)(d:adX t o=0)(h0:(fE w l.cells_[o.col.toNat]! o).2=0):LineOK T.rightP t (rH w o l):=by
 unfold adX at d;split at d
 ·cases d
 split at d
 ·cases d
 split at d
 ·cases d
 split at d
 ·rename_i q;exact absurd d q
 rename_i m p i k;simp only[not_or,Bool.not_eq_false,Decidable.not_not]at m p i k;obtain⟨k1,k2,ln,h,ce,r,ds⟩:=hL;have hj:o.col.toNat<l.cells_.length:=by omega
 rw[<-h _ hj]at i;rw[getElem!_pos l.cells_ _ hj]at h0;obtain⟨t1,t2⟩:=aHB hw (ce _ (zgm hj)) i k h0;have hc:(rH w o l).cells_=l.cells_.set o.col.toNat (fE w l.cells_[o.col.toNat] o).1:=by
  unfold rH dD;rw[getElem!_pos l.cells_ _ hj];split<;>rfl
 have a:(rH w o l).key=l.key:=by unfold rH dD;split<;>rfl
 refine⟨by rw[a];exact k1,by rw[a];exact k2,by rw[hc,List.length_set];exact ln,λj g=>?_,λc f=>?_,?_,agC ds (rK hw)⟩
 ·simp only[hc,List.getElem_set]
  simp only[hc,List.length_set]at g;split
  ·rename_i e;subst e;rw[t2];exact h _ hj
  ·exact h j g
 ·rw[hc]at f
  rcases List.mem_or_eq_of_mem_set f with q|rfl
  ·exact ce c q
  ·exact t1
 ·rw[a,hc,<-r,getElem!_pos _ 0 (by rw[List.length_set];omega),List.getElem_set,zn (by omega),getElem!_pos l.cells_ 0 (by omega)]
theorem aeG{tx:Cl->Int}{s:Sc}{b:Bs}(hg:bC tx s b=true){k:Nat}(hk:k<s.length){l:Ln}(hl:l∈aF b k):LineOK tx s[k] l:=by
 obtain⟨⟨d,e⟩,_⟩:=aU.1 hg;have a:k<b.length:=by omega
 have hl:l∈b[k].lines:=by
  unfold aF okT at hl;rw[zp (by simp;omega),Int.toNat_natCast,getElem!_pos b k a]at hl;exact hl
 have hL:=sQ hg a hl;rwa[getElem!_pos s k hk]at hL
theorem yP{s:Sc}{o:Ot}(h:gS s o=0):∃k:Nat,o.table=k/\∃hk:k<s.length,(o.kind=1->awP s[k] o=0)/\(o.kind≠1->o.kind≠8->adX s[k] o=0):=by
 unfold gS at h;split at h
 ·cases h
 split at h
 ·cases h
 rename_i f g;refine⟨o.table.toNat,by omega,by omega,λe=>?_,λa d=>?_⟩
 ·rw[zp e,getElem!_pos s _ (by omega)]at h;exact h
 ·rw[zn a]at h
  split at h
  ·cases h
  rw[getElem!_pos s _ (by omega)]at h;exact h
theorem asM{w:Wr}{s:Sc}{b:Bs}{o:Ot}(hw:qK w=true)(hb:bC T.rightP s b=true)(h0:(bX w s b o).2=0):bC T.rightP s (bX w s b o).1=true:=by
 have hs:=(aU.1 hb).1.1;unfold bX at*;by_cases f:gS s o=0
 ·rw[zn (by simp[f])]at h0⊢
  obtain⟨k,hk,a,p,r⟩:=yP f;by_cases e:o.kind=1
  ·rw[zp e]at h0⊢
   unfold aHI at*;split at h0
   ·cases h0
   split at h0
   ·cases h0
   rw[hk,Int.toNat_natCast,getElem!_pos s k a]at h0⊢;split at h0
   ·rename_i q;exact absurd h0 q
   rename_i j g m;rw[hk]at j g;rw[zn j,zn g,zn m];refine aiY hb a ?_ (aA7 hs a hw (p e) (zdn m));have:=amK (aF b (k:Int)) (fF w s[k] o.row);omega
  ·rw[zn e]at h0⊢
   by_cases h8:o.kind=8
   ·rw[zp h8]at h0⊢
    unfold yG at*;rw[zp rfl]at h0⊢;split at h0
    ·rename_i q;rw[zp q]
     split at h0
     ·rename_i g;rw[zp g];exact aES hb (rK hw)
     ·cases h0
    ·cases h0
   ·rw[zn h8]at h0⊢
    unfold ayI at*;rw[hk]at h0⊢;cases hg:cB (aF b (k:Int)) o.key with
    |none=>rw[hg]at h0;cases h0
    |some l=>
     rw[hg]at h0;simp only at h0⊢;split at h0
     ·rename_i q;exact absurd h0 q
     rename_i q;rw[zn q];have hL:=aeG hb a (wJ hg);obtain⟨_,d⟩:=(oP (kM hb (k:Int))).1 hg;refine aiY hb a ?_ (aAp hw hL (r e h8) (zdn q));have h:(rH w o l).key=l.key:=by unfold rH dD;split<;>rfl
     rw[agM (by rw[h,d,hg];rfl)];have i:okT b (k:Int)=true:=by unfold okT;simp only[zba,zde];have:=(aU.1 hb).1.2;omega
     exact(gT.1 (afW hb i)).1
 ·rw[zp f]at h0
  exact absurd h0 f
end
section
attribute [local irreducible] Ev PWp
set_option maxRecDepth 10000
set_option maxHeartbeats 4000000
def aFg(l:Ln)(e:Int):PV:= .tup [.agg l.cells,vi e]
theorem aKK(e:Int):Wk (.tup [.agg [vi 0, .val (.slice none 0 0), .val (.slice none 0 0)],vi e]) (aFg Ln.zero e):=Wk.tup (.cons (.agg (.cons (zwr _) (.cons Wk.nil (.cons Wk.nil .nil)))) (.cons (zwr _) .nil))
structure RwI (w:Wr) (t:Tb) (r:List Vl):Prop where
 pos:0<r.length
 len:r.length<=t.cols.length
 l20:r.length<=1000
 n:∀v∈r,inL v.n
 s:∀v∈r,v.s.size<1000000
 kn:w.knew.length<1000000000000
theorem aGf(w:Wr)(t:Tb)(r:List Vl)(h:RwI w t r)(st:aD):PC Tryz.prog 118 [.agg w.cells, .agg t.cells, .seq (r.map Vl.cells)] st λR S=>(mG w t r≠0/\R= .tup [.agg [vi 0, .val (.slice none 0 0), .val (.slice none 0 0)],vi (mG w t r)]/\S=st)\/(mG w t r=0/\∃id,R= .tup [.agg [vi (r[0]!.n), .vec id 5 0 r.length, .seq [w.dot.cells]],vi 0]/\st id=none/\S=upd st id (some (.arr 116 ((fF w t r).cells_.map Cl.cells)))):=by
 have hd:=jN w;have A:=h.pos;have I:=getElem!_pos r 0 A;have hL:(fF w t r).cells_.length=r.length:=by unfold fF;simp
 have k:∀i (hi:i<r.length),(fF w t r).cells_[i]'(by rw[hL];exact hi)=(pD w t r i).1:=λi hi=>by
  unfold fF
  show(List.map _ _)[i]'(by simpa using hi)=_
  rw[List.getElem_map,List.getElem_range]
 have y:mG w t r=eE (λi=>(pD w t r i).2) (List.range r.length):=rfl;have a:=λi (hi:i<r.length)=>avM w t.cols[i]!.kind r[i]! (by rw[getElem!_pos r i hi];exact h.n _ (zgm hi)) (by rw[getElem!_pos r i hi];exact h.s _ (zgm hi)) h.kn;have M:=h.len;have L:=h.l20;rw[I];generalize(fF w t r).cells_=N at*;generalize mG w t r=E at*;refine pC Tryz.func118 rfl ?_
 focus(repeat' first|apply wZ;rfl|show Cn _;constructor|exact rfl|apply KR.mk;kernel_rfl|apply hd|apply wY;rfl|apply wI;rfl|apply gE;omega)
 refine aFl 8 116 5 [_] rfl rfl rfl λid d=>?_;refine aC (X:={x:Nat×Nat//x.1<=r.length/\st x.2=none/\∀j<x.1,(pD w t r j).2=0}) (λi=>((((((((St.nil 52 (upd st i.1.2 (some (.arr 116 ((N.take i.1.1).map Cl.cells))))).var 3 91 (w.cells)).var 4 57 (t.cells)).var 6 106 ([vi 0, .val (.slice none 0 0), .val (.slice none 0 0)])).var 8 106 ([vi (r[0].n), .vec i.1.2 5 0 i.1.1, .seq [w.dot.cells]])).pv 21 (.seq (r.map Vl.cells))).pv 22 (vi ((r.map Vl.cells).length:Nat))).pv 23 (vi (i.1.1:Nat)))) (λi=>r.length-i.1.1) ⟨(0,id),by simp,d,by simp⟩ ?_ λi=>?_
 ·dsimp only
  repeat' first|show Cn (.t _ _);exact Cn.t0|show Cn _;constructor|exact rfl
 obtain⟨⟨i,id⟩,hi,d,C⟩:=i;simp only at hi d C;dsimp only;by_cases K:r.length<=i
 ·obtain rfl:i=r.length:=by omega
  rw[ztl (by omega)];have D:E=0:=by rw[y];exact iC.2 λj hj=>C j (List.mem_range.1 hj)
  repeat' first|show Cn (.r _ _ _);refine .rr ?_;(exact .inr ⟨D,id,rfl,d,rfl⟩);done|apply wZ;rfl|show Cn _;constructor|simp only[zql];omega|intro h;simp at h
 have g:i<r.length:=by omega
 have p:i<t.cols.length:=by omega
 have k:=k i g;have a:=a i g;rw[getElem!_pos t.cols i p,getElem!_pos r i g]at a;have F:pD w t r i=lJ w t.cols[i].kind r[i]:=by unfold pD;rw[getElem!_pos t.cols i p,getElem!_pos r i g]
 rw[<-F]at a;have P:(N.take i).length=i:=by rw[zlt];omega
 have e:N.take (i+1)=N.take i++[(pD w t r i).1]:=by rw[List.take_succ_eq_append_getElem (by omega),k]
 have B:(pD w t r i).2=0->∀j<i+1,(pD w t r j).2=0:=λq j hj=>by
  rcases zls.1 hj with z|z
  ·exact C j z
  ·subst z;exact q
 have m:(pD w t r i).2≠0->E=(pD w t r i).2:=λq=>by
  rw[y]
  have G:i<(List.range r.length).length:=by rw[List.length_range];exact g
  have:=abI (f:=λi=>(pD w t r i).2) (l:=List.range r.length) (i:=i) G (λj hj=>by rw[List.getElem_range];exact C j hj) (by rw[List.getElem_range];exact q)
  rw[this,List.getElem_range]
 generalize pD w t r i=R at*;obtain⟨c,O⟩:=R;dsimp only at e B m;unfold abH at a;dsimp only at a;by_cases hz:O=0
 ·have hu:=B hz
  repeat' first|apply Cn.cf;focus((apply a);done)|refine⟨⟨(i+1,J),by simp only;omega,cG u,hu⟩,?_,?_⟩;(dsimp only;try rw[e])|show Cn (.t _ _);exact .any (bI ‹_›)|apply wZ;rfl|show Cn _;constructor|exact rfl|apply KR.mk;kernel_rfl|apply apV pk (f:=Cl.cells) [c] 64;(iterate 9 rfl);(exact aA _ _ _);(omega);exactλ_=>rfl;exactλ_=>rfl;exact axH;(focus(simp;omega));(focus(simp;omega));rfl;intro J u|apply wY;rfl|apply wI;rfl|apply gE;omega|omega|simp only[zql];omega|intro h;simp at h|intro h
 ·have D:=m hz
  subst D;have H:=hz
  repeat' first|exact Cn.any ⟨_,_,st,rfl,zwr _,aR (zsr _) d, .inl ⟨H,rfl,rfl⟩⟩|apply Cn.cf;focus((apply a);done)|apply wZ;rfl|show Cn _;constructor|exact rfl|apply KR.mk;kernel_rfl|apply wY;rfl|apply wI;rfl|apply gE;omega|omega|simp only[zql];omega|intro h;simp at h|intro h
theorem avF(w:Wr)(t:Tb)(r:List Vl)(h:RwI w t r):PF Tryz.prog 118 [.agg w.cells, .agg t.cells, .seq (r.map Vl.cells)] (if mG w t r≠0 then aFg Ln.zero (mG w t r)else aFg (fF w t r) 0):=λst=>
 fD (sz:=5) (aGf w t r h st) λp st' h=>by
  rcases h with⟨a,rfl,rfl⟩|⟨a,id,rfl,d,rfl⟩
  ·rw[zp a]
   exact .inr ⟨_,_,aKK _,zsr _,rfl,rfl⟩
  ·rw[zn (by simp[a])]
   refine .inl ⟨id,116,(fF w t r).cells_.map Cl.cells,_,st,aA _ _ _,abW, .tup (.cons (.agg (.cons .refl (.cons (eQ (by simp[fF])) (.cons .refl .nil)))) (.cons .refl .nil)),bU d,rfl,rfl⟩
def aHP(w:Wr)(s:Sc)(b:Bs)(o:Ot):Bs×Int:=if(cB (aF b o.table) o.row[0]!.n).isSome=true then(b,8)else if(aF b o.table).length>=2000 then(b,2)else if mG w s[o.table.toNat]! o.row≠0 then(vM b o.table Ln.zero,mG w s[o.table.toNat]! o.row)else(vM b o.table (fF w s[o.table.toNat]! o.row),0)
def aG7(w:Wr)(b:Bs)(o:Ot):Bs×Int:=match cB (aF b o.table) o.key with
 |none=>(b,4)
 |some l=>if(fE w l.cells_[o.col.toNat]! o).2≠0 then(b,(fE w l.cells_[o.col.toNat]! o).2)else(vM b o.table (rH w o l),0)
def auN(w:Wr)(s:Sc)(b:Bs)(o:Ot):Bs×Int:=if o.kind=1 then aHP w s b o else if o.kind=8 then yG true s b (o.table,o.key) w.dot (vX s b (o.table,o.key))else aG7 w b o
theorem aE6{w:Wr}{s:Sc}{b:Bs}{o:Ot}(h:gS s o=0):bX w s b o=if(auN w s b o).2≠0 then([],(auN w s b o).2)else auN w s b o:=by
 unfold bX auN;rw[zn (by simp[h])];by_cases a:o.kind=1
 ·simp only[zp a]
  unfold aHI aHP;split
  ·rfl
  ·split
   ·rfl
   ·split
    ·rename_i q;simp only[zp q]
    ·rfl
 ·simp only[zn a]
  by_cases h8:o.kind=8
  ·simp only[zp h8]
   unfold yG
   repeat' split
   all_goals first|rfl|(rename_i q;exact absurd rfl q)
  ·simp only[zn h8]
   unfold ayI aG7;cases cB (aF b o.table) o.key with
   |none=>rfl
   |some l=>
    simp only;split
    ·rename_i q;simp only[zp q]
    ·rfl
theorem ahB{v:Vl}(h:cE v=true):inL v.n:=by
 unfold cE at h;unfold inL;split at h
 ·simp at h;omega
 ·split at h
  ·simp at h;omega
  ·split at h
   ·simp at h;omega
   ·cases h
structure DoB (k:Nat) (w:Wr) (s:Sc) (b:Bs) (o:Ot):Prop where
 sb:ScB s
 len:s.length<=20
 bs:OpW k b
 k20:k<=20
 kn:w.knew.length<1000000000000
 few:nF o
theorem DoB.S{k:Nat}{w:Wr}{s:Sc}{b:Bs}{o:Ot}(h:DoB k w s b o):BsS 200 b:=h.bs.S h.k20
theorem azL{n:Nat}{b:Bs}(h:BsS n b)(hn:n<=1000):b.length<100000000000/\∀d∈b,d.lines.length<100000000000:=⟨by have:=h.1;omega,λd hd=>by have:=(h.2 d hd).1;omega⟩
theorem aHg{b:Bs}{k:Nat}(hk:k<b.length):aF b (k:Int)=b[k].lines:=by
 unfold aF okT;rw[zp (by simp;omega),Int.toNat_natCast,getElem!_pos b k hk]
section
variable{n:Nat}{w:Wr}{s:Sc}{b:Bs}{o:Ot}(hD:DoB n w s b o)(hb:bC T.rightP s b=true)
include hD hb
theorem aIZ(C:gS s o=0)(A:o.kind=1):PF Tryz.prog 63 [.agg w.cells, .agg (scC s), .agg (bsC b), .agg o.cells] (oS (aHP w s b o)):=by
 obtain⟨k,hk,t,G,_⟩:=yP C;have hi:=G A;obtain⟨⟨H,J⟩,_⟩:=aU.1 hb;have r:k<b.length:=by omega
 unfold awP at hi;split at hi
 ·cases hi
 split at hi
 ·rename_i q;exact absurd hi q
 split at hi
 ·cases hi
 rename_i K i M;have i:=zdn i;have l:=awY i;have g:0<o.row.length:=by omega
 have p:RwI w s[k] o.row:=⟨g,by omega,by have:=hD.few.1;omega,λv hv=>by
  obtain⟨j,hj,rfl⟩:=zgo hv
  unfold eS at i
  rw[zp l.symm]at i
  have:=iC.1 i j (List.mem_range.2 hj)
  unfold vB at this
  split at this
  ·cases this
  ·rename_i q
   rw[getElem!_pos o.row j hj]at q;exact ahB (by simpa using q),λv hv=>by have:=hD.few.2.2 v hv;omega,hD.kn⟩
 have y:=hD.S;obtain⟨D,F⟩:=azL y (by omega);have f:=zB y (by omega) o.table o.row[0].n;have d:=avF w s[k] o.row p;have e:=λa=>acH b o.table a D F;have m:=aHg r;have u:=(jX hD.bs (k:Int)).1;have z:=hD.k20;unfold aHP;rw[getElem!_pos o.row 0 g];rw[show s[o.table.toNat]! =s[k]from by rw[hk,Int.toNat_natCast,getElem!_pos s k t]];rw[show(aF b o.table).length=b[k].lines.length from by rw[hk,m]];rw[m]at u;generalize(cB (aF b o.table) o.row[0].n).isSome=I at*;generalize(cB (aF b o.table) o.row[0].n).getD Ln.zero=L at*;cases I with
 |true=>
  rw[zp rfl];refine pF Tryz.func63 rfl λst=>?_
  (repeat' first|apply wZ;rfl|show Cn _;constructor|exact rfl|apply KR.mk;kernel_rfl|apply f|apply wY;rfl|apply wI;rfl|apply gE;omega|omega|intro h)
 |false=>
  rw[zn (by simp),zn (by omega)];by_cases x:mG w s[k] o.row≠0
  ·rw[zp x]at d⊢
   have e:=e Ln.zero;generalize mG w s[k] o.row=E at*;generalize vM b o.table Ln.zero=B at*;unfold aFg at d;refine pF Tryz.func63 rfl λst=>?_
   repeat' first|apply iX;(intro hw;exact hk);(apply gE;omega);rfl|apply wZ;rfl|show Cn _;constructor|exact rfl|apply KR.mk;kernel_rfl|(first|apply f|apply d|apply e)|apply wY;rfl|apply wI;rfl|apply gE;omega|omega|simp only[zql];omega|intro h;simp at h|intro h
  ·rw[zn x]at d⊢
   have e:=e (fF w s[k] o.row);generalize fF w s[k] o.row=N at*;generalize vM b o.table N=B at*;unfold aFg at d;refine pF Tryz.func63 rfl λst=>?_
   repeat' first|apply iX;(intro hw;exact hk);(apply gE;omega);rfl|apply wZ;rfl|show Cn _;constructor|exact rfl|apply KR.mk;kernel_rfl|(first|apply f|apply d|apply e)|apply wY;rfl|apply wI;rfl|apply gE;omega|omega|simp only[zql];omega|intro h;simp at h|intro h
theorem aIB(h8:o.kind=8):PF Tryz.prog 63 [.agg w.cells, .agg (scC s), .agg (bsC b), .agg o.cells] (oS (yG true s b (o.table,o.key) w.dot (vX s b (o.table,o.key)))):=by
 have hd:=jN w;have e:=fV hD.S (by omega) hD.sb hD.len;rw[hb]at e;have a:PF Tryz.prog 119 [.agg (scC s), .agg (bsC b),vi o.table,vi o.key, .agg w.dot.cells] (oS (yG true s b (o.table,o.key) w.dot (vX s b (o.table,o.key)))):=aEd e (λ_=>aGy hb ⟨hD.S.1,λd hd=>⟨by have:=(hD.S.2 d hd).1;omega,(hD.S.2 d hd).2⟩⟩) (o.table,o.key) w.dot;generalize yG true s b (o.table,o.key) w.dot (vX s b (o.table,o.key))=R at*;unfold oS at a;refine pF Tryz.func63 rfl λst=>?_
 repeat' first|apply wZ;rfl|show Cn _;constructor|exact rfl|apply KR.mk;kernel_rfl|(first|apply hd|apply a)|apply wY;rfl|omega|intro h
theorem aHK(A:gS s o=0)(M:o.kind≠1)(h8:o.kind≠8):PF Tryz.prog 63 [.agg w.cells, .agg (scC s), .agg (bsC b), .agg o.cells] (oS (aG7 w b o)):=by
 obtain⟨k,hk,C,_,U⟩:=yP A;have hc:=U M h8;obtain⟨⟨V,X⟩,_⟩:=aU.1 hb;have O:k<b.length:=by omega
 have u:2<=o.kind/\o.kind<=7:=by
  unfold gS at A;split at A
  ·cases A
  ·omega
 have hd:=jN w;have H:=hD.S;obtain⟨P,Q⟩:=azL H (by omega);have d:=zB H (by omega) o.table o.key;have f:=λa=>acH b o.table a P Q;have K:=hD.k20;unfold aG7;cases hg:cB (aF b o.table) o.key with
 |none=>
  rw[hg]at d;refine pF Tryz.func63 rfl λst=>?_
  (repeat' first|apply wZ;rfl|show Cn _;constructor|exact rfl|apply d|apply wY;rfl|omega|intro h)
 |some l=>
 rw[hg]at d;have t:PF Tryz.prog 55 [.agg (bsC b),vi o.table,vi o.key] (.tup [.agg l.cells,vb true]):=d;clear d;have m:=wJ hg;have i:=(jX hD.bs o.table).2 l m;rw[hk]at m;have hL:=aeG hb C m;unfold adX at hc;split at hc
 ·cases hc
 split at hc
 ·cases hc
 split at hc
 ·cases hc
 split at hc
 ·rename_i q;exact absurd hc q
 rename_i Y Z u3 z;have z:=zdn z;have L:=hL.len;obtain⟨j,hj⟩:∃j:Nat,o.col=j:=⟨o.col.toNat,by omega⟩;have g:j<l.cells_.length:=by omega
 have E:cE o.val=true:=by
  unfold tF at z;split at z
  ·cases z
  ·rename_i q
   cases e:cE o.val with
   |true=>rfl
   |false=>exact absurd (.inr e) q
 have hT:TnOK w l.cells_[j] o:=⟨ahB E,by have:=hD.few.2.1;omega,hD.kn,by have:=i.2.2 _ (zgm g);omega⟩;have r:=ahF l.cells_;have J:=i.2.1;have I:=i.1;have y:=λ(id:Nat)(st:aD) hst=>aGk (w:=w) (cs:=l.cells_) (j:=j) (id:=id) (o:=o) g hT u.1 u.2 (st:=st) hst;have p:=λN=>adU ⟨l.key,N,l.by_⟩ w.dot (by show l.by_.length<_;omega);have x:rH w o l=dD ⟨l.key,l.cells_.set j (fE w l.cells_[j] o).1,l.by_⟩ w.dot:=by unfold rH;rw[hj,Int.toNat_natCast,getElem!_pos l.cells_ j g]
 simp only;rw[x,show l.cells_[o.col.toNat]! =l.cells_[j]from by rw[hj,Int.toNat_natCast,getElem!_pos l.cells_ j g]];have p:=p (l.cells_.set j (fE w l.cells_[j] o).1);have f:=f (dD ⟨l.key,l.cells_.set j (fE w l.cells_[j] o).1,l.by_⟩ w.dot);have D:(l.cells_.set j (fE w l.cells_[j] o).1).length=l.cells_.length:=List.length_set ..;generalize fE w l.cells_[j] o=R at*;generalize dD ⟨l.key,l.cells_.set j R.1,l.by_⟩ w.dot=W at*;generalize vM b o.table W=B at*;generalize l.cells_.set j R.1=N at*;by_cases G:R.2≠0
 ·rw[zp G]
  refine pF Tryz.func63 rfl λst=>?_
  repeat' first|exact Cn.any ⟨_,_,st,rfl,zwr _,aR (aR (zsr _) hid) hid,rfl,rfl⟩|apply wD pk [7] [];kernel_rfl;rfl;rfl|apply Cn.cf;focus(((apply t));done)|apply cP;rfl;(apply(r _ (by omega)));rintro _ st' (⟨id,rfl,hid,rfl⟩)|apply cP;rfl;(apply y id _ (aA _ _ _));rintro _ st' (⟨rfl,rfl⟩)|apply wZ;rfl|show Cn _;constructor|apply ixA pk;(iterate 5 rfl);rotate_left;rfl;(intro hw;(exact(show _=((j:Nat):Int)from by omega)));(intro hw;(omega));rfl;(exact Nat.zero_add _)|apply wY;rfl|omega|intro h
 ·rw[zn G]
  have F:=λid=>(show FzL id 5 (N.map Cl.cells) [.agg [vi l.key, .vec id 5 0 l.cells_.length, .seq (l.by_.map Dt.cells)], .agg w.dot.cells] [.agg [vi l.key, .seq (N.map Cl.cells), .seq (l.by_.map Dt.cells)], .agg w.dot.cells]from .cons (.agg (.cons .refl (.cons (eQ D) (.cons .refl .nil)))) (.cons .refl .nil));refine pF Tryz.func63 rfl λst=>?_
  repeat' first|exact Cn.any ⟨_,_,st,rfl,zwr _,aR (aR (aR (zsr _) hid) hid) hid,rfl,rfl⟩|apply wDO pk [0,1,2,3,4,5,6,7,8] [7] [] [7] [];rfl;rfl;kernel_rfl;rfl;rfl|apply wDO pk [0,1,2,3,4,5,6,7,8,9] [6] [] [6] [];rfl;rfl;kernel_rfl;rfl;rfl|apply Cn.cf;focus(((first|apply t|apply hd|apply f));done)|apply cP;rfl;(apply(r _ (by omega)));rintro _ st' (⟨id,rfl,hid,rfl⟩)|apply cP;rfl;(apply y id _ (aA _ _ _));rintro _ st' (⟨rfl,rfl⟩)|apply cP;rfl;(apply PC.freezeZ (aA _ _ _) abW (F id) (p _));rintro _ st' (⟨rfl,rfl⟩)|apply wZ;rfl|show Cn _;constructor|apply ixA pk;(iterate 5 rfl);rotate_left;rfl;(intro hw;(exact(show _=((j:Nat):Int)from by omega)));(intro hw;(omega));rfl;(exact Nat.zero_add _)|apply wY;rfl|omega|intro h
theorem aJf(d:gS s o=0):PF Tryz.prog 63 [.agg w.cells, .agg (scC s), .agg (bsC b), .agg o.cells] (oS (auN w s b o)):=by
 unfold auN;by_cases a:o.kind=1
 ·rw[zp a];exact aIZ hD hb d a
 ·rw[zn a]
  by_cases h8:o.kind=8
  ·rw[zp h8];exact aIB hD hb h8
  ·rw[zn h8];exact aHK hD hb d a h8
end
end
section
set_option maxRecDepth 10000
set_option maxHeartbeats 4000000
variable{w v:Wr}{s:Sc}{b:Bs}
theorem nK(o:Ot)(r:List Ot):bD w s b (o::r)=if(bX w s b o).2≠0 then([],(bX w s b o).2)else bD w s (bX w s b o).1 r:=rfl
theorem pR(hw:qK w=true):∀{l:List Ot}{b:Bs}{k:Nat},bC T.rightP s b=true->OpW k b->(∀o∈l,nF o)->(bD w s b l).2=0->bC T.rightP s (bD w s b l).1=true/\OpW (k+l.length) (bD w s b l).1
 |[],b,k,hb,h,_,_=>⟨hb,h⟩
 |o::r,b,k,hb,h,ho,h0=>by
  unfold bD at*
  split at h0
  ·rename_i q;exact absurd h0 q
  ·rename_i q
   rw[zn q];have:=pR hw (l:=r) (asM hw hb (zdn q)) (aE5 (k:=k) h (ho o (by simp))) (λx hx=>ho x (List.mem_cons_of_mem _ hx)) h0;rw[zlc];exact⟨this.1,by rw[show k+(r.length+1)=k+1+r.length by omega];exact this.2⟩
theorem kZ(o:Ot):∀(l:List Ot)(b:Bs),(bD w s b l).2=0->bD w s b (l++[o])=if(bX w s (bD w s b l).1 o).2≠0 then([],(bX w s (bD w s b l).1 o).2)else((bX w s (bD w s b l).1 o).1,0)
 |[],b,_=>rfl
 |x::r,b,h=>by
  rw[List.cons_append]
  unfold bD at*
  split at h
  ·rename_i q;exact absurd h q
  ·rename_i q
   rw[zn q,zn q];exact kZ o r _ h
theorem aBO{l m:List Ot}{b:Bs}(h:(bD w s b l).2≠0):bD w s b (l++m)=bD w s b l:=by
 induction l generalizing b with
 |nil=>exact absurd rfl h
 |cons o r ih=>
  rw[List.cons_append,nK,nK];rw[nK]at h;split
  ·rfl
  ·rename_i q
   rw[zn q]at h;exact ih h
theorem ayF{l:List Ot}{i:Nat}(hi:i<l.length){b:Bs}(h:(bD w s b (l.take i)).2=0):bD w s b (l.take (i+1))=if(bX w s (bD w s b (l.take i)).1 l[i]).2≠0 then([],(bX w s (bD w s b (l.take i)).1 l[i]).2)else((bX w s (bD w s b (l.take i)).1 l[i]).1,0):=by
 rw[List.take_succ_eq_append_getElem hi,kZ _ _ _ h]
theorem apF{l:List Ot}{i:Nat}{b:Bs}(h:(bD w s b (l.take i)).2≠0):bD w s b l=bD w s b (l.take i):=by
 have:=aBO (m:=l.drop i) h;rwa[List.take_append_drop]at this
theorem fO :rightW w s b=true↔rightC s=0/\bC T.rightP s b=true/\qK w=true:=by
 unfold rightW mayC;rw[zba,zba,zde,and_assoc]
theorem asT{l:List Ot}(h:(fY w s b l).2=0):rightW w s b=true/\(bD w s b l).2=0/\whyC s (bD w s b l).1=0/\(fY w s b l).1=(bD w s b l).1:=by
 unfold fY at*;split at h
 ·cases h
 ·rename_i e
  rw[zn e];split at h
  ·cases h
  ·rename_i f
   rw[zn f];split at h
   ·rename_i a;exact absurd h a
   ·rename_i a
    rw[zn a];split at h
    ·rename_i d;exact absurd h d
    ·rename_i d
     rw[zn d];exact⟨by simpa using e,zdn a,zdn d,rfl⟩
end
end Go.Proofs.YtnogfoojjaainaaGreatDoor
