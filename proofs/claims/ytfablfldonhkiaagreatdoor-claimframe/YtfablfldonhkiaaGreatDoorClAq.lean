import Derived.Test.YtfablfldonhkiaaGreatDoorClAo
import Derived.Test.YtfablfldonhkiaaGreatDoorClAp
import Derived.Test.YtfablfldonhkiaaGreatDoorClAl
set_option linter.unusedSimpArgs false
set_option linter.unusedVariables false
namespace Go.Proofs.YtfablfldonhkiaaGreatDoor
open Go Go.Abs
section
attribute [local irreducible] Ev PWp
set_option maxRecDepth 10000
set_option maxHeartbeats 4000000
theorem auX {α:Type} {f:α->Bool}:∀{l:List α} {i:Nat} (h:i<l.length),f l[i]=true->(∀j (hj:j<l.length),j<i->f l[j]=false)->afJ f l=i
 |[],_,h,_,_=>by simp at h
 |a::l,0,_,hf,_=>by rw [rP,zp (show f a=true from hf)]
 |a::l,i+1,h,hf,hn=>by
  rw [rP,zn (by rw [show f a=false from hn 0 (by simp) (by omega)];simp),auX (l:=l) (i:=i) (by simpa using h) hf λj hj b=>hn (j+1) (by simp;omega) (by omega)]
theorem asC {α:Type} {f:α->Bool}:∀{l:List α},(∀j (hj:j<l.length),f l[j]=false)->afJ f l=l.length
 |[],_=>rfl
 |a::l,hn=>by
  rw [rP,zn (by rw [show f a=false from hn 0 (by simp)];simp),asC (l:=l) λj hj=>hn (j+1) (by simp;omega)];rfl
def aAd (st:aD) (c:Cl) (r:PV) (S:aD):Prop:=∃id,r= .agg [(vi (c.kind)),(vi (c.val.kind)),(vi (c.val.n)),(vs (c.val.s)), .vec id 11 0 c.parts.length]/\st id=none/\S=upd st id (some (.arr 149 (c.parts.map Pt.cells)))
theorem awK {f:FuncId} {args:List PV} {c:Cl} (h:∀st,PC Tryz.prog f args st (aAd st c)):PF Tryz.prog f args (.agg c.cells):=λst=>
 gF (sz:=11) (h st) λp st' h=>by
  obtain ⟨id,rfl,a,rfl⟩:=h
  exact .inl ⟨id,149,c.parts.map Pt.cells,_,st,aA _ _ _,sK, .agg (.cons .refl (.cons .refl (.cons .refl (.cons .refl (.cons (fW (by simp)) .nil))))),cD a,rfl,rfl⟩
theorem aG0 (l:List Pt) (d:FuncId) (caps:List PV) (f:Pt->Bool) (hl:l.length<1000000000) (hf:∀p,PF Tryz.prog d ([.agg p.cells]++caps) (vb (f p))) (st:aD):PC Tryz.prog 242 [.seq (l.map Pt.cells), .fn d caps] st λr S=>∃id,r= .vec id 11 0 (l.filter f).length/\st id=none/\S=upd st id (some (.arr 149 ((l.filter f).map Pt.cells))):=by
 refine pC Tryz.func242 rfl ?_
 (repeat' first|apply wZ;rfl|show Cn _;constructor)
 refine fG 5 149 11 rfl rfl rfl (λid a=> ?_);refine aC (X:={x:Nat×Nat//x.1<=l.length/\st x.2=none}) (λi=>((((((St.nil 23 (upd st i.1.2 (some (.arr 149 (((l.take i.1.1).filter f).map Pt.cells))))).pv 1 (.fn d caps)).pv 5 (.vec i.1.2 11 0 ((l.take i.1.1).filter f).length)).pv 8 (.seq (l.map Pt.cells))).pv 9 ((vi ((((l.map Pt.cells)).length:Nat))))).pv 10 ((vi ((i.1.1:Nat)))))) (λi=>l.length-i.1.1) ⟨(0,id),by simp,a⟩ ?_ (λi=> ?_)
 ·dsimp only
  (repeat' first|show Cn (.t _ _);exact Cn.t0|show Cn _;constructor|exact rfl)
 obtain ⟨⟨i,id⟩,hi,a⟩:=i;simp only at hi a;dsimp only;by_cases g:l.length<=i
 ·have e:l.take i=l:=ztl g
  rw [e]
  (repeat' first|show Cn (.r _ _ _);refine .rr ?_;(exact ⟨id,rfl,a,rfl⟩);done|apply wZ;rfl|show Cn _;constructor|simp only [zql];omega|(intro h;simp at h))
 have m:i<l.length:=by omega
 have b:=hf l[i];have n:((l.take i).filter f).length<=l.length:=Nat.le_trans (List.length_filter_le ..) (by simp;omega);cases hb:f l[i] with
 |false=>
  have e:(l.take (i+1)).filter f=(l.take i).filter f:=by rw [List.take_succ_eq_append_getElem m,List.filter_append];simp [hb]
  rw [hb] at b
  (repeat' first|(apply Cn.cf;focus ((apply b);done))|refine ⟨⟨(i+1,id),by simp only;omega,a⟩, ?_, ?_⟩;((dsimp only;rw [e]))|apply wZ;rfl|show Cn _;constructor|exact rfl|apply wY;rfl|apply wI;rfl|apply gE;omega|omega|simp only [zql];omega|(intro h;simp at h))
 |true=>
  have e:(l.take (i+1)).filter f=(l.take i).filter f++[l[i]]:=by rw [List.take_succ_eq_append_getElem m,List.filter_append];simp [hb]
  rw [hb] at b;generalize (l.take i).filter f=K at*
  (repeat' first|(apply Cn.cf;focus ((apply b);done))|refine ⟨⟨(i+1,k),by simp only;omega,dG j⟩, ?_, ?_⟩;((dsimp only;rw [e]))|show Cn (.t _ _);exact .any (bR ‹_›)|apply wZ;rfl|show Cn _;constructor|exact rfl|show _=_;(simp)|(apply apV pk (f:=Pt.cells) [l[i]] 96;(iterate 9 rfl);(exact aA _ _ _);(omega);exact λ_=>rfl;exact λ_=>rfl;exact wP;((focus (simp;omega)));((focus (simp;omega)));rfl;intro k j)|apply wY;rfl|apply wI;rfl|apply gE;omega|omega|simp only [zql];omega|(intro h;simp at h))
theorem aKc (a b:Dt):(decide (a.dev=b.dev)&&decide (a.seq=b.seq))=decide (a=b):=by
 rw [Bool.eq_iff_iff];simp [Dt.ext_iff]
theorem atN (d:Dt) (kn:List Int) (hk:kn.length<1000000000000) (p:Pt):PF Tryz.prog 243 ([.agg p.cells]++[.rp d.cells, .rp [.seq (kn.map I1)]]) (vb (sX d kn p)):=by
 have h:=ahY kn p.dot hk;have e:sX d kn p=(!(decide (p.dot.dev=d.dev)&&decide (p.dot.seq=d.seq))&& !aqN kn p.dot):=by unfold sX;rw [aKc];simp
 rw [e];generalize aqN kn p.dot=H at*;refine pF Tryz.func243 rfl (λst=> ?_)
 (repeat' first|apply wZ;rfl|show Cn _;constructor|exact rfl|(apply h)|apply wY;rfl)
theorem aBe (c:Cl) (v:Vl) (d:Dt) (kn:List Int) (hl:c.parts.length<1000000000) (hk:kn.length<1000000000000) (st:aD):PC Tryz.prog 181 [.agg c.cells, .agg v.cells, .agg d.cells, .seq (kn.map I1)] st (aAd st (iQ c v d kn)):=by
 have y:=aG0 c.parts 243 [.rp d.cells, .rp [.seq (kn.map I1)]] (sX d kn) hl (atN d kn hk);have A:=List.length_filter_le (sX d kn) c.parts;unfold aAd iQ;dsimp only;generalize c.parts.filter (sX d kn)=K at*;refine pC Tryz.func181 rfl ?_
 focus ((repeat' first|(apply cP;rfl;(apply (y _));rintro _ st' (⟨id,rfl,g,rfl⟩))|apply wZ;rfl|show Cn _;constructor|apply bC 6;rfl;rfl|apply bC 7;rfl;rfl|apply wY;rfl))
 have g:st id=none:=g;refine aC (X:={x:Nat//x<=K.length/\∀j (h:j<K.length),j<x->bE K[j].dot d=false}) (λi=>((((((((((St.nil 42 (upd st id (some (.arr 149 (K.map Pt.cells))))).var 4 110 (c.cells)).var 5 63 (v.cells)).pv 6 (.rp d.cells)).var 8 110 ([(vi (0)),(vi (0)),(vi (0)),(vs (e0)), .val (.slice none 0 0)])).pv 9 (.vec id 11 0 K.length)).pv 10 ((vi ((K.length:Nat))))).pv 19 (.vec id 11 0 K.length)).pv 20 ((vi ((K.length:Nat))))).pv 21 ((vi ((i.1:Nat)))))) (λi=>K.length-i.1) ⟨0,by omega,by omega⟩ ?_ (λi=> ?_)
 ·(repeat' first|show Cn (.t _ _);exact Cn.t0|show Cn _;constructor|exact rfl)
 obtain ⟨i,hi,r⟩:=i;dsimp only;have l:=λ(k:Nat) (hk:k<=K.length) (st2:aD) (hst:st2 id=some (.arr 149 (K.map Pt.cells)))=>alP K [ptN v d] k id K.length st2 hst rfl hk (by simp) (by simp;omega);by_cases z:K.length<=i
 ·have e:=asC (f:=λp:Pt=>bE p.dot d) λj hj=>r j hj (by omega)
  rw [e]
  (repeat' first|exact Cn.any ⟨_,_,upd st id2 (some (.arr 149 ((dS K K.length [ptN v d]).map Pt.cells))),rfl,zwr _,kP g,id2,rfl,iG g hid2,rfl⟩|(apply cP;rfl;(apply (l K.length (Nat.le_refl _) _ (aA _ _ _)));rintro _ st' (⟨id2,rfl,hid2,rfl⟩))|apply wZ;rfl|show Cn _;constructor|apply wY;rfl|omega|(intro h;simp at h))
 have m:i<K.length:=by omega
 have n:=ahN K[i].dot d;have b:=avV K[i].dot d;cases hb:bE K[i].dot d with
 |true=>
  have e:=auX (f:=λp:Pt=>bE p.dot d) m hb r;rw [e];rw [hb] at b;have b:byD K[i].dot d>0:=by simpa using b
  generalize byD K[i].dot d=B at*
  (repeat' first|exact Cn.any ⟨_,_,upd st id2 (some (.arr 149 ((dS K i [ptN v d]).map Pt.cells))),rfl,zwr _,kP g,id2,rfl,iG g hid2,rfl⟩|(apply Cn.cf;focus ((apply n);done))|(apply cP;rfl;(apply (l i hi _ (aA _ _ _)));rintro _ st' (⟨id2,rfl,hid2,rfl⟩))|apply wZ;rfl|show Cn _;constructor|apply ldL pk Pt.elem (a:=K[i]);rfl;rfl;rotate_left;rfl;(exact aA _ _ _);(intro _;exact (zgg m));rfl|apply ixA pk;(iterate 5 rfl);rotate_left;rfl;(intro hw;(exact (show _=((i:Nat):Int) from by omega)));(intro hw;(omega));rfl;(exact Nat.zero_add _)|apply wY;rfl|omega|(intro h;simp at h))
 |false=>
  rw [hb] at b;have b:¬byD K[i].dot d>0:=by simpa using b
  have s:∀j (h:j<K.length),j<i+1->bE K[j].dot d=false:=λj hj u=>by
   rcases zls.1 u with q|q
   ·exact r j hj q
   ·subst q;exact hb
  generalize byD K[i].dot d=B at*
  (repeat' first|(apply Cn.cf;focus ((apply n);done))|(refine ⟨⟨i+1,by omega,s⟩, ?_, ?_⟩)|show Cn (.t _ _);exact Cn.t0|apply wZ;rfl|show Cn _;constructor|exact rfl|apply ldL pk Pt.elem (a:=K[i]);rfl;rfl;rotate_left;rfl;(exact aA _ _ _);(intro _;exact (zgg m));rfl|apply ixA pk;(iterate 5 rfl);rotate_left;rfl;(intro hw;(exact (show _=((i:Nat):Int) from by omega)));(intro hw;(omega));rfl;(exact Nat.zero_add _)|apply wY;rfl|omega|simp only [zql];omega|(intro h;simp at h))
theorem aaC (c:Cl) (v:Vl) (d:Dt) (kn:List Int) (hl:c.parts.length<1000000000) (hk:kn.length<1000000000000):PF Tryz.prog 181 [.agg c.cells, .agg v.cells, .agg d.cells, .seq (kn.map I1)] (.agg (iQ c v d kn).cells):=awK (aBe c v d kn hl hk)
def azW (n:Int) (d:Dt):List Value:=[.int .i64 n, .int .i64 d.dev, .int .i64 d.seq]
theorem aFz (n:Int) (d:Dt) (p:Pt):decide (ahI (ptN (nV n) d) p=0)=sW n d p:=by
 unfold ahI sW iT ptN nV;simp only [orI];rw [Bool.eq_iff_iff];simp only [zde,zba,Dt.ext_iff]
 grind
theorem aF0 (c:Cl) (n:Int) (d:Dt) (hl:c.parts.length<1000000000) (st:aD):PC Tryz.prog 185 [.agg c.cells,(vi (n)), .agg d.cells] st (aAd st (oL c n d)):=by
 have y:=yA c.parts;have b:=λp=>awA (ptN (nV n) d) p;have hz:=aFz n d;have e:=λp=>aEU (ptN (nV n) d) p;refine pC Tryz.func185 rfl ?_
 focus ((repeat' first|apply wZ;rfl|show Cn _;constructor|apply mkB (xs:=azW n d);iterate 4 rfl))
 refine aC (X:={x:Nat×Nat//x.1<=c.parts.length/\(∀j (h:j<c.parts.length),j<x.1->sW n d c.parts[j]=false)/\((x.2=c.parts.length/\∀j (h:j<c.parts.length),j<x.1->eI c.parts[j] (ptN (nV n) d)=false)\/(∃h:x.2<c.parts.length,eI c.parts[x.2] (ptN (nV n) d)=true/\∀j (h:j<c.parts.length),j<x.2->eI c.parts[j] (ptN (nV n) d)=false))}) (λi=>((((((((((St.nil 65 st).pv 1 ((vi (n)))).var 3 110 (c.cells)).var 5 80 (d.cells)).var 6 110 ([(vi (0)),(vi (0)),(vi (0)),(vs (e0)), .val (.slice none 0 0)])).pv 8 (.val (amG 229 (azW n d)))).pv 9 ((vi ((i.1.2:Nat))))).pv 22 (.seq (c.parts.map Pt.cells))).pv 23 ((vi (((c.parts.map Pt.cells).length:Nat))))).pv 24 ((vi ((i.1.1:Nat)))))) (λi=>c.parts.length-i.1.1) ⟨(0,c.parts.length),by simp,by simp, .inl ⟨rfl,by simp⟩⟩ ?_ (λi=> ?_)
 ·(repeat' first|show Cn _;constructor|exact rfl|simp)
 obtain ⟨⟨i,a⟩,hi,hs,ha⟩:=i;simp only at hi hs ha;dsimp only;by_cases H:c.parts.length<=i
 ·have F:¬c.parts.any (sW n d)=true:=by
   rw [List.any_eq_true];rintro ⟨p,hp,q⟩;obtain ⟨j,hj,rfl⟩:=zgo hp;rw [hs j hj (by omega)] at q;cases q
  have k:a<=c.parts.length/\afJ (λp=>eI p (ptN (nV n) d)) c.parts=a:=by
   rcases ha with ⟨C,D⟩|⟨C,D,I⟩
   ·subst C;exact ⟨Nat.le_refl _,asC λj hj=>D j hj (by omega)⟩
   ·exact ⟨by omega,auX C D I⟩
  unfold aAd oL;rw [zn F,k.2];have k:=k.1;dsimp only;have A:=λ(id:Nat) (st2:aD) (hst:st2 id=some (.arr 149 (c.parts.map Pt.cells)))=>alP c.parts [ptN (nV n) d] a id c.parts.length st2 hst rfl k (by simp) (by simp;omega)
  (repeat' first|exact Cn.any ⟨_,_,upd st id2 (some (.arr 149 ((dS c.parts a [ptN (nV n) d]).map Pt.cells))),rfl,zwr _,kP hid,id2,rfl,iG hid hid2,rfl⟩|apply wDO pk [0,1,3,4,5,6,7,8,2,9,10,11] [2,9] [] [8,9] [];rfl;rfl;kernel_rfl;rfl;rfl|(apply cP;rfl;(apply (y _ (by omega)));rintro _ st' (⟨id,rfl,hid,rfl⟩))|(apply cP;rfl;(apply (A id _ (aA _ _ _)));rintro _ st' (⟨id2,rfl,hid2,rfl⟩))|apply wZ;rfl|show Cn _;constructor|apply wY;rfl|simp only [zql];omega|(intro h;simp at h))
 have z:i<c.parts.length:=by omega
 have b:=b c.parts[i];have hz:=hz c.parts[i];have e:=e c.parts[i];have l:=xB c.parts[i];by_cases v:sW n d c.parts[i]=true
 ·rw [v] at hz
  have hz:ahI (ptN (nV n) d) c.parts[i]=0:=by simpa using hz
  rw [hz] at b;have B:c.parts.any (sW n d)=true:=List.any_eq_true.2 ⟨_,zgm z,v⟩;unfold aAd oL;rw [zp B]
  (repeat' first|(apply Cn.cf;focus ((apply l);done))|(apply cP;rfl;(apply (y _ (by omega)));rintro _ st' (⟨id,rfl,hid,rfl⟩))|show Cn (.r _ _ _);refine .rr ?_;(exact ⟨id,rfl,hid,rfl⟩);done|apply wZ;rfl|show Cn _;constructor|exact rfl|apply awI (xs:=azW n d);rfl;rfl;exact b;rfl;rfl;rfl|apply wY;rfl|apply wI;rfl|apply gE;omega|simp only [zql];omega|(intro h;simp at h))
 have s:sW n d c.parts[i]=false:=by simpa using v
 have u:∀j (h:j<c.parts.length),j<i+1->sW n d c.parts[j]=false:=λj hj t=>by
  rcases zls.1 t with q|q
  ·exact hs j hj q
  ·subst q;exact s
 rw [s] at hz;have hz:¬ahI (ptN (nV n) d) c.parts[i]=0:=by simpa using hz
 have f:eI c.parts[i] (ptN (nV n) d)=decide (ahI (ptN (nV n) d) c.parts[i]<0):=by
  cases G:eI c.parts[i] (ptN (nV n) d) with
  |true=>
   rw [G] at e;have:=of_decide_eq_false e;exact (decide_eq_true (by omega)).symm
  |false=>
   rw [G] at e;have:=of_decide_eq_true e;exact (decide_eq_false (by omega)).symm
 clear e;generalize ahI (ptN (nV n) d) c.parts[i]=O at*;by_cases m:O<0
 ·rw [decide_eq_true m] at f
  by_cases E:a=c.parts.length
  ·have g:∀j (h:j<c.parts.length),j<i->eI c.parts[j] (ptN (nV n) d)=false:=by
    rcases ha with ⟨_,q⟩|⟨q,_⟩
    ·exact q
    ·omega
   (repeat' first|(refine ⟨⟨(i+1,i),by simp only;omega,u, .inr ⟨z,f,g⟩⟩, ?_, ?_⟩)|apply wZ;rfl|show Cn _;constructor|exact rfl|(apply l)|apply awI (xs:=azW n d);rfl;rfl;exact b;rfl;rfl;rfl|apply wY;rfl|apply wI;rfl|apply gE;omega|omega|simp only [zql];omega|intro h;simp at h;omega|(intro h;simp at h)|intro h)
  ·have g:∃h:a<c.parts.length,eI c.parts[a] (ptN (nV n) d)=true/\∀j (h:j<c.parts.length),j<a->eI c.parts[j] (ptN (nV n) d)=false:=by
    rcases ha with ⟨q,_⟩|q
    ·exact absurd q E
    ·exact q
   (repeat' first|(refine ⟨⟨(i+1,a),by simp only;omega,u, .inr g⟩, ?_, ?_⟩)|apply wZ;rfl|show Cn _;constructor|exact rfl|(apply l)|apply awI (xs:=azW n d);rfl;rfl;exact b;rfl;rfl;rfl|apply wY;rfl|apply wI;rfl|apply gE;omega|omega|simp only [zql];omega|intro h;simp at h;omega|(intro h;simp at h)|intro h)
 ·rw [decide_eq_false m] at f
  have g:(a=c.parts.length/\∀j (h:j<c.parts.length),j<i+1->eI c.parts[j] (ptN (nV n) d)=false)\/∃h:a<c.parts.length,eI c.parts[a] (ptN (nV n) d)=true/\∀j (h:j<c.parts.length),j<a->eI c.parts[j] (ptN (nV n) d)=false:=by
   rcases ha with ⟨C,D⟩|q
   ·refine .inl ⟨C,λj hj t=> ?_⟩
    rcases zls.1 t with q|q
    ·exact D j hj q
    ·subst q;exact f
   ·exact .inr q
  (repeat' first|(refine ⟨⟨(i+1,a),by simp only;omega,u,g⟩, ?_, ?_⟩)|apply wZ;rfl|show Cn _;constructor|exact rfl|(apply l)|apply awI (xs:=azW n d);rfl;rfl;exact b;rfl;rfl;rfl|apply wY;rfl|apply wI;rfl|apply gE;omega|omega|simp only [zql];omega|intro h;simp at h;omega|(intro h;simp at h)|intro h)
theorem adG (c:Cl) (n:Int) (d:Dt) (hl:c.parts.length<1000000000):PF Tryz.prog 185 [.agg c.cells,(vi (n)), .agg d.cells] (.agg (oL c n d).cells):=awK (aF0 c n d hl)
theorem afE (c e:Cl):PF Tryz.prog 122 [.seq [c.cells,e.cells]] (vi (if bU c≠0 then bU c else bU e)):=by
 have hc:=mL c;have f:=mL e;generalize bU c=R at*;generalize bU e=Q at*;refine pF Tryz.func122 rfl (λst=> ?_)
 (repeat' first|apply wZ;rfl|show Cn _;constructor)
 refine aC (X:={x:Nat//x<=2/\(0<x->R=0)/\(x=2->Q=0)}) (λi=>((((St.nil 18 st).pv 6 (.seq [c.cells,e.cells])).pv 7 ((vi ((([c.cells,e.cells]).length:Nat))))).pv 8 ((vi ((i.1:Nat)))))) (λi=>2-i.1) ⟨0,by omega,by omega,by omega⟩ ?_ (λi=> ?_)
 ·(repeat' first|show Cn _;constructor|exact rfl)
 obtain ⟨i,k,a,b⟩:=i;dsimp only;rcases (show i=0\/i=1\/i=2 by omega) with rfl|rfl|rfl
 ·by_cases d:R=0
  ·(repeat' first|(refine ⟨⟨1,by omega,λ_=>d,by omega⟩, ?_, ?_⟩)|apply wZ;rfl|show Cn _;constructor|exact rfl|apply dM pk;(iterate 6 rfl);rotate_left;rfl;(intro hw;rfl);(intro hw;apply (rfl:([c.cells,e.cells]:List (List PV))[0]?=some c.cells)<;>omega);(intro _;rfl);rfl|(apply hc)|apply wY;rfl|omega|simp only [zql];omega|intro h)
  ·(repeat' first|apply wZ;rfl|show Cn _;constructor|exact rfl|apply dM pk;(iterate 6 rfl);rotate_left;rfl;(intro hw;rfl);(intro hw;apply (rfl:([c.cells,e.cells]:List (List PV))[0]?=some c.cells)<;>omega);(intro _;rfl);rfl|(apply hc)|show (_:PV)=_;(rw [zp d]);done|apply wY;rfl|omega|intro h)
 ·have h0:=a (by omega)
  by_cases j:Q=0
  ·(repeat' first|(refine ⟨⟨2,by omega,λ_=>h0,λ_=>j⟩, ?_, ?_⟩)|apply wZ;rfl|show Cn _;constructor|exact rfl|apply dM pk;(iterate 6 rfl);rotate_left;rfl;(intro hw;rfl);(intro hw;apply (rfl:([c.cells,e.cells]:List (List PV))[1]?=some e.cells)<;>omega);(intro _;rfl);rfl|(apply f)|apply wY;rfl|omega|simp only [zql];omega|intro h)
  ·(repeat' first|apply wZ;rfl|show Cn _;constructor|exact rfl|apply dM pk;(iterate 6 rfl);rotate_left;rfl;(intro hw;rfl);(intro hw;apply (rfl:([c.cells,e.cells]:List (List PV))[1]?=some e.cells)<;>omega);(intro _;rfl);rfl|(apply f)|show (_:PV)=_;(rw [zn (by omega)]);done|apply wY;rfl|omega|intro h)
 ·have h0:=a (by omega)
  have g:=b rfl
  (repeat' first|apply wZ;rfl|show Cn _;constructor|exact rfl|show (_:PV)=_;(rw [zn (by omega),g]);done)
def aaQ (r:Cl×Int):PV:= .tup [.agg r.1.cells,(vi (r.2))]
theorem aI4 (e:Int):Wk (.tup [.agg [(vi (0)),(vi (0)),(vi (0)), .val (.string e0), .val (.slice none 0 0)],(vi (e))]) (aaQ (Cl.zero,e)):=Wk.tup (.cons wkz (.cons (zwr _) .nil))
theorem aAR (c:Cl):PF Tryz.prog 247 [.agg c.cells] (aaQ (if bU c≠0 then (Cl.zero,bU c) else (c,0))):=by
 have hc:=vS c;generalize bU c=R at*;by_cases a:R≠0
 ·rw [zp a]
  refine pF Tryz.func247 rfl (λst=> ?_)
  (repeat' first|exact Cn.any ⟨_,_,_,rfl,aI4 _,zsr _,rfl,rfl⟩|apply wZ;rfl|show Cn _;constructor|(apply hc)|apply wY;rfl|omega|intro h)
 ·rw [zn a]
  refine pF Tryz.func247 rfl (λst=> ?_)
  (repeat' first|apply wZ;rfl|show Cn _;constructor|exact rfl|(apply hc)|apply wY;rfl|omega|intro h)
theorem aAh {c:Cl} (h:bU c=0): -1099511627776<=c.val.n/\c.val.n<=1099511627776:=by
 unfold bU at h;split at h
 ·cases h
 ·split at h
  ·cases h
  ·split at h
   ·cases h
   ·omega
theorem agJ (c:Cl) (n:Int) (hn:inL n):PF Tryz.prog 183 [.agg c.cells,(vi (n))] (aaQ (vC c n)):=by
 have b:=xF [n] (by simp) (by simpa using hn);rw [show ([n]:List Int).sum=n from by simp] at b;have a:=afE c (pV n);unfold vC;by_cases hc:bU c≠0
 ·rw [zp hc] at a⊢
  generalize bU c=R at*;refine pF Tryz.func183 rfl (λst=> ?_)
  (repeat' first|exact Cn.any ⟨_,_,_,rfl,aI4 _,zsr _,rfl,rfl⟩|apply wZ;rfl|show Cn _;constructor|apply KR.mk;kernel_rfl|((first|apply b|apply a))|apply wY;rfl|omega|intro h)
 rw [zn hc] at a⊢;have hc:=zdn hc;by_cases hd:bU (pV n)≠0
 ·rw [zp hd]
  generalize bU (pV n)=R at*;refine pF Tryz.func183 rfl (λst=> ?_)
  (repeat' first|exact Cn.any ⟨_,_,_,rfl,aI4 _,zsr _,rfl,rfl⟩|apply wZ;rfl|show Cn _;constructor|apply KR.mk;kernel_rfl|((first|apply b|apply a))|apply wY;rfl|omega|intro h)
 rw [zn hd];have hd:=zdn hd;rw [hd] at a;have f:=aAh hc;have d:=xF [c.val.n,n] (by simp) (λx hx=>by
  rcases zmc.1 hx with rfl|hx
  ·unfold inL;omega
  ·rw [zms.1 hx];exact hn)
 rw [show ([c.val.n,n]:List Int).sum=c.val.n+n from by simp] at d;have h4:=aAR (pV (c.val.n+n));generalize pV (c.val.n+n)=D at*;by_cases e:bU D≠0
 ·rw [zp e] at h4⊢
  generalize bU D=R at*;refine pF Tryz.func183 rfl (λst=> ?_)
  (repeat' first|apply wZ;rfl|show Cn _;constructor|exact rfl|apply KR.mk;kernel_rfl|((first|apply b|apply a|apply d|apply h4))|apply wY;rfl)
 ·rw [zn e] at h4⊢
  refine pF Tryz.func183 rfl (λst=> ?_)
  (repeat' first|apply wZ;rfl|show Cn _;constructor|exact rfl|apply KR.mk;kernel_rfl|((first|apply b|apply a|apply d|apply h4))|apply wY;rfl)
theorem aA1 :PF Tryz.prog 238 [] (.agg (pV 0).cells):=by
 have h:=xF [] (by simp) (by simp);refine pF Tryz.func238 rfl (λst=> ?_)
 (repeat' first|apply wZ;rfl|show Cn _;constructor|exact rfl|(apply axC (qs:=[.seq []]) (p:= .agg (pV 0).cells);rfl;rfl;rfl;exact (WkL.cons Wk.nil .nil);(intro _;exact h);(focus repeat' constructor);rfl);rfl)
theorem wkN (k:Int):Wk (.agg [(vi (k)),(vi (0)),(vi (0)), .val (.string e0), .val (.slice none 0 0)]) (.agg (Cl.mk k Vl.zero []).cells):= .agg (.cons (zwr _) (.cons (zwr _) (.cons (zwr _) (.cons (zwr _) (.cons Wk.nil .nil)))))
theorem aAZ :PF Tryz.prog 239 [] (.agg (Cl.mk 4 Vl.zero []).cells):=by
 refine pF Tryz.func239 rfl (λst=> ?_)
 (repeat' first|exact Cn.any ⟨_,_,_,rfl,wkN 4,zsr _,rfl,rfl⟩|apply wZ;rfl|show Cn _;constructor)
theorem jD (w:Wr):PF Tryz.prog 117 [.agg w.cells] (.agg w.dot.cells):=by
 refine pF Tryz.func117 rfl (λst=> ?_)
 (repeat' first|apply wZ;rfl|show Cn _;constructor|exact rfl)
theorem wkV (v:Vl) (e:Int):Wk (.tup [.agg [(vi (0)),(vi (v.kind)),(vi (v.n)),(vs (v.s)), .val (.slice none 0 0)],(vi (e))]) (aaQ (⟨0,v,[]⟩,e)):=Wk.tup (.cons (.agg (.cons (zwr _) (.cons (zwr _) (.cons (zwr _) (.cons (zwr _) (.cons Wk.nil .nil)))))) (.cons (zwr _) .nil))
theorem aKV (k e:Int):Wk (.tup [.agg [(vi (k)),(vi (0)),(vi (0)), .val (.string e0), .val (.slice none 0 0)],(vi (e))]) (aaQ (⟨k,Vl.zero,[]⟩,e)):=Wk.tup (.cons (wkN k) (.cons (zwr _) .nil))
theorem auI (w:Wr) (kind:Int) (v:Vl) (hv:inL v.n) (hs:v.s.size<1000000) (hk:w.knew.length<1000000000000):PF Tryz.prog 175 [.agg w.cells,(vi (kind)), .agg v.cells] (aaQ (lF w kind v)):=by
 have hd:=jD w;unfold lF;by_cases a:kind=0
 ·rw [zp a]
  refine pF Tryz.func175 rfl (λst=> ?_)
  (repeat' first|exact Cn.any ⟨_,_,_,rfl,wkV v 0,zsr _,rfl,rfl⟩|apply wZ;rfl|show Cn _;constructor|apply KR.mk;kernel_rfl|omega|intro h)
 rw [zn a];by_cases k2:kind=2
 ·rw [zp k2]
  have ha:=agJ (pV 0) v.n hv;generalize vC (pV 0) v.n=R at*;refine pF Tryz.func175 rfl (λst=> ?_)
  (repeat' first|apply wZ;rfl|show Cn _;constructor|exact rfl|apply KR.mk;kernel_rfl|((first|apply aA1|apply ha))|apply wY;rfl|omega|intro h)
 rw [zn k2];by_cases d:kind=4
 ·rw [zp d]
  have ht:=T.type_spec ⟨4,Vl.zero,[]⟩ v.s w.who Dt.zero 0 (by simp) hs;rw [show (⟨Dt.zero,0⟩:T.Nm)=T.Nm.zero from rfl] at ht;generalize T.typeP ⟨4,Vl.zero,[]⟩ v.s w.who T.Nm.zero=R at*;refine pF Tryz.func175 rfl (λst=> ?_)
  (repeat' first|apply wZ;rfl|show Cn _;constructor|exact rfl|apply KR.mk;kernel_rfl|((first|apply aAZ|apply ht))|apply wY;rfl|omega|intro h)
 rw [zn d];by_cases v0:v.kind=0
 ·rw [zp v0]
  refine pF Tryz.func175 rfl (λst=> ?_)
  (repeat' first|exact Cn.any ⟨_,_,_,rfl,aKV kind 0,zsr _,rfl,rfl⟩|apply wZ;rfl|show Cn _;constructor|apply KR.mk;kernel_rfl|omega|intro h)
 rw [zn v0];by_cases b:kind=3
 ·rw [zp b]
  have hp:=adG ⟨kind,Vl.zero,[]⟩ v.n w.dot (by simp);generalize oL ⟨kind,Vl.zero,[]⟩ v.n w.dot=R at*;refine pF Tryz.func175 rfl (λst=> ?_)
  (repeat' first|apply wZ;rfl|show Cn _;constructor|exact rfl|apply KR.mk;kernel_rfl|(apply hd)|(apply axC (qs:=[.agg (Cl.mk kind Vl.zero []).cells,(vi (v.n)), .agg w.dot.cells]) (p:= .agg R.cells);rfl;rfl;rfl;exact (WkL.cons (wkN kind) (.cons (zwr _) (.cons (zwr _) .nil)));(intro _;exact hp);(focus repeat' constructor);rfl);rfl|apply wY;rfl|omega|intro h)
 ·rw [zn b]
  have hp:=aaC ⟨kind,Vl.zero,[]⟩ v w.dot w.knew (by simp) hk;generalize iQ ⟨kind,Vl.zero,[]⟩ v w.dot w.knew=R at*;refine pF Tryz.func175 rfl (λst=> ?_)
  (repeat' first|apply wZ;rfl|show Cn _;constructor|exact rfl|apply KR.mk;kernel_rfl|(apply hd)|(apply axC (qs:=[.agg (Cl.mk kind Vl.zero []).cells, .agg v.cells, .agg w.dot.cells, .seq (w.knew.map I1)]) (p:= .agg R.cells);rfl;rfl;rfl;exact (WkL.cons (wkN kind) (.cons (zwr _) (.cons (zwr _) (.cons (zwr _) .nil))));(intro _;exact hp);(focus repeat' constructor);rfl);rfl|apply wY;rfl|omega|intro h)
def qK :Option (Nat×List Pt)->PV
 |none=> .val (.slice none 0 0)
 |some y=> .vec y.1 11 0 y.2.length
def nN :Option (Nat×List Pt)->List Pt
 |none=>[]
 |some y=>y.2
structure AccP (L:Nat->Prop) (S:aD) (id3:Nat) (a:Option (Nat×List Pt)):Prop where
 box:S id3=some (.cells 108 [qK a])
 arr:∀y,a=some y->S y.1=some (.arr 149 (y.2.map Pt.cells))/\¬L y.1
 out:¬L id3
theorem AccP.grow {L:Nat->Prop} {S S1:aD} {id3:Nat} {a:Option (Nat×List Pt)} (h:AccP L S id3 a) {b:Nat} {d:List Pt} (hi:S b=none) (hL:∀j,L j->S j≠none)
  (i:S1=upd (upd S b (some (.arr 149 (d.map Pt.cells)))) id3 (some (.cells 108 [qK (some (b,d))]))\/∃y,a=some y/\S1=upd (upd (upd S y.1 none) b (some (.arr 149 (d.map Pt.cells)))) id3 (some (.cells 108 [qK (some (b,d))]))):
  AccP L S1 id3 (some (b,d))/\∀j,L j->S1 j=S j:=by
 have g:b≠id3:=λe=>by rw [e,h.box] at hi;cases hi
 have f:¬L b:=λq=>hL b q hi
 rcases i with rfl|⟨y,ha,rfl⟩
 ·refine ⟨⟨aA _ _ _,λy e=> ?_,h.out⟩,λj hj=> ?_⟩
  ·injection e with e;subst e
   exact ⟨by rw [aB g,aA],f⟩
  ·rw [aB (λe=>h.out (by rw [<-e];exact hj)),aB (λe=>f (by rw [<-e];exact hj))]
 ·refine ⟨⟨aA _ _ _,λy e=> ?_,h.out⟩,λj hj=> ?_⟩
  ·injection e with e;subst e
   exact ⟨by rw [aB g,aA],f⟩
  ·rw [aB (λe=>h.out (by rw [<-e];exact hj)),aB (λe=>f (by rw [<-e];exact hj)),aB (λe=>(h.arr y ha).2 (by rw [<-e];exact hj))]
theorem AccP.move {L b:Nat->Prop} {S S1:aD} {id3:Nat} {a:Option (Nat×List Pt)} (h:AccP L S id3 a) (d:S1 id3=S id3) (ha:∀y,a=some y->S1 y.1=S y.1/\¬b y.1) (hL:¬b id3):AccP b S1 id3 a:=
 ⟨d.trans h.box,λy e=>⟨(ha y e).1.trans (h.arr y e).1,(ha y e).2⟩,hL⟩
theorem AccP.round {L:Nat->Prop} {S S1:aD} {id3 idl:Nat} {a:Option (Nat×List Pt)} (h:AccP L S id3 a) (hl:L idl) (hL:∀j,L j->S j≠none) (b d:AObj) {f:Nat} {i:List Pt} (hi:upd S idl (some b) f=none)
  (p:S1=upd (upd (upd S idl (some b)) f (some (.arr 149 (i.map Pt.cells)))) id3 (some (.cells 108 [qK (some (f,i))]))\/∃y,a=some y/\S1=upd (upd (upd (upd S idl (some b)) y.1 none) f (some (.arr 149 (i.map Pt.cells)))) id3 (some (.cells 108 [qK (some (f,i))]))):
  AccP L (upd S1 idl (some d)) id3 (some (f,i))/\S1 idl=some b/\∀j,L j->j≠idl->upd S1 idl (some d) j=S j:=by
 have n:id3≠idl:=λe=>h.out (by rw [e];exact hl)
 have hb:AccP L (upd S idl (some b)) id3 a:=h.move (aB n) (λy e=>⟨aB λq=>(h.arr y e).2 (by rw [q];exact hl),(h.arr y e).2⟩) h.out
 have l:∀j,L j->upd S idl (some b) j≠none:=λj hj=>by
  by_cases e:j=idl
  ·rw [e,aA];simp
  ·rw [aB e];exact hL j hj
 obtain ⟨k,m⟩:=hb.grow hi l p
 refine ⟨k.move (aB n) (λy e=>⟨aB λq=>(k.arr y e).2 (by rw [q];exact hl),(k.arr y e).2⟩) k.out,by rw [m idl hl,aA],λj hj g=> ?_⟩
 rw [aB g,m j hj,aB g]
theorem aDa {idl:Nat} (l:List Pt) (b:FuncId) (caps:List PV) (f:Pt->Bool) (hl:l.length<1000000000) (hf:∀p,PF Tryz.prog b ([.agg p.cells]++caps) (vb (f p))) {st:aD} (J:Nat->aD->Prop) (h0:J 0 st)
  (m:∀i S (h:i<l.length),J i S->f l[i]=false->J (i+1) S)
  (n:∀i S (h:i<l.length),J i S->f l[i]=true->PY Tryz.prog idl [.agg l[i].cells] S λr j=>r= .val (.bool true)/\J (i+1) j):
  PC Tryz.prog 298 [.yld idl, .rp [.seq (l.map Pt.cells)], .rp [.fn b caps]] st λ_ S=>J l.length S:=by
 refine pC Tryz.func298 rfl ?_
 focus ((repeat' first|apply wZ;rfl|show Cn _;constructor))
 refine aC (X:={x:Nat×aD//x.1<=l.length/\J x.1 x.2}) (λi=>((((((St.nil 22 (i.1.2)).pv 0 (.yld idl)).pv 2 (.rp [.fn b caps])).pv 6 (.seq (l.map Pt.cells))).pv 7 ((vi (((l.map Pt.cells).length:Nat))))).pv 8 ((vi ((i.1.1:Nat)))))) (λi=>l.length-i.1.1) ⟨(0,st),by simp,h0⟩ ?_ (λi=> ?_)
 ·(repeat' first|show Cn (.t _ _);exact Cn.t0|show Cn _;constructor|exact rfl)
 obtain ⟨⟨i,S⟩,hi,d⟩:=i
 simp only at hi d
 dsimp only
 by_cases k:l.length<=i
 ·have e:i=l.length:=by omega
  rw [e] at d
  (repeat' first|show Cn (.r _ _ _);refine .rr ?_;(exact d);done|apply wZ;rfl|show Cn _;constructor|simp only [zql];omega|(intro h;simp at h))
 have g:i<l.length:=by omega
 have a:=hf l[i]
 cases hb:f l[i] with
 |false=>
  have hn:=m i S g d hb;rw [hb] at a
  (repeat' first|(apply Cn.cf;focus ((apply a);done))|(refine ⟨⟨(i+1,S),by simp only;omega,hn⟩, ?_, ?_⟩)|apply wZ;rfl|show Cn _;constructor|exact rfl|apply aJ9 (vb (false));rfl;rfl;rfl|apply wY;rfl|apply wI;rfl|apply gE;omega|omega|simp only [zql];omega|(intro h;simp at h))
 |true=>
  have hy:=n i S g d hb;rw [hb] at a
  (repeat' first|(apply Cn.cf;focus ((apply a);done))|(refine ⟨⟨(i+1,j),by simp only;omega,hJ'⟩, ?_, ?_⟩)|apply wZ;rfl|show Cn _;constructor|exact rfl|(apply aIj;rfl;rfl;rfl;exact hy;rfl;rfl;rfl;rintro _ j ⟨rfl,hJ'⟩)|apply wY;rfl|apply wI;rfl|apply gE;omega|omega|simp only [zql];omega|(intro h;simp at h))
theorem aAs (l:List Pt) (a:FuncId) (caps:List PV):PF Tryz.prog 249 [.seq (l.map Pt.cells), .fn a caps] (.fn 298 [.rp [.seq (l.map Pt.cells)], .rp [.fn a caps]]):=by
 refine pF Tryz.func249 rfl (λst=> ?_)
 (repeat' first|apply wZ;rfl|show Cn _;constructor|exact rfl|apply bC 2;rfl;rfl|apply bC 3;rfl;rfl)
theorem arG (n:Int) (d:Dt) (kn:List Int) (hk:kn.length<1000000000000) (p:Pt):PF Tryz.prog 250 ([.agg p.cells]++[.rp [(vi (n))], .rp d.cells, .rp [.seq (kn.map I1)]]) (vb (tJ n d kn p)):=by
 have h:=ahY kn p.dot hk;have e:tJ n d kn p=(!decide (p.val.n=n)||(!(decide (p.dot.dev=d.dev)&&decide (p.dot.seq=d.seq))&& !aqN kn p.dot)):=by unfold tJ;rw [aKc];simp
 rw [e];generalize aqN kn p.dot=H at*;refine pF Tryz.func250 rfl (λst=> ?_)
 (repeat' first|apply wZ;rfl|show Cn _;constructor|exact rfl|(apply h)|apply wY;rfl)
structure TkJ (st0:aD) (lp:AObj) (idl id2:Nat) (m:List Pt) (S:aD):Prop where
 loop:S idl=some lp
 acc:∃b,AccP (λj=>st0 j≠none\/j=idl) S id2 b/\nN b=m
 old:∀j,st0 j≠none->S j=st0 j
theorem TkJ.live {st0 S:aD} {lp:AObj} {idl id2:Nat} {m:List Pt} (h:TkJ st0 lp idl id2 m S):∀j,st0 j≠none\/j=idl->S j≠none:=λj hj=>by
 rcases hj with hj|rfl
 ·rw [h.old j hj];exact hj
 ·rw [h.loop];simp
theorem awG {l:List Pt} {f:Pt->Bool} {i:Nat} (h:i<l.length):(l.take (i+1)).filter f=(l.take i).filter f++if f l[i]=true then [l[i]] else []:=by
 rw [List.take_succ_eq_append_getElem h,List.filter_append];by_cases hf:f l[i]=true
 ·rw [zp hf];simp [hf]
 ·rw [zn hf];simp [hf]
theorem aFT (c:Cl) (n:Int) (d:Dt) (kn:List Int) (hl:c.parts.length<100000) (hk:kn.length<1000000000000) (st:aD):PC Tryz.prog 187 [.agg c.cells,(vi (n)), .agg d.cells, .seq (kn.map I1)] st λr S=>∃b,r= .agg [(vi (c.kind)),(vi (c.val.kind)),(vi (c.val.n)),(vs (c.val.s)),qK b]/\nN b=c.parts.filter (tJ n d kn)/\(∀y,b=some y->S y.1=some (.arr 149 (y.2.map Pt.cells))/\st y.1=none)/\∀j,st j≠none->S j=st j:=by
 have N:=aAs c.parts 250 [.rp [(vi (n))], .rp d.cells, .rp [.seq (kn.map I1)]];have M:=arG n d kn hk;refine pC Tryz.func187 rfl ?_
 focus ((repeat' first|apply wZ;rfl|show Cn _;constructor|(apply N)|apply bC 5;rfl;rfl|apply bC 6;rfl;rfl|apply bC 7;rfl;rfl|apply wY;rfl))
 refine aBu 9 rfl rfl λid2 B=> ?_;have B:st id2=none:=B;refine atZ [(9, .ref id2 0)] rfl rfl ⟨rfl,trivial⟩ (λidl S=>∃b,nN b=c.parts.filter (tJ n d kn)/\AccP (λj=>st j≠none) (upd S idl none) id2 b/\∀j,st j≠none->upd S idl none j=st j) ?_ ?_
 ·intro idl h
  have h:upd st id2 (some (.cells 108 [.val (.slice none 0 0)])) idl=none:=h;have A:idl≠id2:=λe=>by rw [e,aA] at h;cases h
  have E:st idl=none:=by rwa [aB A] at h
  generalize D:AObj.loop _ _ _ _ _ _=lp;have:=aDa (idl:=idl) c.parts 250 [.rp [(vi (n))], .rp d.cells, .rp [.seq (kn.map I1)]] (tJ n d kn) (by omega) M (st:=upd (upd st id2 (some (.cells 108 [.val (.slice none 0 0)]))) idl (some lp)) (λi S=>TkJ st lp idl id2 ((c.parts.take i).filter (tJ n d kn)) S) ?_ (λi S hi p hf=> ?_) (λi S hi p hf=> ?_)
  ·refine ⟨this.1,λw g vs I B=>(this.2 w g vs I B).mono ?_⟩
   rintro e w' ⟨v,q,S,g',h3,p,h4⟩;rw [ztl (Nat.le_refl _)] at p;obtain ⟨b,hb,u⟩:=p.acc;refine ⟨v,q,S,g',h3,⟨p.loop,b,u,hb.move (aB λe=>hb.out (.inr e)) (λy e=>⟨aB λq=>(hb.arr y e).2 (.inr q),λq=>(hb.arr y e).2 (.inl q)⟩) (λq=>hb.out (.inl q)),λj hj=> ?_⟩,h4⟩;rw [aB (λe=>hj (by rw [e];exact E))];exact p.old j hj
  ·refine ⟨aA _ _ _,⟨none,⟨by rw [aB (Ne.symm A),aA];rfl,λ_ e=>(by cases e), ?_⟩,by simp [nN]⟩,λj hj=> ?_⟩
   ·rintro (q|q)
    ·exact q B
    ·exact A q.symm
   ·rw [aB (λe=>hj (by rw [e];exact E)),aB (λe=>hj (by rw [e];exact B))]
  ·rw [awG hi,zn (by rw [hf];simp),List.append_nil];exact p
  ·rw [awG hi,zp hf]
   have m:=p.loop;obtain ⟨b,hb,u⟩:=p.acc;have K:(nN b).length<=100000:=by
    rw [u];have:=List.length_filter_le (tJ n d kn) (c.parts.take i);rw [zlt] at this;omega
   have hL:=p.live;have ho:=p.old;rw [<-u];generalize c.parts[i]=x at*;have C:∀(a:AObj) (F:Nat) (S1:aD),upd S idl (some a) F=none->(S1=upd (upd (upd S idl (some a)) F (some (.arr 149 ((nN b++[x]).map Pt.cells)))) id2 (some (.cells 108 [qK (some (F,nN b++[x]))]))\/∃y,b=some y/\S1=upd (upd (upd (upd S idl (some a)) y.1 none) F (some (.arr 149 ((nN b++[x]).map Pt.cells)))) id2 (some (.cells 108 [qK (some (F,nN b++[x]))])))->S1 idl=some a/\TkJ st lp idl id2 (nN b++[x]) (upd S1 idl (some lp)):=λa F S1 L J=>by
    obtain ⟨G,H,V⟩:=hb.round (.inr rfl) hL a lp L J
    exact ⟨H,aA _ _ _,⟨_,G,rfl⟩,λj hj=>by rw [V j (.inl hj) (λe=>hj (by rw [e];exact E))];exact ho j hj⟩
   have T:id2≠idl:=Ne.symm A;have l:∀o,upd S idl o id2=some (.cells 108 [qK b]):=λo=>(aB T).trans hb.box;rw [<-D] at m;refine aKv (R:=λU=>TkJ st lp idl id2 (nN b++[x]) U) m (show 15<23 by decide) ?_;show PWp _ _ _ (((St.nilR idl 23 S).pv 9 (.ref id2 0)).pv 15 (.agg x.cells))
   (repeat' first|apply wZ;rfl|show Cn _;constructor)
   refine ⟨rfl,m, ?_⟩;cases b with
   |none=>
    (repeat' first|apply wZ;rfl|show Cn _;constructor|(apply ap0 pk (f:=Pt.cells) [x] 96;(iterate 10 rfl);exact λ_=>rfl;exact λ_=>rfl;exact wP;((focus (simp;done)));((focus (simp;done)));rfl;intro t k)|apply ldR pk;rfl;rfl;rotate_left;rfl;exact l _;rfl;rfl|apply stR pk;rfl;rfl;exact (aB (λe=>Option.some_ne_none _ ((l _).symm.trans ((congrArg (upd S idl _) e).trans k)))).trans (l _);rfl;rfl)
    obtain ⟨G,H⟩:=C _ t _ k (.inl rfl);subst D;exact ⟨rfl,_,zsr _,G,H⟩
   |some z=>
    have X:z.1≠idl:=λe=>(hb.arr z rfl).2 (.inr e);have P:∀o,upd S idl o z.1=some (.arr 149 (z.2.map Pt.cells)):=λo=>(aB X).trans (hb.arr z rfl).1;have Q:id2≠z.1:=λe=>by have I:=hb.box;have B:=(hb.arr z rfl).1;rw [e,B] at I;cases I
    have W:z.2.length<=100000:=K
    (repeat' first|apply wZ;rfl|show Cn _;constructor|apply ldR pk;rfl;rfl;rotate_left;rfl;exact l _;rfl;rfl|(apply apV pk (f:=Pt.cells) (xs:=z.2) [x] 96;(iterate 9 rfl);exact P _;rfl;exact λ_=>rfl;exact λ_=>rfl;exact wP;(simp only [zlc,List.length_nil];omega);(simp only [zlc,List.length_nil];omega);rfl;intro t k)|apply stR pk;rfl;rfl;exact (aB (λe=>Option.some_ne_none _ ((l _).symm.trans ((congrArg (upd S idl _) e).trans k)))).trans ((aB Q).trans (l _));rfl;rfl)
    have hg:=C _ t _ k (.inr ⟨z,rfl,rfl⟩);rw [show qK (some (t,nN (some z)++[x]))= .vec t 11 0 (z.2.length+[x].length) from by simp [qK,nN]] at hg;obtain ⟨G,H⟩:=hg;subst D;exact ⟨rfl,_,zsr _,G,H⟩
 ·rintro idl S h ⟨b,hp,hb,ho⟩
  have l:=hb.box;cases b with
  |none=>
   (repeat' first|show Cn (.r _ _ _);refine .rr ?_;(exact ⟨none,rfl,hp,λ_ e=>(by cases e),ho⟩);done|apply wZ;rfl|show Cn _;constructor|apply ldR pk;rfl;rfl;rotate_left;rfl;(assumption);rfl;rfl)
  |some z=>
   have hz:=hb.arr z rfl;have O:st z.1=none:=Decidable.byContradiction λq=>hz.2 q
   (repeat' first|show Cn (.r _ _ _);refine .rr ?_;(exact ⟨some z,rfl,hp,λ_ e=>(by cases e;exact ⟨hz.1,O⟩),ho⟩);done|apply wZ;rfl|show Cn _;constructor|apply ldR pk;rfl;rfl;rotate_left;rfl;(assumption);rfl;rfl)
theorem auU (c:Cl) (n:Int) (d:Dt) (kn:List Int) (hl:c.parts.length<100000) (hk:kn.length<1000000000000):PF Tryz.prog 187 [.agg c.cells,(vi (n)), .agg d.cells, .seq (kn.map I1)] (.agg (tF c n d kn).cells):=λst=>
 gF (sz:=11) (aFT c n d kn hl hk st) λp st' h=>by
  obtain ⟨b,rfl,f,g,h4⟩:=h
  have a:StSub st st':=λj=>by
   by_cases q:st j=none
   ·exact .inl q
   ·exact .inr (h4 j q).symm
  cases b with
  |none=>
   have e:tF c n d kn=⟨c.kind,c.val,[]⟩:=by unfold tF;rw [<-f];rfl
   rw [e];exact .inr ⟨_,st,Wk.agg (.cons (zwr _) (.cons (zwr _) (.cons (zwr _) (.cons (zwr _) (.cons Wk.nil .nil))))),a,rfl,rfl⟩
  |some z=>
   obtain ⟨h5,i⟩:=g z rfl;have e:tF c n d kn=⟨c.kind,c.val,z.2⟩:=by unfold tF;rw [<-f];rfl
   rw [e];refine .inl ⟨z.1,149,z.2.map Pt.cells,_,st,h5,sK, .agg (.cons .refl (.cons .refl (.cons .refl (.cons .refl (.cons (fW (by simp)) .nil))))),λj=> ?_,rfl,rfl⟩;by_cases q:j=z.1
   ·subst q;exact .inl i
   ·rw [aB q];exact a j
end
section
attribute [local irreducible] Ev PWp
set_option maxRecDepth 10000
set_option maxHeartbeats 4000000
structure TnOK (w:Wr) (c:Cl) (o:Ot):Prop where
 n:inL o.val.n
 s:o.val.s.size<1000000
 kn:w.knew.length<1000000000000
 parts:c.parts.length<100000
def aaF (w:Wr) (c:Cl) (o:Ot):List PV:=[.rp c.cells, .rp o.cells, .rp w.cells]
def ahS (c:Cl) (o:Ot):List PV:=[.rp c.cells, .rp o.cells]
section
variable {w:Wr} {c:Cl} {o:Ot} (hT:TnOK w c o)
theorem aKI (v:Vl):Wk (.agg [(vi (0)),(vi (v.kind)),(vi (v.n)),(vs (v.s)), .val (.slice none 0 0)]) (.agg (Cl.mk 0 v []).cells):= .agg (.cons (zwr _) (.cons (zwr _) (.cons (zwr _) (.cons (zwr _) (.cons Wk.nil .nil)))))
include hT
theorem aF3 :PF Tryz.prog 180 (aaF w c o) (.agg (if c.kind=0 then ⟨0,o.val,[]⟩ else iQ c o.val w.dot w.knew).cells):=by
 have hd:=jD w;have hp:=aaC c o.val w.dot w.knew (by have:=hT.parts;omega) hT.kn;unfold aaF;by_cases k:c.kind=0
 ·rw [zp k]
  refine pF Tryz.func180 rfl (λst=> ?_)
  (repeat' first|exact Cn.any ⟨_,_,_,rfl,aKI o.val,zsr _,rfl,rfl⟩|apply wZ;rfl|show Cn _;constructor|omega|intro h)
 ·rw [zn k]
  generalize iQ c o.val w.dot w.knew=R at*;refine pF Tryz.func180 rfl (λst=> ?_)
  (repeat' first|apply wZ;rfl|show Cn _;constructor|exact rfl|apply KR.mk;kernel_rfl|((first|apply hd|apply hp))|apply wY;rfl|omega|intro h)
theorem aHq :PF Tryz.prog 182 (ahS c o) (aaQ (vC c o.val.n)):=by
 have h:=agJ c o.val.n hT.n;unfold ahS;generalize vC c o.val.n=R at*;refine pF Tryz.func182 rfl (λst=> ?_)
 (repeat' first|apply wZ;rfl|show Cn _;constructor|exact rfl|(apply h)|apply wY;rfl)
theorem aGF :PF Tryz.prog 184 (aaF w c o) (.agg (oL c o.val.n w.dot).cells):=by
 have hd:=jD w;have hp:=adG c o.val.n w.dot (by have:=hT.parts;omega);unfold aaF;generalize oL c o.val.n w.dot=R at*;refine pF Tryz.func184 rfl (λst=> ?_)
 (repeat' first|apply wZ;rfl|show Cn _;constructor|exact rfl|apply KR.mk;kernel_rfl|((first|apply hd|apply hp))|apply wY;rfl)
theorem aGz :PF Tryz.prog 186 (aaF w c o) (.agg (tF c o.val.n w.dot w.knew).cells):=by
 have hd:=jD w;have hp:=auU c o.val.n w.dot w.knew hT.parts hT.kn;unfold aaF;generalize tF c o.val.n w.dot w.knew=R at*;refine pF Tryz.func186 rfl (λst=> ?_)
 (repeat' first|apply wZ;rfl|show Cn _;constructor|exact rfl|apply KR.mk;kernel_rfl|((first|apply hd|apply hp))|apply wY;rfl)
theorem aG8 :PF Tryz.prog 188 (aaF w c o) (aaQ (T.typeP c o.val.s w.who ⟨o.after,o.at_⟩)):=by
 have h:=T.type_spec c o.val.s w.who o.after o.at_ (by have:=hT.parts;omega) hT.s;unfold aaF;generalize T.typeP c o.val.s w.who ⟨o.after,o.at_⟩=R at*;refine pF Tryz.func188 rfl (λst=> ?_)
 (repeat' first|apply wZ;rfl|show Cn _;constructor|exact rfl|(apply h)|apply wY;rfl)
theorem aGu :PF Tryz.prog 190 (ahS c o) (.agg (T.eraseP c ⟨o.after,o.at_⟩).cells):=by
 have h:=T.erase_spec c o.after o.at_ (by have:=hT.parts;omega);unfold ahS;generalize T.eraseP c ⟨o.after,o.at_⟩=R at*;refine pF Tryz.func190 rfl (λst=> ?_)
 (repeat' first|apply wZ;rfl|show Cn _;constructor|exact rfl|(apply h)|apply wY;rfl)
end
theorem aAv (f:FuncId) (caps:List PV):PF Tryz.prog 178 [.fn f caps] (.fn 179 [.rp [.fn f caps]]):=by
 refine pF Tryz.func178 rfl (λst=> ?_)
 (repeat' first|apply wZ;rfl|show Cn _;constructor|exact rfl|apply bC 1;rfl;rfl)
theorem oS {f:FuncId} {caps:List PV} {d:Cl} (h:PF Tryz.prog f caps (.agg d.cells)):PF Tryz.prog 179 [.rp [.fn f caps]] (aaQ (d,0)):=by
 have a:PF Tryz.prog f ([]++caps) (.agg d.cells):=h;refine pF Tryz.func179 rfl (λst=> ?_)
 (repeat' first|(apply Cn.cf;focus ((apply a);done))|apply wZ;rfl|show Cn _;constructor|exact rfl|apply wY;rfl)
def awU (f:FuncId) (caps:List PV):PV:= .fn 179 [.rp [.fn f caps]]
def aJA (w:Wr) (c:Cl) (o:Ot):List (Value×PV):=[(.int .i64 2,awU 180 (aaF w c o)),(.int .i64 3, .fn 182 (ahS c o)),(.int .i64 4,awU 184 (aaF w c o)),(.int .i64 5,awU 186 (aaF w c o)),(.int .i64 6, .fn 188 (aaF w c o)),(.int .i64 7,awU 190 (ahS c o))]
theorem aAO {w:Wr} {c:Cl} {o:Ot} (hT:TnOK w c o) (a:2<=o.kind) (b:o.kind<=7):∃f caps,iB tt 247 (aJA w c o) (.int .i64 o.kind) false=some (.fn f caps)/\PF Tryz.prog f caps (aaQ (eT w c o)):=by
 have h:o.kind=2\/o.kind=3\/o.kind=4\/o.kind=5\/o.kind=6\/o.kind=7:=by omega
 unfold eT;rcases h with h|h|h|h|h|h
 ·rw [h]
  refine ⟨_,_,rfl, ?_⟩;have:=oS (aF3 hT);rw [zp rfl];by_cases k:c.kind=0
  ·rw [zp k] at this⊢;exact this
  ·rw [zn k] at this⊢;exact this
 ·rw [h];exact ⟨_,_,rfl,aHq hT⟩
 ·rw [h];exact ⟨_,_,rfl,oS (aGF hT)⟩
 ·rw [h];exact ⟨_,_,rfl,oS (aGz hT)⟩
 ·rw [h];exact ⟨_,_,rfl,aG8 hT⟩
 ·rw [h];exact ⟨_,_,rfl,oS (aGu hT)⟩
theorem asO {st S:aD} {id idm:Nat} {a b:AObj} (h:id≠idm) (hm:st idm=none) (e:b=a) (g:∀q,q≠idm->S q=st q):StSub (upd st id (some a)) (upd S id (some b)):=λq=>by
 subst e
 by_cases d:q=id
 ·subst d;right;rw [aA,aA]
 ·rw [aB d,aB d]
  by_cases f:q=idm
  ·subst f;exact .inl hm
  ·exact .inr (g q f).symm
theorem aF2 {w:Wr} {cs:List Cl} {j id:Nat} {o:Ot} (hj:j<cs.length) (hT:TnOK w cs[j] o) (n:2<=o.kind) (p:o.kind<=7) {st:aD} (m:st id=some (.arr 110 (cs.map Cl.cells))):PC Tryz.prog 119 [.agg w.cells, .el id 5 j 0, .agg o.cells] st λr S=>r=(vi ((eT w cs[j] o).2))/\S=upd st id (some (.arr 110 ((cs.set j (eT w cs[j] o).1).map Cl.cells))):=by
 obtain ⟨f,caps,d,s⟩:=aAO hT n p;generalize eT w cs[j] o=R at*;have g:cs[j]?=some cs[j]:=zgg hj;have t:=aAv;have k:PF Tryz.prog f ([]++caps) (aaQ R):=s;refine pC Tryz.func119 rfl ?_
 (repeat' first|apply rV aS;exact .inl rfl;(iterate 7 rfl);exact aA _ _ _;rfl;(iterate 2 (apply mW aS;(iterate 4 rfl)));refine uN ?_;apply jL 9;rfl;exact aA _ _ _|((refine Cn.any ⟨_,_,upd st id (some (.arr 110 ((cs.set j R.1).map Cl.cells))),rfl,zwr _, ?_,rfl,rfl⟩;exact asO l b (by simp) (λq h=>by repeat (first|rfl|refine (aB h).trans ?_))))|(apply Cn.cf;focus (((first|apply t|apply k));done))|apply wZ;rfl|show Cn _;constructor|apply ncA;rfl;rfl;rfl;rotate_left;rfl;rfl|apply ldL pk Cl.elem (a:=cs[j]);rfl;rfl;rotate_left;rfl;(assumption);(intro _;exact g);rfl|apply stA pk Cl.elem;rfl;rfl;rfl;((focus ((repeat (first|assumption|refine (aB ‹_›).trans ?_));done)));(omega);rfl|apply bC 3;rfl;rfl|apply bC 5;rfl;rfl|apply bC 8;rfl;rfl|((refine pE rfl (λidm i=> ?_));have b:st idm=none:=i;have l:id≠idm:=(λe=>by rw [<-e,m] at b;cases b))|apply rV aS;exact .inl rfl;(iterate 7 rfl);exact aA _ _ _;rfl|apply lT pk;(iterate 4 rfl);(focus repeat' constructor);rfl;exact d;rfl|apply wY;rfl)
end
end Go.Proofs.YtfablfldonhkiaaGreatDoor
