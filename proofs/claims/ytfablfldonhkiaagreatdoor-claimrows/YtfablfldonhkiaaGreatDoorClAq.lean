import Derived.Test.YtfablfldonhkiaaGreatDoorClAo
import Derived.Test.YtfablfldonhkiaaGreatDoorClAp
import Derived.Test.YtfablfldonhkiaaGreatDoorClAl
set_option linter.unusedSimpArgs false
set_option linter.unusedVariables false
namespace Go.Proofs.YtfablfldonhkiaaGreatDoor
open Go Go.Abs
section
attribute [local irreducible] Ev PWp
set_option maxRecDepth 10000
set_option maxHeartbeats 4000000
theorem asP {α:Type} {f:α->Bool}:∀{l:List α} {i:Nat} (h:i<l.length),f l[i]=true->(∀j (hj:j<l.length),j<i->f l[j]=false)->adD f l=i
 |[],_,h,_,_=>by simp at h
 |a::l,0,_,hf,_=>by rw [qT,zp (show f a=true from hf)]
 |a::l,i+1,h,hf,hn=>by
  rw [qT,zn (by rw [show f a=false from hn 0 (by simp) (by omega)];simp),asP (l:=l) (i:=i) (by simpa using h) hf λj hj hji=>hn (j+1) (by simp;omega) (by omega)]
theorem apC {α:Type} {f:α->Bool}:∀{l:List α},(∀j (hj:j<l.length),f l[j]=false)->adD f l=l.length
 |[],_=>rfl
 |a::l,hn=>by
  rw [qT,zn (by rw [show f a=false from hn 0 (by simp)];simp),apC (l:=l) λj hj=>hn (j+1) (by simp;omega)];rfl
def axY (st:aD) (c:Cl) (r:PV) (S:aD):Prop:=∃id,r= .agg [(vi (c.kind)),(vi (c.val.kind)),(vi (c.val.n)),(vs (c.val.s)), .vec id 11 0 c.parts.length]/\st id=none/\S=upd st id (some (.arr 149 (c.parts.map Pt.cells)))
theorem auG {f:FuncId} {args:List PV} {c:Cl} (h:∀st,PC Tryz.prog f args st (axY st c)):PF Tryz.prog f args (.agg c.cells):=λst=>
 fS (sz:=11) (h st) λp st' h=>by
  obtain ⟨id,rfl,h3,rfl⟩:=h
  exact .inl ⟨id,149,c.parts.map Pt.cells,_,st,aA _ _ _,rH, .agg (.cons .refl (.cons .refl (.cons .refl (.cons .refl (.cons (fL (by simp)) .nil))))),cF h3,rfl,rfl⟩
theorem aFN (l:List Pt) (fid:FuncId) (caps:List PV) (f:Pt->Bool) (hl:l.length<1000000000) (hf:∀p,PF Tryz.prog fid ([.agg p.cells]++caps) (vb (f p))) (st:aD):PC Tryz.prog 242 [.seq (l.map Pt.cells), .fn fid caps] st λr S=>∃id,r= .vec id 11 0 (l.filter f).length/\st id=none/\S=upd st id (some (.arr 149 ((l.filter f).map Pt.cells))):=by
 refine pC Tryz.func242 rfl ?_
 (repeat' first|apply wZ;rfl|show Cn _;constructor)
 refine fK 5 149 11 rfl rfl rfl (λid hid=> ?_)
 refine aC (X:={x:Nat×Nat//x.1<=l.length/\st x.2=none}) (λi=>((((((St.nil 23 (upd st i.1.2 (some (.arr 149 (((l.take i.1.1).filter f).map Pt.cells))))).pv 1 (.fn fid caps)).pv 5 (.vec i.1.2 11 0 ((l.take i.1.1).filter f).length)).pv 8 (.seq (l.map Pt.cells))).pv 9 ((vi ((((l.map Pt.cells)).length:Nat))))).pv 10 ((vi ((i.1.1:Nat)))))) (λi=>l.length-i.1.1) ⟨(0,id),by simp,hid⟩ ?_ (λi=> ?_)
 ·dsimp only
  (repeat' first|show Cn (.t _ _);exact Cn.t0|show Cn _;constructor|exact rfl)
 obtain ⟨⟨i,id⟩,hi,hid⟩:=i
 simp only at hi hid
 dsimp only
 by_cases hend:l.length<=i
 ·have e:l.take i=l:=ztl hend
  rw [e]
  (repeat' first|show Cn (.r _ _ _);refine .rr ?_;(exact ⟨id,rfl,hid,rfl⟩);done|apply wZ;rfl|show Cn _;constructor|simp only [zql];omega|(intro h;simp at h))
 have h1:i<l.length:=by omega
 have hfi:=hf l[i]
 have hle:((l.take i).filter f).length<=l.length:=Nat.le_trans (List.length_filter_le ..) (by simp;omega)
 cases hb:f l[i] with
 |false=>
  have e:(l.take (i+1)).filter f=(l.take i).filter f:=by rw [List.take_succ_eq_append_getElem h1,List.filter_append];simp [hb]
  rw [hb] at hfi
  (repeat' first|(apply Cn.cf;focus ((apply hfi);done))|refine ⟨⟨(i+1,id),by simp only;omega,hid⟩, ?_, ?_⟩;((dsimp only;rw [e]))|apply wZ;rfl|show Cn _;constructor|exact rfl|apply wY;rfl|apply wI;rfl|apply gE;omega|omega|simp only [zql];omega|(intro h;simp at h))
 |true=>
  have e:(l.take (i+1)).filter f=(l.take i).filter f++[l[i]]:=by rw [List.take_succ_eq_append_getElem h1,List.filter_append];simp [hb]
  rw [hb] at hfi
  generalize (l.take i).filter f=K at*
  (repeat' first|(apply Cn.cf;focus ((apply hfi);done))|refine ⟨⟨(i+1,id'),by simp only;omega,dK hid'⟩, ?_, ?_⟩;((dsimp only;rw [e]))|show Cn (.t _ _);exact .any (bP ‹_›)|apply wZ;rfl|show Cn _;constructor|exact rfl|show _=_;(simp)|(apply apV pk (f:=Pt.cells) [l[i]] 96;(iterate 9 rfl);(exact aA _ _ _);(omega);exact λ_=>rfl;exact λ_=>rfl;exact uS;((focus (simp;omega)));((focus (simp;omega)));rfl;intro id' hid')|apply wY;rfl|apply wI;rfl|apply gE;omega|omega|simp only [zql];omega|(intro h;simp at h))
theorem aIn (a b:Dt):(decide (a.dev=b.dev)&&decide (a.seq=b.seq))=decide (a=b):=by
 rw [Bool.eq_iff_iff];simp [Dt.ext_iff]
theorem arF (d:Dt) (kn:List Int) (hk:kn.length<1000000000000) (p:Pt):PF Tryz.prog 243 ([.agg p.cells]++[.rp d.cells, .rp [.seq (kn.map I1)]]) (vb (rS d kn p)):=by
 have h:=afR kn p.dot hk
 have e:rS d kn p=(!(decide (p.dot.dev=d.dev)&&decide (p.dot.seq=d.seq))&& !anJ kn p.dot):=by unfold rS;rw [aIn];simp
 rw [e]
 generalize anJ kn p.dot=H at*
 refine pF Tryz.func243 rfl (λst=> ?_)
 (repeat' first|apply wZ;rfl|show Cn _;constructor|exact rfl|(apply h)|apply wY;rfl)
theorem azZ (c:Cl) (v:Vl) (d:Dt) (kn:List Int) (hl:c.parts.length<1000000000) (hk:kn.length<1000000000000) (st:aD):PC Tryz.prog 181 [.agg c.cells, .agg v.cells, .agg d.cells, .seq (kn.map I1)] st (axY st (gW c v d kn)):=by
 have hkp:=aFN c.parts 243 [.rp d.cells, .rp [.seq (kn.map I1)]] (rS d kn) hl (arF d kn hk)
 have hKl:=List.length_filter_le (rS d kn) c.parts
 unfold axY gW
 dsimp only
 generalize c.parts.filter (rS d kn)=K at*
 refine pC Tryz.func181 rfl ?_
 focus ((repeat' first|(apply cP;rfl;(apply (hkp _));rintro _ st' (⟨id,rfl,hid,rfl⟩))|apply wZ;rfl|show Cn _;constructor|apply aY 6;rfl;rfl|apply aY 7;rfl;rfl|apply wY;rfl))
 have hid:st id=none:=hid
 refine aC (X:={x:Nat//x<=K.length/\∀j (h:j<K.length),j<x->bA K[j].dot d=false}) (λi=>((((((((((St.nil 42 (upd st id (some (.arr 149 (K.map Pt.cells))))).var 4 110 (c.cells)).var 5 63 (v.cells)).pv 6 (.rp d.cells)).var 8 110 ([(vi (0)),(vi (0)),(vi (0)),(vs (e0)), .val (.slice none 0 0)])).pv 9 (.vec id 11 0 K.length)).pv 10 ((vi ((K.length:Nat))))).pv 19 (.vec id 11 0 K.length)).pv 20 ((vi ((K.length:Nat))))).pv 21 ((vi ((i.1:Nat)))))) (λi=>K.length-i.1) ⟨0,by omega,by omega⟩ ?_ (λi=> ?_)
 ·(repeat' first|show Cn (.t _ _);exact Cn.t0|show Cn _;constructor|exact rfl)
 obtain ⟨i,hi,hI⟩:=i
 dsimp only
 have hins:=λ(k:Nat) (hk:k<=K.length) (st2:aD) (hst:st2 id=some (.arr 149 (K.map Pt.cells)))=>ajE K [ptN v d] k id K.length st2 hst rfl hk (by simp) (by simp;omega)
 by_cases hend:K.length<=i
 ·have e:=apC (f:=λp:Pt=>bA p.dot d) λj hj=>hI j hj (by omega)
  rw [e]
  (repeat' first|exact Cn.any ⟨_,_,upd st id2 (some (.arr 149 ((dH K K.length [ptN v d]).map Pt.cells))),rfl,zwr _,jV hid,id2,rfl,gQ hid hid2,rfl⟩|(apply cP;rfl;(apply (hins K.length (Nat.le_refl _) _ (aA _ _ _)));rintro _ st' (⟨id2,rfl,hid2,rfl⟩))|apply wZ;rfl|show Cn _;constructor|apply wY;rfl|omega|(intro h;simp at h))
 have hil:i<K.length:=by omega
 have hby:=afF K[i].dot d
 have hpos:=atO K[i].dot d
 cases hb:bA K[i].dot d with
 |true=>
  have e:=asP (f:=λp:Pt=>bA p.dot d) hil hb hI
  rw [e]
  rw [hb] at hpos
  have hpos:byD K[i].dot d>0:=by simpa using hpos
  generalize byD K[i].dot d=B at*
  (repeat' first|exact Cn.any ⟨_,_,upd st id2 (some (.arr 149 ((dH K i [ptN v d]).map Pt.cells))),rfl,zwr _,jV hid,id2,rfl,gQ hid hid2,rfl⟩|(apply Cn.cf;focus ((apply hby);done))|(apply cP;rfl;(apply (hins i hi _ (aA _ _ _)));rintro _ st' (⟨id2,rfl,hid2,rfl⟩))|apply wZ;rfl|show Cn _;constructor|apply ldL pk Pt.elem (a:=K[i]);rfl;rfl;rotate_left;rfl;(exact aA _ _ _);(intro _;exact (zgg hil));rfl|apply ixA pk;(iterate 5 rfl);rotate_left;rfl;(intro hw;(exact (show _=((i:Nat):Int) from by omega)));(intro hw;(omega));rfl;(exact Nat.zero_add _)|apply wY;rfl|omega|(intro h;simp at h))
 |false=>
  rw [hb] at hpos
  have hpos:¬byD K[i].dot d>0:=by simpa using hpos
  have hI2:∀j (h:j<K.length),j<i+1->bA K[j].dot d=false:=λj hj hji=>by
   rcases zls.1 hji with q|q
   ·exact hI j hj q
   ·subst q;exact hb
  generalize byD K[i].dot d=B at*
  (repeat' first|(apply Cn.cf;focus ((apply hby);done))|(refine ⟨⟨i+1,by omega,hI2⟩, ?_, ?_⟩)|show Cn (.t _ _);exact Cn.t0|apply wZ;rfl|show Cn _;constructor|exact rfl|apply ldL pk Pt.elem (a:=K[i]);rfl;rfl;rotate_left;rfl;(exact aA _ _ _);(intro _;exact (zgg hil));rfl|apply ixA pk;(iterate 5 rfl);rotate_left;rfl;(intro hw;(exact (show _=((i:Nat):Int) from by omega)));(intro hw;(omega));rfl;(exact Nat.zero_add _)|apply wY;rfl|omega|simp only [zql];omega|(intro h;simp at h))
theorem yN (c:Cl) (v:Vl) (d:Dt) (kn:List Int) (hl:c.parts.length<1000000000) (hk:kn.length<1000000000000):PF Tryz.prog 181 [.agg c.cells, .agg v.cells, .agg d.cells, .seq (kn.map I1)] (.agg (gW c v d kn).cells):=auG (azZ c v d kn hl hk)
def axR (n:Int) (d:Dt):List Value:=[.int .i64 n, .int .i64 d.dev, .int .i64 d.seq]
theorem aEv (n:Int) (d:Dt) (p:Pt):decide (ahI (ptN (nV n) d) p=0)=rR n d p:=by
 unfold ahI rR gZ ptN nV
 simp only [orI]
 rw [Bool.eq_iff_iff]
 simp only [zde,zba,Dt.ext_iff]
 grind
theorem aEV (c:Cl) (n:Int) (d:Dt) (hl:c.parts.length<1000000000) (st:aD):PC Tryz.prog 185 [.agg c.cells,(vi (n)), .agg d.cells] st (axY st (nL c n d)):=by
 have hcl:=wF c.parts
 have hah:=λp=>atW (ptN (nV n) d) p
 have hz:=aEv n d
 have hng:=λp=>aDU (ptN (nV n) d) p
 refine pC Tryz.func185 rfl ?_
 focus ((repeat' first|apply wZ;rfl|show Cn _;constructor|apply mkB (xs:=axR n d);iterate 4 rfl))
 refine aC (X:={x:Nat×Nat//x.1<=c.parts.length/\(∀j (h:j<c.parts.length),j<x.1->rR n d c.parts[j]=false)/\((x.2=c.parts.length/\∀j (h:j<c.parts.length),j<x.1->dY c.parts[j] (ptN (nV n) d)=false)\/(∃h:x.2<c.parts.length,dY c.parts[x.2] (ptN (nV n) d)=true/\∀j (h:j<c.parts.length),j<x.2->dY c.parts[j] (ptN (nV n) d)=false))}) (λi=>((((((((((St.nil 65 st).pv 1 ((vi (n)))).var 3 110 (c.cells)).var 5 80 (d.cells)).var 6 110 ([(vi (0)),(vi (0)),(vi (0)),(vs (e0)), .val (.slice none 0 0)])).pv 8 (.val (ajQ 229 (axR n d)))).pv 9 ((vi ((i.1.2:Nat))))).pv 22 (.seq (c.parts.map Pt.cells))).pv 23 ((vi (((c.parts.map Pt.cells).length:Nat))))).pv 24 ((vi ((i.1.1:Nat)))))) (λi=>c.parts.length-i.1.1) ⟨(0,c.parts.length),by simp,by simp, .inl ⟨rfl,by simp⟩⟩ ?_ (λi=> ?_)
 ·(repeat' first|show Cn _;constructor|exact rfl|simp)
 obtain ⟨⟨i,a⟩,hi,hs,ha⟩:=i
 simp only at hi hs ha
 dsimp only
 by_cases hend:c.parts.length<=i
 ·have hno:¬c.parts.any (rR n d)=true:=by
   rw [List.any_eq_true]
   rintro ⟨p,hp,q⟩
   obtain ⟨j,hj,rfl⟩:=zgo hp
   rw [hs j hj (by omega)] at q;cases q
  have hal:a<=c.parts.length/\adD (λp=>dY p (ptN (nV n) d)) c.parts=a:=by
   rcases ha with ⟨q1,q2⟩|⟨q1,q2,q3⟩
   ·subst q1;exact ⟨Nat.le_refl _,apC λj hj=>q2 j hj (by omega)⟩
   ·exact ⟨by omega,asP q1 q2 q3⟩
  unfold axY nL
  rw [zn hno,hal.2]
  have hal:=hal.1
  dsimp only
  have hins:=λ(id:Nat) (st2:aD) (hst:st2 id=some (.arr 149 (c.parts.map Pt.cells)))=>ajE c.parts [ptN (nV n) d] a id c.parts.length st2 hst rfl hal (by simp) (by simp;omega)
  (repeat' first|exact Cn.any ⟨_,_,upd st id2 (some (.arr 149 ((dH c.parts a [ptN (nV n) d]).map Pt.cells))),rfl,zwr _,jV hid,id2,rfl,gQ hid hid2,rfl⟩|apply wDO pk [0,1,3,4,5,6,7,8,2,9,10,11] [2,9] [] [8,9] [];rfl;rfl;kernel_rfl;rfl;rfl|(apply cP;rfl;(apply (hcl _ (by omega)));rintro _ st' (⟨id,rfl,hid,rfl⟩))|(apply cP;rfl;(apply (hins id _ (aA _ _ _)));rintro _ st' (⟨id2,rfl,hid2,rfl⟩))|apply wZ;rfl|show Cn _;constructor|apply wY;rfl|simp only [zql];omega|(intro h;simp at h))
 have hil:i<c.parts.length:=by omega
 have hah:=hah c.parts[i]
 have hz:=hz c.parts[i]
 have hng:=hng c.parts[i]
 have hof:=vA c.parts[i]
 by_cases hsm:rR n d c.parts[i]=true
 ·rw [hsm] at hz
  have hz:ahI (ptN (nV n) d) c.parts[i]=0:=by simpa using hz
  rw [hz] at hah
  have hyes:c.parts.any (rR n d)=true:=List.any_eq_true.2 ⟨_,zgm hil,hsm⟩
  unfold axY nL
  rw [zp hyes]
  (repeat' first|(apply Cn.cf;focus ((apply hof);done))|(apply cP;rfl;(apply (hcl _ (by omega)));rintro _ st' (⟨id,rfl,hid,rfl⟩))|show Cn (.r _ _ _);refine .rr ?_;(exact ⟨id,rfl,hid,rfl⟩);done|apply wZ;rfl|show Cn _;constructor|exact rfl|apply auE (xs:=axR n d);rfl;rfl;exact hah;rfl;rfl;rfl|apply wY;rfl|apply wI;rfl|apply gE;omega|simp only [zql];omega|(intro h;simp at h))
 have hsm0:rR n d c.parts[i]=false:=by simpa using hsm
 have hs2:∀j (h:j<c.parts.length),j<i+1->rR n d c.parts[j]=false:=λj hj hji=>by
  rcases zls.1 hji with q|q
  ·exact hs j hj q
  ·subst q;exact hsm0
 rw [hsm0] at hz
 have hz:¬ahI (ptN (nV n) d) c.parts[i]=0:=by simpa using hz
 have hbeh:dY c.parts[i] (ptN (nV n) d)=decide (ahI (ptN (nV n) d) c.parts[i]<0):=by
  cases hB:dY c.parts[i] (ptN (nV n) d) with
  |true=>
   rw [hB] at hng
   have:=of_decide_eq_false hng
   exact (decide_eq_true (by omega)).symm
  |false=>
   rw [hB] at hng
   have:=of_decide_eq_true hng
   exact (decide_eq_false (by omega)).symm
 clear hng
 generalize ahI (ptN (nV n) d) c.parts[i]=O at*
 by_cases hneg:O<0
 ·rw [decide_eq_true hneg] at hbeh
  by_cases hae:a=c.parts.length
  ·have ha2:∀j (h:j<c.parts.length),j<i->dY c.parts[j] (ptN (nV n) d)=false:=by
    rcases ha with ⟨_,q⟩|⟨q,_⟩
    ·exact q
    ·omega
   (repeat' first|(refine ⟨⟨(i+1,i),by simp only;omega,hs2, .inr ⟨hil,hbeh,ha2⟩⟩, ?_, ?_⟩)|apply wZ;rfl|show Cn _;constructor|exact rfl|(apply hof)|apply auE (xs:=axR n d);rfl;rfl;exact hah;rfl;rfl;rfl|apply wY;rfl|apply wI;rfl|apply gE;omega|omega|simp only [zql];omega|intro h;simp at h;omega|(intro h;simp at h)|intro h)
  ·have ha2:∃h:a<c.parts.length,dY c.parts[a] (ptN (nV n) d)=true/\∀j (h:j<c.parts.length),j<a->dY c.parts[j] (ptN (nV n) d)=false:=by
    rcases ha with ⟨q,_⟩|q
    ·exact absurd q hae
    ·exact q
   (repeat' first|(refine ⟨⟨(i+1,a),by simp only;omega,hs2, .inr ha2⟩, ?_, ?_⟩)|apply wZ;rfl|show Cn _;constructor|exact rfl|(apply hof)|apply auE (xs:=axR n d);rfl;rfl;exact hah;rfl;rfl;rfl|apply wY;rfl|apply wI;rfl|apply gE;omega|omega|simp only [zql];omega|intro h;simp at h;omega|(intro h;simp at h)|intro h)
 ·rw [decide_eq_false hneg] at hbeh
  have ha2:(a=c.parts.length/\∀j (h:j<c.parts.length),j<i+1->dY c.parts[j] (ptN (nV n) d)=false)\/∃h:a<c.parts.length,dY c.parts[a] (ptN (nV n) d)=true/\∀j (h:j<c.parts.length),j<a->dY c.parts[j] (ptN (nV n) d)=false:=by
   rcases ha with ⟨q1,q2⟩|q
   ·refine .inl ⟨q1,λj hj hji=> ?_⟩
    rcases zls.1 hji with q|q
    ·exact q2 j hj q
    ·subst q;exact hbeh
   ·exact .inr q
  (repeat' first|(refine ⟨⟨(i+1,a),by simp only;omega,hs2,ha2⟩, ?_, ?_⟩)|apply wZ;rfl|show Cn _;constructor|exact rfl|(apply hof)|apply auE (xs:=axR n d);rfl;rfl;exact hah;rfl;rfl;rfl|apply wY;rfl|apply wI;rfl|apply gE;omega|omega|simp only [zql];omega|intro h;simp at h;omega|(intro h;simp at h)|intro h)
theorem abE (c:Cl) (n:Int) (d:Dt) (hl:c.parts.length<1000000000):PF Tryz.prog 185 [.agg c.cells,(vi (n)), .agg d.cells] (.agg (nL c n d).cells):=auG (aEV c n d hl)
theorem acX (c e:Cl):PF Tryz.prog 122 [.seq [c.cells,e.cells]] (vi (if cI c≠0 then cI c else cI e)):=by
 have hc:=lN c
 have he:=lN e
 generalize cI c=R at*
 generalize cI e=Q at*
 refine pF Tryz.func122 rfl (λst=> ?_)
 (repeat' first|apply wZ;rfl|show Cn _;constructor)
 refine aC (X:={x:Nat//x<=2/\(0<x->R=0)/\(x=2->Q=0)}) (λi=>((((St.nil 18 st).pv 6 (.seq [c.cells,e.cells])).pv 7 ((vi ((([c.cells,e.cells]).length:Nat))))).pv 8 ((vi ((i.1:Nat)))))) (λi=>2-i.1) ⟨0,by omega,by omega,by omega⟩ ?_ (λi=> ?_)
 ·(repeat' first|show Cn _;constructor|exact rfl)
 obtain ⟨i,h1,hinv,hinv2⟩:=i
 dsimp only
 rcases (show i=0\/i=1\/i=2 by omega) with rfl|rfl|rfl
 ·by_cases hR:R=0
  ·(repeat' first|(refine ⟨⟨1,by omega,λ_=>hR,by omega⟩, ?_, ?_⟩)|apply wZ;rfl|show Cn _;constructor|exact rfl|apply cN pk;(iterate 6 rfl);rotate_left;rfl;(intro hw;rfl);(intro hw;apply (rfl:([c.cells,e.cells]:List (List PV))[0]?=some c.cells)<;>omega);(intro _;rfl);rfl|(apply hc)|apply wY;rfl|omega|simp only [zql];omega|intro h)
  ·(repeat' first|apply wZ;rfl|show Cn _;constructor|exact rfl|apply cN pk;(iterate 6 rfl);rotate_left;rfl;(intro hw;rfl);(intro hw;apply (rfl:([c.cells,e.cells]:List (List PV))[0]?=some c.cells)<;>omega);(intro _;rfl);rfl|(apply hc)|show (_:PV)=_;(rw [zp hR]);done|apply wY;rfl|omega|intro h)
 ·have h0:=hinv (by omega)
  by_cases hQ:Q=0
  ·(repeat' first|(refine ⟨⟨2,by omega,λ_=>h0,λ_=>hQ⟩, ?_, ?_⟩)|apply wZ;rfl|show Cn _;constructor|exact rfl|apply cN pk;(iterate 6 rfl);rotate_left;rfl;(intro hw;rfl);(intro hw;apply (rfl:([c.cells,e.cells]:List (List PV))[1]?=some e.cells)<;>omega);(intro _;rfl);rfl|(apply he)|apply wY;rfl|omega|simp only [zql];omega|intro h)
  ·(repeat' first|apply wZ;rfl|show Cn _;constructor|exact rfl|apply cN pk;(iterate 6 rfl);rotate_left;rfl;(intro hw;rfl);(intro hw;apply (rfl:([c.cells,e.cells]:List (List PV))[1]?=some e.cells)<;>omega);(intro _;rfl);rfl|(apply he)|show (_:PV)=_;(rw [zn (by omega)]);done|apply wY;rfl|omega|intro h)
 ·have h0:=hinv (by omega)
  have h2:=hinv2 rfl
  (repeat' first|apply wZ;rfl|show Cn _;constructor|exact rfl|show (_:PV)=_;(rw [zn (by omega),h2]);done)
def yU (r:Cl×Int):PV:= .tup [.agg r.1.cells,(vi (r.2))]
theorem aHy (e:Int):Wk (.tup [.agg [(vi (0)),(vi (0)),(vi (0)), .val (.string e0), .val (.slice none 0 0)],(vi (e))]) (yU (Cl.zero,e)):=Wk.tup (.cons wkz (.cons (zwr _) .nil))
theorem azH (c:Cl):PF Tryz.prog 247 [.agg c.cells] (yU (if cI c≠0 then (Cl.zero,cI c) else (c,0))):=by
 have hc:=uA c
 generalize cI c=R at*
 by_cases hR:R≠0
 ·rw [zp hR]
  refine pF Tryz.func247 rfl (λst=> ?_)
  (repeat' first|exact Cn.any ⟨_,_,_,rfl,aHy _,zsr _,rfl,rfl⟩|apply wZ;rfl|show Cn _;constructor|(apply hc)|apply wY;rfl|omega|intro h)
 ·rw [zn hR]
  refine pF Tryz.func247 rfl (λst=> ?_)
  (repeat' first|apply wZ;rfl|show Cn _;constructor|exact rfl|(apply hc)|apply wY;rfl|omega|intro h)
theorem ayB {c:Cl} (h:cI c=0): -1099511627776<=c.val.n/\c.val.n<=1099511627776:=by
 unfold cI at h
 split at h
 ·cases h
 ·split at h
  ·cases h
  ·split at h
   ·cases h
   ·omega
theorem aeE (c:Cl) (n:Int) (hn:inL n):PF Tryz.prog 183 [.agg c.cells,(vi (n))] (yU (tK c n)):=by
 have h1:=vE [n] (by simp) (by simpa using hn)
 rw [show ([n]:List Int).sum=n from by simp] at h1
 have h2:=acX c (oW n)
 unfold tK
 by_cases hc:cI c≠0
 ·rw [zp hc] at h2⊢
  generalize cI c=R at*
  refine pF Tryz.func183 rfl (λst=> ?_)
  (repeat' first|exact Cn.any ⟨_,_,_,rfl,aHy _,zsr _,rfl,rfl⟩|apply wZ;rfl|show Cn _;constructor|apply KR.mk;kernel_rfl|((first|apply h1|apply h2))|apply wY;rfl|omega|intro h)
 rw [zn hc] at h2⊢
 have hc:=zdn hc
 by_cases hd:cI (oW n)≠0
 ·rw [zp hd]
  generalize cI (oW n)=R at*
  refine pF Tryz.func183 rfl (λst=> ?_)
  (repeat' first|exact Cn.any ⟨_,_,_,rfl,aHy _,zsr _,rfl,rfl⟩|apply wZ;rfl|show Cn _;constructor|apply KR.mk;kernel_rfl|((first|apply h1|apply h2))|apply wY;rfl|omega|intro h)
 rw [zn hd]
 have hd:=zdn hd
 rw [hd] at h2
 have hci:=ayB hc
 have h3:=vE [c.val.n,n] (by simp) (λx hx=>by
  rcases zmc.1 hx with rfl|hx
  ·unfold inL;omega
  ·rw [zms.1 hx];exact hn)
 rw [show ([c.val.n,n]:List Int).sum=c.val.n+n from by simp] at h3
 have h4:=azH (oW (c.val.n+n))
 generalize oW (c.val.n+n)=D at*
 by_cases he:cI D≠0
 ·rw [zp he] at h4⊢
  generalize cI D=R at*
  refine pF Tryz.func183 rfl (λst=> ?_)
  (repeat' first|apply wZ;rfl|show Cn _;constructor|exact rfl|apply KR.mk;kernel_rfl|((first|apply h1|apply h2|apply h3|apply h4))|apply wY;rfl)
 ·rw [zn he] at h4⊢
  refine pF Tryz.func183 rfl (λst=> ?_)
  (repeat' first|apply wZ;rfl|show Cn _;constructor|exact rfl|apply KR.mk;kernel_rfl|((first|apply h1|apply h2|apply h3|apply h4))|apply wY;rfl)
theorem azP :PF Tryz.prog 238 [] (.agg (oW 0).cells):=by
 have h:=vE [] (by simp) (by simp)
 refine pF Tryz.func238 rfl (λst=> ?_)
 (repeat' first|apply wZ;rfl|show Cn _;constructor|exact rfl|(apply auW (qs:=[.seq []]) (p:= .agg (oW 0).cells);rfl;rfl;rfl;exact (WkL.cons Wk.nil .nil);(intro _;exact h);(focus repeat' constructor);rfl);rfl)
theorem wkN (k:Int):Wk (.agg [(vi (k)),(vi (0)),(vi (0)), .val (.string e0), .val (.slice none 0 0)]) (.agg (Cl.mk k Vl.zero []).cells):= .agg (.cons (zwr _) (.cons (zwr _) (.cons (zwr _) (.cons (zwr _) (.cons Wk.nil .nil)))))
theorem azO :PF Tryz.prog 239 [] (.agg (Cl.mk 4 Vl.zero []).cells):=by
 refine pF Tryz.func239 rfl (λst=> ?_)
 (repeat' first|exact Cn.any ⟨_,_,_,rfl,wkN 4,zsr _,rfl,rfl⟩|apply wZ;rfl|show Cn _;constructor)
theorem iH (w:Wr):PF Tryz.prog 117 [.agg w.cells] (.agg w.dot.cells):=by
 refine pF Tryz.func117 rfl (λst=> ?_)
 (repeat' first|apply wZ;rfl|show Cn _;constructor|exact rfl)
theorem wkV (v:Vl) (e:Int):Wk (.tup [.agg [(vi (0)),(vi (v.kind)),(vi (v.n)),(vs (v.s)), .val (.slice none 0 0)],(vi (e))]) (yU (⟨0,v,[]⟩,e)):=Wk.tup (.cons (.agg (.cons (zwr _) (.cons (zwr _) (.cons (zwr _) (.cons (zwr _) (.cons Wk.nil .nil)))))) (.cons (zwr _) .nil))
theorem aIT (k e:Int):Wk (.tup [.agg [(vi (k)),(vi (0)),(vi (0)), .val (.string e0), .val (.slice none 0 0)],(vi (e))]) (yU (⟨k,Vl.zero,[]⟩,e)):=Wk.tup (.cons (wkN k) (.cons (zwr _) .nil))
theorem asA (w:Wr) (kind:Int) (v:Vl) (hv:inL v.n) (hs:v.s.size<1000000) (hk:w.knew.length<1000000000000):PF Tryz.prog 175 [.agg w.cells,(vi (kind)), .agg v.cells] (yU (kK w kind v)):=by
 have hd:=iH w
 unfold kK
 by_cases k0:kind=0
 ·rw [zp k0]
  refine pF Tryz.func175 rfl (λst=> ?_)
  (repeat' first|exact Cn.any ⟨_,_,_,rfl,wkV v 0,zsr _,rfl,rfl⟩|apply wZ;rfl|show Cn _;constructor|apply KR.mk;kernel_rfl|omega|intro h)
 rw [zn k0]
 by_cases k2:kind=2
 ·rw [zp k2]
  have ha:=aeE (oW 0) v.n hv
  generalize tK (oW 0) v.n=R at*
  refine pF Tryz.func175 rfl (λst=> ?_)
  (repeat' first|apply wZ;rfl|show Cn _;constructor|exact rfl|apply KR.mk;kernel_rfl|((first|apply azP|apply ha))|apply wY;rfl|omega|intro h)
 rw [zn k2]
 by_cases k4:kind=4
 ·rw [zp k4]
  have ht:=T.type_spec ⟨4,Vl.zero,[]⟩ v.s w.who Dt.zero 0 (by simp) hs
  rw [show (⟨Dt.zero,0⟩:T.Nm)=T.Nm.zero from rfl] at ht
  generalize T.typeP ⟨4,Vl.zero,[]⟩ v.s w.who T.Nm.zero=R at*
  refine pF Tryz.func175 rfl (λst=> ?_)
  (repeat' first|apply wZ;rfl|show Cn _;constructor|exact rfl|apply KR.mk;kernel_rfl|((first|apply azO|apply ht))|apply wY;rfl|omega|intro h)
 rw [zn k4]
 by_cases v0:v.kind=0
 ·rw [zp v0]
  refine pF Tryz.func175 rfl (λst=> ?_)
  (repeat' first|exact Cn.any ⟨_,_,_,rfl,aIT kind 0,zsr _,rfl,rfl⟩|apply wZ;rfl|show Cn _;constructor|apply KR.mk;kernel_rfl|omega|intro h)
 rw [zn v0]
 by_cases k3:kind=3
 ·rw [zp k3]
  have hp:=abE ⟨kind,Vl.zero,[]⟩ v.n w.dot (by simp)
  generalize nL ⟨kind,Vl.zero,[]⟩ v.n w.dot=R at*
  refine pF Tryz.func175 rfl (λst=> ?_)
  (repeat' first|apply wZ;rfl|show Cn _;constructor|exact rfl|apply KR.mk;kernel_rfl|(apply hd)|(apply auW (qs:=[.agg (Cl.mk kind Vl.zero []).cells,(vi (v.n)), .agg w.dot.cells]) (p:= .agg R.cells);rfl;rfl;rfl;exact (WkL.cons (wkN kind) (.cons (zwr _) (.cons (zwr _) .nil)));(intro _;exact hp);(focus repeat' constructor);rfl);rfl|apply wY;rfl|omega|intro h)
 ·rw [zn k3]
  have hp:=yN ⟨kind,Vl.zero,[]⟩ v w.dot w.knew (by simp) hk
  generalize gW ⟨kind,Vl.zero,[]⟩ v w.dot w.knew=R at*
  refine pF Tryz.func175 rfl (λst=> ?_)
  (repeat' first|apply wZ;rfl|show Cn _;constructor|exact rfl|apply KR.mk;kernel_rfl|(apply hd)|(apply auW (qs:=[.agg (Cl.mk kind Vl.zero []).cells, .agg v.cells, .agg w.dot.cells, .seq (w.knew.map I1)]) (p:= .agg R.cells);rfl;rfl;rfl;exact (WkL.cons (wkN kind) (.cons (zwr _) (.cons (zwr _) (.cons (zwr _) .nil))));(intro _;exact hp);(focus repeat' constructor);rfl);rfl|apply wY;rfl|omega|intro h)
def pP :Option (Nat×List Pt)->PV
 |none=> .val (.slice none 0 0)
 |some y=> .vec y.1 11 0 y.2.length
def mQ :Option (Nat×List Pt)->List Pt
 |none=>[]
 |some y=>y.2
structure AccP (L:Nat->Prop) (S:aD) (id3:Nat) (a:Option (Nat×List Pt)):Prop where
 box:S id3=some (.cells 108 [pP a])
 arr:∀y,a=some y->S y.1=some (.arr 149 (y.2.map Pt.cells))/\¬L y.1
 out:¬L id3
theorem AccP.grow {L:Nat->Prop} {S S1:aD} {id3:Nat} {a:Option (Nat×List Pt)} (h:AccP L S id3 a) {i':Nat} {l':List Pt} (hi:S i'=none) (hL:∀j,L j->S j≠none)
  (hS:S1=upd (upd S i' (some (.arr 149 (l'.map Pt.cells)))) id3 (some (.cells 108 [pP (some (i',l'))]))\/∃y,a=some y/\S1=upd (upd (upd S y.1 none) i' (some (.arr 149 (l'.map Pt.cells)))) id3 (some (.cells 108 [pP (some (i',l'))]))):
  AccP L S1 id3 (some (i',l'))/\∀j,L j->S1 j=S j:=by
 have n3:i'≠id3:=λe=>by rw [e,h.box] at hi;cases hi
 have ni:¬L i':=λq=>hL i' q hi
 rcases hS with rfl|⟨y,ha,rfl⟩
 ·refine ⟨⟨aA _ _ _,λy e=> ?_,h.out⟩,λj hj=> ?_⟩
  ·injection e with e;subst e
   exact ⟨by rw [aB n3,aA],ni⟩
  ·rw [aB (λe=>h.out (by rw [<-e];exact hj)),aB (λe=>ni (by rw [<-e];exact hj))]
 ·refine ⟨⟨aA _ _ _,λy e=> ?_,h.out⟩,λj hj=> ?_⟩
  ·injection e with e;subst e
   exact ⟨by rw [aB n3,aA],ni⟩
  ·rw [aB (λe=>h.out (by rw [<-e];exact hj)),aB (λe=>ni (by rw [<-e];exact hj)),aB (λe=>(h.arr y ha).2 (by rw [<-e];exact hj))]
theorem AccP.move {L L':Nat->Prop} {S S1:aD} {id3:Nat} {a:Option (Nat×List Pt)} (h:AccP L S id3 a) (h3:S1 id3=S id3) (ha:∀y,a=some y->S1 y.1=S y.1/\¬L' y.1) (hL:¬L' id3):AccP L' S1 id3 a:=
 ⟨h3.trans h.box,λy e=>⟨(ha y e).1.trans (h.arr y e).1,(ha y e).2⟩,hL⟩
theorem AccP.round {L:Nat->Prop} {S S1:aD} {id3 idl:Nat} {a:Option (Nat×List Pt)} (h:AccP L S id3 a) (hl:L idl) (hL:∀j,L j->S j≠none) (busy ready:AObj) {i':Nat} {l':List Pt} (hi:upd S idl (some busy) i'=none)
  (hS:S1=upd (upd (upd S idl (some busy)) i' (some (.arr 149 (l'.map Pt.cells)))) id3 (some (.cells 108 [pP (some (i',l'))]))\/∃y,a=some y/\S1=upd (upd (upd (upd S idl (some busy)) y.1 none) i' (some (.arr 149 (l'.map Pt.cells)))) id3 (some (.cells 108 [pP (some (i',l'))]))):
  AccP L (upd S1 idl (some ready)) id3 (some (i',l'))/\S1 idl=some busy/\∀j,L j->j≠idl->upd S1 idl (some ready) j=S j:=by
 have n3:id3≠idl:=λe=>h.out (by rw [e];exact hl)
 have hb:AccP L (upd S idl (some busy)) id3 a:=h.move (aB n3) (λy e=>⟨aB λq=>(h.arr y e).2 (by rw [q];exact hl),(h.arr y e).2⟩) h.out
 have hLb:∀j,L j->upd S idl (some busy) j≠none:=λj hj=>by
  by_cases e:j=idl
  ·rw [e,aA];simp
  ·rw [aB e];exact hL j hj
 obtain ⟨g1,g2⟩:=hb.grow hi hLb hS
 refine ⟨g1.move (aB n3) (λy e=>⟨aB λq=>(g1.arr y e).2 (by rw [q];exact hl),(g1.arr y e).2⟩) g1.out,by rw [g2 idl hl,aA],λj hj hne=> ?_⟩
 rw [aB hne,g2 j hj,aB hne]
theorem aB0 {idl:Nat} (l:List Pt) (fid:FuncId) (caps:List PV) (f:Pt->Bool) (hl:l.length<1000000000) (hf:∀p,PF Tryz.prog fid ([.agg p.cells]++caps) (vb (f p))) {st:aD} (J:Nat->aD->Prop) (h0:J 0 st)
  (h1:∀i S (h:i<l.length),J i S->f l[i]=false->J (i+1) S)
  (h2:∀i S (h:i<l.length),J i S->f l[i]=true->PY Tryz.prog idl [.agg l[i].cells] S λr S'=>r= .val (.bool true)/\J (i+1) S'):
  PC Tryz.prog 298 [.yld idl, .rp [.seq (l.map Pt.cells)], .rp [.fn fid caps]] st λ_ S=>J l.length S:=by
 refine pC Tryz.func298 rfl ?_
 focus ((repeat' first|apply wZ;rfl|show Cn _;constructor))
 refine aC (X:={x:Nat×aD//x.1<=l.length/\J x.1 x.2}) (λi=>((((((St.nil 22 (i.1.2)).pv 0 (.yld idl)).pv 2 (.rp [.fn fid caps])).pv 6 (.seq (l.map Pt.cells))).pv 7 ((vi (((l.map Pt.cells).length:Nat))))).pv 8 ((vi ((i.1.1:Nat)))))) (λi=>l.length-i.1.1) ⟨(0,st),by simp,h0⟩ ?_ (λi=> ?_)
 ·(repeat' first|show Cn (.t _ _);exact Cn.t0|show Cn _;constructor|exact rfl)
 obtain ⟨⟨i,S⟩,hi,hJ⟩:=i
 simp only at hi hJ
 dsimp only
 by_cases hend:l.length<=i
 ·have e:i=l.length:=by omega
  rw [e] at hJ
  (repeat' first|show Cn (.r _ _ _);refine .rr ?_;(exact hJ);done|apply wZ;rfl|show Cn _;constructor|simp only [zql];omega|(intro h;simp at h))
 have hil:i<l.length:=by omega
 have hfi:=hf l[i]
 cases hb:f l[i] with
 |false=>
  have hn:=h1 i S hil hJ hb
  rw [hb] at hfi
  (repeat' first|(apply Cn.cf;focus ((apply hfi);done))|(refine ⟨⟨(i+1,S),by simp only;omega,hn⟩, ?_, ?_⟩)|apply wZ;rfl|show Cn _;constructor|exact rfl|apply aIl (vb (false));rfl;rfl;rfl|apply wY;rfl|apply wI;rfl|apply gE;omega|omega|simp only [zql];omega|(intro h;simp at h))
 |true=>
  have hy:=h2 i S hil hJ hb
  rw [hb] at hfi
  (repeat' first|(apply Cn.cf;focus ((apply hfi);done))|(refine ⟨⟨(i+1,S'),by simp only;omega,hJ'⟩, ?_, ?_⟩)|apply wZ;rfl|show Cn _;constructor|exact rfl|(apply aG5;rfl;rfl;rfl;exact hy;rfl;rfl;rfl;rintro _ S' ⟨rfl,hJ'⟩)|apply wY;rfl|apply wI;rfl|apply gE;omega|omega|simp only [zql];omega|(intro h;simp at h))
theorem ayL (l:List Pt) (fid:FuncId) (caps:List PV):PF Tryz.prog 249 [.seq (l.map Pt.cells), .fn fid caps] (.fn 298 [.rp [.seq (l.map Pt.cells)], .rp [.fn fid caps]]):=by
 refine pF Tryz.func249 rfl (λst=> ?_)
 (repeat' first|apply wZ;rfl|show Cn _;constructor|exact rfl|apply aY 2;rfl;rfl|apply aY 3;rfl;rfl)
theorem aoD (n:Int) (d:Dt) (kn:List Int) (hk:kn.length<1000000000000) (p:Pt):PF Tryz.prog 250 ([.agg p.cells]++[.rp [(vi (n))], .rp d.cells, .rp [.seq (kn.map I1)]]) (vb (rZ n d kn p)):=by
 have h:=afR kn p.dot hk
 have e:rZ n d kn p=(!decide (p.val.n=n)||(!(decide (p.dot.dev=d.dev)&&decide (p.dot.seq=d.seq))&& !anJ kn p.dot)):=by unfold rZ;rw [aIn];simp
 rw [e]
 generalize anJ kn p.dot=H at*
 refine pF Tryz.func250 rfl (λst=> ?_)
 (repeat' first|apply wZ;rfl|show Cn _;constructor|exact rfl|(apply h)|apply wY;rfl)
structure TkJ (st0:aD) (lp:AObj) (idl id2:Nat) (m:List Pt) (S:aD):Prop where
 loop:S idl=some lp
 acc:∃b,AccP (λj=>st0 j≠none\/j=idl) S id2 b/\mQ b=m
 old:∀j,st0 j≠none->S j=st0 j
theorem TkJ.live {st0 S:aD} {lp:AObj} {idl id2:Nat} {m:List Pt} (h:TkJ st0 lp idl id2 m S):∀j,st0 j≠none\/j=idl->S j≠none:=λj hj=>by
 rcases hj with hj|rfl
 ·rw [h.old j hj];exact hj
 ·rw [h.loop];simp
theorem auC {l:List Pt} {f:Pt->Bool} {i:Nat} (h:i<l.length):(l.take (i+1)).filter f=(l.take i).filter f++if f l[i]=true then [l[i]] else []:=by
 rw [List.take_succ_eq_append_getElem h,List.filter_append]
 by_cases hf:f l[i]=true
 ·rw [zp hf];simp [hf]
 ·rw [zn hf];simp [hf]
theorem aEP (c:Cl) (n:Int) (d:Dt) (kn:List Int) (hl:c.parts.length<100000) (hk:kn.length<1000000000000) (st:aD):PC Tryz.prog 187 [.agg c.cells,(vi (n)), .agg d.cells, .seq (kn.map I1)] st λr S=>∃b,r= .agg [(vi (c.kind)),(vi (c.val.kind)),(vi (c.val.n)),(vs (c.val.s)),pP b]/\mQ b=c.parts.filter (rZ n d kn)/\(∀y,b=some y->S y.1=some (.arr 149 (y.2.map Pt.cells))/\st y.1=none)/\∀j,st j≠none->S j=st j:=by
 have hsp:=ayL c.parts 250 [.rp [(vi (n))], .rp d.cells, .rp [.seq (kn.map I1)]]
 have hkp:=aoD n d kn hk
 refine pC Tryz.func187 rfl ?_
 focus ((repeat' first|apply wZ;rfl|show Cn _;constructor|(apply hsp)|apply aY 5;rfl;rfl|apply aY 6;rfl;rfl|apply aY 7;rfl;rfl|apply wY;rfl))
 refine aAp 9 rfl rfl λid2 h2=> ?_
 have h2:st id2=none:=h2
 refine arQ [(9, .ref id2 0)] rfl rfl ⟨rfl,trivial⟩ (λidl S=>∃b,mQ b=c.parts.filter (rZ n d kn)/\AccP (λj=>st j≠none) (upd S idl none) id2 b/\∀j,st j≠none->upd S idl none j=st j) ?_ ?_
 ·intro idl hidl
  have hidl:upd st id2 (some (.cells 108 [.val (.slice none 0 0)])) idl=none:=hidl
  have nl2:idl≠id2:=λe=>by rw [e,aA] at hidl;cases hidl
  have hsl:st idl=none:=by rwa [aB nl2] at hidl
  generalize hlp:AObj.loop _ _ _ _ _ _=lp
  have:=aB0 (idl:=idl) c.parts 250 [.rp [(vi (n))], .rp d.cells, .rp [.seq (kn.map I1)]] (rZ n d kn) (by omega) hkp (st:=upd (upd st id2 (some (.cells 108 [.val (.slice none 0 0)]))) idl (some lp)) (λi S=>TkJ st lp idl id2 ((c.parts.take i).filter (rZ n d kn)) S) ?_ (λi S hi hJ hf=> ?_) (λi S hi hJ hf=> ?_)
  ·refine ⟨this.1,λw g vs h1 h2=>(this.2 w g vs h1 h2).mono ?_⟩
   rintro e w' ⟨v,q,S,g',h3,hJ,h4⟩
   rw [ztl (Nat.le_refl _)] at hJ
   obtain ⟨b,hb,hbl⟩:=hJ.acc
   refine ⟨v,q,S,g',h3,⟨hJ.loop,b,hbl,hb.move (aB λe=>hb.out (.inr e)) (λy e=>⟨aB λq=>(hb.arr y e).2 (.inr q),λq=>(hb.arr y e).2 (.inl q)⟩) (λq=>hb.out (.inl q)),λj hj=> ?_⟩,h4⟩
   rw [aB (λe=>hj (by rw [e];exact hsl))]
   exact hJ.old j hj
  ·refine ⟨aA _ _ _,⟨none,⟨by rw [aB (Ne.symm nl2),aA];rfl,λ_ e=>(by cases e), ?_⟩,by simp [mQ]⟩,λj hj=> ?_⟩
   ·rintro (q|q)
    ·exact q h2
    ·exact nl2 q.symm
   ·rw [aB (λe=>hj (by rw [e];exact hsl)),aB (λe=>hj (by rw [e];exact h2))]
  ·rw [auC hi,zn (by rw [hf];simp),List.append_nil];exact hJ
  ·rw [auC hi,zp hf]
   have hloop:=hJ.loop
   obtain ⟨b,hb,hbl⟩:=hJ.acc
   have hbn:(mQ b).length<=100000:=by
    rw [hbl]
    have:=List.length_filter_le (rZ n d kn) (c.parts.take i)
    rw [zlt] at this
    omega
   have hL:=hJ.live
   have ho:=hJ.old
   rw [<-hbl]
   generalize c.parts[i]=x at*
   have hfin:∀(busy:AObj) (i':Nat) (S1:aD),upd S idl (some busy) i'=none->(S1=upd (upd (upd S idl (some busy)) i' (some (.arr 149 ((mQ b++[x]).map Pt.cells)))) id2 (some (.cells 108 [pP (some (i',mQ b++[x]))]))\/∃y,b=some y/\S1=upd (upd (upd (upd S idl (some busy)) y.1 none) i' (some (.arr 149 ((mQ b++[x]).map Pt.cells)))) id2 (some (.cells 108 [pP (some (i',mQ b++[x]))])))->S1 idl=some busy/\TkJ st lp idl id2 (mQ b++[x]) (upd S1 idl (some lp)):=λbusy i' S1 hi' hS1=>by
    obtain ⟨g1,g2,g3⟩:=hb.round (.inr rfl) hL busy lp hi' hS1
    exact ⟨g2,aA _ _ _,⟨_,g1,rfl⟩,λj hj=>by rw [g3 j (.inl hj) (λe=>hj (by rw [e];exact hsl))];exact ho j hj⟩
   have nb2:id2≠idl:=Ne.symm nl2
   have hbx:∀o,upd S idl o id2=some (.cells 108 [pP b]):=λo=>(aB nb2).trans hb.box
   rw [<-hlp] at hloop
   refine aIC (R:=λS'=>TkJ st lp idl id2 (mQ b++[x]) S') hloop (show 15<23 by decide) ?_
   show PWp _ _ _ (((St.nilR 23 S).pv 9 (.ref id2 0)).pv 15 (.agg x.cells))
   (repeat' first|apply wZ;rfl|show Cn _;constructor)
   refine ⟨rfl,hloop, ?_⟩
   cases b with
   |none=>
    (repeat' first|apply wZ;rfl|show Cn _;constructor|(apply ap0 pk (f:=Pt.cells) [x] 96;(iterate 10 rfl);exact λ_=>rfl;exact λ_=>rfl;exact uS;((focus (simp;done)));((focus (simp;done)));rfl;intro id' hid')|apply ldR pk;rfl;rfl;rotate_left;rfl;exact hbx _;rfl;rfl|apply stR pk;rfl;rfl;exact (aB (λe=>Option.some_ne_none _ ((hbx _).symm.trans ((congrArg (upd S idl _) e).trans hid')))).trans (hbx _);rfl;rfl)
    obtain ⟨g1,g2⟩:=hfin _ id' _ hid' (.inl rfl)
    subst hlp
    exact ⟨rfl,_,zsr _,g1,g2⟩
   |some z=>
    have nz:z.1≠idl:=λe=>(hb.arr z rfl).2 (.inr e)
    have hz3:∀o,upd S idl o z.1=some (.arr 149 (z.2.map Pt.cells)):=λo=>(aB nz).trans (hb.arr z rfl).1
    have n3z:id2≠z.1:=λe=>by have h1:=hb.box;have h2:=(hb.arr z rfl).1;rw [e,h2] at h1;cases h1
    have hlz:z.2.length<=100000:=hbn
    (repeat' first|apply wZ;rfl|show Cn _;constructor|apply ldR pk;rfl;rfl;rotate_left;rfl;exact hbx _;rfl;rfl|(apply apV pk (f:=Pt.cells) (xs:=z.2) [x] 96;(iterate 9 rfl);exact hz3 _;rfl;exact λ_=>rfl;exact λ_=>rfl;exact uS;(simp only [zlc,List.length_nil];omega);(simp only [zlc,List.length_nil];omega);rfl;intro id' hid')|apply stR pk;rfl;rfl;exact (aB (λe=>Option.some_ne_none _ ((hbx _).symm.trans ((congrArg (upd S idl _) e).trans hid')))).trans ((aB n3z).trans (hbx _));rfl;rfl)
    have hg:=hfin _ id' _ hid' (.inr ⟨z,rfl,rfl⟩)
    rw [show pP (some (id',mQ (some z)++[x]))= .vec id' 11 0 (z.2.length+[x].length) from by simp [pP,mQ]] at hg
    obtain ⟨g1,g2⟩:=hg
    subst hlp
    exact ⟨rfl,_,zsr _,g1,g2⟩
 ·rintro idl S hidl ⟨b,hp,hb,ho⟩
  have hbx:=hb.box
  cases b with
  |none=>
   (repeat' first|show Cn (.r _ _ _);refine .rr ?_;(exact ⟨none,rfl,hp,λ_ e=>(by cases e),ho⟩);done|apply wZ;rfl|show Cn _;constructor|apply ldR pk;rfl;rfl;rotate_left;rfl;(assumption);rfl;rfl)
  |some z=>
   have hz:=hb.arr z rfl
   have hst:st z.1=none:=Decidable.byContradiction λq=>hz.2 q
   (repeat' first|show Cn (.r _ _ _);refine .rr ?_;(exact ⟨some z,rfl,hp,λ_ e=>(by cases e;exact ⟨hz.1,hst⟩),ho⟩);done|apply wZ;rfl|show Cn _;constructor|apply ldR pk;rfl;rfl;rotate_left;rfl;(assumption);rfl;rfl)
theorem asM (c:Cl) (n:Int) (d:Dt) (kn:List Int) (hl:c.parts.length<100000) (hk:kn.length<1000000000000):PF Tryz.prog 187 [.agg c.cells,(vi (n)), .agg d.cells, .seq (kn.map I1)] (.agg (rW c n d kn).cells):=λst=>
 fS (sz:=11) (aEP c n d kn hl hk st) λp st' h=>by
  obtain ⟨b,rfl,h2,h3,h4⟩:=h
  have hsub:StSub st st':=λj=>by
   by_cases q:st j=none
   ·exact .inl q
   ·exact .inr (h4 j q).symm
  cases b with
  |none=>
   have e:rW c n d kn=⟨c.kind,c.val,[]⟩:=by unfold rW;rw [<-h2];rfl
   rw [e]
   exact .inr ⟨_,st,Wk.agg (.cons (zwr _) (.cons (zwr _) (.cons (zwr _) (.cons (zwr _) (.cons Wk.nil .nil))))),hsub,rfl,rfl⟩
  |some z=>
   obtain ⟨h5,h6⟩:=h3 z rfl
   have e:rW c n d kn=⟨c.kind,c.val,z.2⟩:=by unfold rW;rw [<-h2];rfl
   rw [e]
   refine .inl ⟨z.1,149,z.2.map Pt.cells,_,st,h5,rH, .agg (.cons .refl (.cons .refl (.cons .refl (.cons .refl (.cons (fL (by simp)) .nil))))),λj=> ?_,rfl,rfl⟩
   by_cases q:j=z.1
   ·subst q;exact .inl h6
   ·rw [aB q];exact hsub j
end
section
attribute [local irreducible] Ev PWp
set_option maxRecDepth 10000
set_option maxHeartbeats 4000000
structure TnOK (w:Wr) (c:Cl) (o:Ot):Prop where
 n:inL o.val.n
 s:o.val.s.size<1000000
 kn:w.knew.length<1000000000000
 parts:c.parts.length<100000
def yP (w:Wr) (c:Cl) (o:Ot):List PV:=[.rp c.cells, .rp o.cells, .rp w.cells]
def afL (c:Cl) (o:Ot):List PV:=[.rp c.cells, .rp o.cells]
section
variable {w:Wr} {c:Cl} {o:Ot} (hT:TnOK w c o)
theorem aIJ (v:Vl):Wk (.agg [(vi (0)),(vi (v.kind)),(vi (v.n)),(vs (v.s)), .val (.slice none 0 0)]) (.agg (Cl.mk 0 v []).cells):= .agg (.cons (zwr _) (.cons (zwr _) (.cons (zwr _) (.cons (zwr _) (.cons Wk.nil .nil)))))
include hT
theorem aEY :PF Tryz.prog 180 (yP w c o) (.agg (if c.kind=0 then ⟨0,o.val,[]⟩ else gW c o.val w.dot w.knew).cells):=by
 have hd:=iH w
 have hp:=yN c o.val w.dot w.knew (by have:=hT.parts;omega) hT.kn
 unfold yP
 by_cases k:c.kind=0
 ·rw [zp k]
  refine pF Tryz.func180 rfl (λst=> ?_)
  (repeat' first|exact Cn.any ⟨_,_,_,rfl,aIJ o.val,zsr _,rfl,rfl⟩|apply wZ;rfl|show Cn _;constructor|omega|intro h)
 ·rw [zn k]
  generalize gW c o.val w.dot w.knew=R at*
  refine pF Tryz.func180 rfl (λst=> ?_)
  (repeat' first|apply wZ;rfl|show Cn _;constructor|exact rfl|apply KR.mk;kernel_rfl|((first|apply hd|apply hp))|apply wY;rfl|omega|intro h)
theorem aGc :PF Tryz.prog 182 (afL c o) (yU (tK c o.val.n)):=by
 have h:=aeE c o.val.n hT.n
 unfold afL
 generalize tK c o.val.n=R at*
 refine pF Tryz.func182 rfl (λst=> ?_)
 (repeat' first|apply wZ;rfl|show Cn _;constructor|exact rfl|(apply h)|apply wY;rfl)
theorem aFu :PF Tryz.prog 184 (yP w c o) (.agg (nL c o.val.n w.dot).cells):=by
 have hd:=iH w
 have hp:=abE c o.val.n w.dot (by have:=hT.parts;omega)
 unfold yP
 generalize nL c o.val.n w.dot=R at*
 refine pF Tryz.func184 rfl (λst=> ?_)
 (repeat' first|apply wZ;rfl|show Cn _;constructor|exact rfl|apply KR.mk;kernel_rfl|((first|apply hd|apply hp))|apply wY;rfl)
theorem aFp :PF Tryz.prog 186 (yP w c o) (.agg (rW c o.val.n w.dot w.knew).cells):=by
 have hd:=iH w
 have hp:=asM c o.val.n w.dot w.knew hT.parts hT.kn
 unfold yP
 generalize rW c o.val.n w.dot w.knew=R at*
 refine pF Tryz.func186 rfl (λst=> ?_)
 (repeat' first|apply wZ;rfl|show Cn _;constructor|exact rfl|apply KR.mk;kernel_rfl|((first|apply hd|apply hp))|apply wY;rfl)
theorem aFV :PF Tryz.prog 188 (yP w c o) (yU (T.typeP c o.val.s w.who ⟨o.after,o.at_⟩)):=by
 have h:=T.type_spec c o.val.s w.who o.after o.at_ (by have:=hT.parts;omega) hT.s
 unfold yP
 generalize T.typeP c o.val.s w.who ⟨o.after,o.at_⟩=R at*
 refine pF Tryz.func188 rfl (λst=> ?_)
 (repeat' first|apply wZ;rfl|show Cn _;constructor|exact rfl|(apply h)|apply wY;rfl)
theorem aFk :PF Tryz.prog 190 (afL c o) (.agg (T.eraseP c ⟨o.after,o.at_⟩).cells):=by
 have h:=T.erase_spec c o.after o.at_ (by have:=hT.parts;omega)
 unfold afL
 generalize T.eraseP c ⟨o.after,o.at_⟩=R at*
 refine pF Tryz.func190 rfl (λst=> ?_)
 (repeat' first|apply wZ;rfl|show Cn _;constructor|exact rfl|(apply h)|apply wY;rfl)
end
theorem ayO (f:FuncId) (caps:List PV):PF Tryz.prog 178 [.fn f caps] (.fn 179 [.rp [.fn f caps]]):=by
 refine pF Tryz.func178 rfl (λst=> ?_)
 (repeat' first|apply wZ;rfl|show Cn _;constructor|exact rfl|apply aY 1;rfl;rfl)
theorem nR {f:FuncId} {caps:List PV} {d:Cl} (h:PF Tryz.prog f caps (.agg d.cells)):PF Tryz.prog 179 [.rp [.fn f caps]] (yU (d,0)):=by
 have h':PF Tryz.prog f ([]++caps) (.agg d.cells):=h
 refine pF Tryz.func179 rfl (λst=> ?_)
 (repeat' first|(apply Cn.cf;focus ((apply h');done))|apply wZ;rfl|show Cn _;constructor|exact rfl|apply wY;rfl)
def auN (f:FuncId) (caps:List PV):PV:= .fn 179 [.rp [.fn f caps]]
def aHU (w:Wr) (c:Cl) (o:Ot):List (Value×PV):=[(.int .i64 2,auN 180 (yP w c o)),(.int .i64 3, .fn 182 (afL c o)),(.int .i64 4,auN 184 (yP w c o)),(.int .i64 5,auN 186 (yP w c o)),(.int .i64 6, .fn 188 (yP w c o)),(.int .i64 7,auN 190 (afL c o))]
theorem azF {w:Wr} {c:Cl} {o:Ot} (hT:TnOK w c o) (h1:2<=o.kind) (h2:o.kind<=7):∃f caps,gM tt 247 (aHU w c o) (.int .i64 o.kind) false=some (.fn f caps)/\PF Tryz.prog f caps (yU (eR w c o)):=by
 have h:o.kind=2\/o.kind=3\/o.kind=4\/o.kind=5\/o.kind=6\/o.kind=7:=by omega
 unfold eR
 rcases h with h|h|h|h|h|h
 ·rw [h]
  refine ⟨_,_,rfl, ?_⟩
  have:=nR (aEY hT)
  rw [zp rfl]
  by_cases k:c.kind=0
  ·rw [zp k] at this⊢;exact this
  ·rw [zn k] at this⊢;exact this
 ·rw [h];exact ⟨_,_,rfl,aGc hT⟩
 ·rw [h];exact ⟨_,_,rfl,nR (aFu hT)⟩
 ·rw [h];exact ⟨_,_,rfl,nR (aFp hT)⟩
 ·rw [h];exact ⟨_,_,rfl,aFV hT⟩
 ·rw [h];exact ⟨_,_,rfl,nR (aFk hT)⟩
theorem aqA {st S:aD} {id idm:Nat} {a b:AObj} (hne:id≠idm) (hm:st idm=none) (e:b=a) (hS:∀q,q≠idm->S q=st q):StSub (upd st id (some a)) (upd S id (some b)):=λq=>by
 subst e
 by_cases e1:q=id
 ·subst e1;right;rw [aA,aA]
 ·rw [aB e1,aB e1]
  by_cases e2:q=idm
  ·subst e2;exact .inl hm
  ·exact .inr (hS q e2).symm
theorem aEX {w:Wr} {cs:List Cl} {j id:Nat} {o:Ot} (hj:j<cs.length) (hT:TnOK w cs[j] o) (h1:2<=o.kind) (h2:o.kind<=7) {st:aD} (hst:st id=some (.arr 110 (cs.map Cl.cells))):PC Tryz.prog 119 [.agg w.cells, .el id 5 j 0, .agg o.cells] st λr S=>r=(vi ((eR w cs[j] o).2))/\S=upd st id (some (.arr 110 ((cs.set j (eR w cs[j] o).1).map Cl.cells))):=by
 obtain ⟨f,caps,hlook,hP⟩:=azF hT h1 h2
 generalize eR w cs[j] o=R at*
 have hget:cs[j]?=some cs[j]:=zgg hj
 have hS:=ayO
 have hP':PF Tryz.prog f ([]++caps) (yU R):=hP
 refine pC Tryz.func119 rfl ?_
 (repeat' first|apply qX aQ;exact .inl rfl;(iterate 7 rfl);exact aA _ _ _;rfl;(iterate 2 (apply lW aQ;(iterate 4 rfl)));refine sX ?_;apply iS 9;rfl;exact aA _ _ _|((refine Cn.any ⟨_,_,upd st id (some (.arr 110 ((cs.set j R.1).map Cl.cells))),rfl,zwr _, ?_,rfl,rfl⟩;exact aqA hne hidm' (by simp) (λq h=>by repeat (first|rfl|refine (aB h).trans ?_))))|(apply Cn.cf;focus (((first|apply hS|apply hP'));done))|apply wZ;rfl|show Cn _;constructor|apply ncA;rfl;rfl;rfl;rotate_left;rfl;rfl|apply ldL pk Cl.elem (a:=cs[j]);rfl;rfl;rotate_left;rfl;(assumption);(intro _;exact hget);rfl|apply stA pk Cl.elem;rfl;rfl;rfl;((focus ((repeat (first|assumption|refine (aB ‹_›).trans ?_));done)));(omega);rfl|apply aY 3;rfl;rfl|apply aY 5;rfl;rfl|apply aY 8;rfl;rfl|((refine oH rfl (λidm hidm=> ?_));have hidm':st idm=none:=hidm;have hne:id≠idm:=(λe=>by rw [<-e,hst] at hidm';cases hidm'))|apply qX aQ;exact .inl rfl;(iterate 7 rfl);exact aA _ _ _;rfl|apply kW pk;(iterate 4 rfl);(focus repeat' constructor);rfl;exact hlook;rfl|apply wY;rfl)
end
end Go.Proofs.YtfablfldonhkiaaGreatDoor
