import Derived.Test.YtloecjjehapblaaGreatDoorOkAq
import Derived.Test.YtloecjjehapblaaGreatDoorOkAm
set_option linter.unusedSimpArgs false
set_option linter.unusedVariables false
namespace Go.Proofs.YtloecjjehapblaaGreatDoor
open Go Go.Abs
attribute [local irreducible] Ev PWp
set_option maxRecDepth 10000
set_option maxHeartbeats 4000000
theorem apM {α:Type} {f:α->Bool}:∀{l:List α} {i:Nat} (h:i<l.length),f l[i]=true->(∀j (hj:j<l.length),j<i->f l[j]=false)->abW f l=i
 |[],_,h,_,_=>by simp at h
 |a::l,0,_,hf,_=>by rw [qM,zp (show f a=true from hf)]
 |a::l,i+1,h,hf,hn=>by
  rw [qM,zn (by rw [show f a=false from hn 0 (by simp) (by omega)];simp),apM (l:=l) (i:=i) (by simpa using h) hf λj hj hji=>hn (j+1) (by simp;omega) (by omega)]
theorem amZ {α:Type} {f:α->Bool}:∀{l:List α},(∀j (hj:j<l.length),f l[j]=false)->abW f l=l.length
 |[],_=>rfl
 |a::l,hn=>by
  rw [qM,zn (by rw [show f a=false from hn 0 (by simp)];simp),amZ (l:=l) λj hj=>hn (j+1) (by simp;omega)];rfl
def atY (st:aI) (c:Cl) (r:PV) (S:aI):Prop:=∃id,r= .agg [(PV.val (Value.int .i64 (c.kind))),(PV.val (Value.int .i64 (c.val.kind))),(PV.val (Value.int .i64 (c.val.n))),(PV.val (Value.string (c.val.s))), .vec id 11 0 c.parts.length]/\st id=none/\S=upd st id (some (.arr 190 (c.parts.map Pt.cells)))
theorem aqS {f:FuncId} {args:List PV} {c:Cl} (h:∀st,PC Tryz.prog f args st (atY st c)):PF Tryz.prog f args (.agg c.cells):=λst=>
 gN (sz:=11) (h st) λp st' h=>by
  obtain ⟨id,rfl,h3,rfl⟩:=h
  exact .inl ⟨id,190,c.parts.map Pt.cells,_,st,aA _ _ _,qY, .agg (.cons .refl (.cons .refl (.cons .refl (.cons .refl (.cons (gL (by simp)) .nil))))),cY h3,rfl,rfl⟩
theorem aDe (l:List Pt) (fid:FuncId) (caps:List PV) (f:Pt->Bool) (hl:l.length<1000000000) (hf:∀p,PF Tryz.prog fid ([.agg p.cells]++caps) (.val (.bool (f p)))) (st:aI):PC Tryz.prog 312 [.seq (l.map Pt.cells), .fn fid caps] st λr S=>∃id,r= .vec id 11 0 (l.filter f).length/\st id=none/\S=upd st id (some (.arr 190 ((l.filter f).map Pt.cells))):=by
 refine cB aF Tryz.func312 (by kernel_rfl) rfl rfl rfl rfl ?_
 (try apply wO pk;rfl);(repeat' ((show Cn _;constructor)))
 refine mZ 5 190 11 rfl rfl rfl (λid hid=> ?_)
 refine aK (X:={x:Nat×Nat//x.1<=l.length/\st x.2=none}) (λi=>((((((St.nil 23 (upd st i.1.2 (some (.arr 190 (((l.take i.1.1).filter f).map Pt.cells))))).pv 1 (.fn fid caps)).pv 5 (.vec i.1.2 11 0 ((l.take i.1.1).filter f).length)).pv 8 (.seq (l.map Pt.cells))).pv 9 ((PV.val (Value.int .i64 ((((l.map Pt.cells)).length:Nat)))))).pv 10 ((PV.val (Value.int .i64 ((i.1.1:Nat))))))) (λi=>l.length-i.1.1) ⟨(0,id),by simp,hid⟩ ?_ (λi=> ?_)
 ·dsimp only
  (((repeat refine Sub.pv ?_ rfl);(exact Sub.nil _ _ _ (zsr _) rfl)))
 obtain ⟨⟨i,id⟩,hi,hid⟩:=i
 simp only at hi hid
 dsimp only
 by_cases hend:l.length<=i
 ·have e:l.take i=l:=ztl hend
  rw [e]
  (try apply wO pk;rfl);(repeat' first|show Cn _;constructor|apply wC pk;rfl;rfl|refine aB rfl ?_ ?_<;>intro h<;>(try simp at h)<;>try omega|(try refine aC ?_);((refine ⟨_,_,_,rfl,zwr _,zsr _, ?_⟩;(exact ⟨id,rfl,hid,rfl⟩);done)))
 have h1:i<l.length:=by omega
 have hfi:=hf l[i]
 have hle:((l.take i).filter f).length<=l.length:=Nat.le_trans (List.length_filter_le ..) (by simp;omega)
 cases hb:f l[i] with
 |false=>
  have e:(l.take (i+1)).filter f=(l.take i).filter f:=by rw [List.take_succ_eq_append_getElem h1,List.filter_append];simp [hb]
  rw [hb] at hfi
  (try apply wO pk;rfl);(repeat' first|show Cn _;constructor|apply wC pk;rfl;rfl|apply wE pk;rfl;rfl|refine aB rfl ?_ ?_<;>intro h<;>(try simp at h)<;>try omega|(apply aH;rfl;rfl;rfl;(intro _;apply hfi<;>first|assumption|omega);rotate_left;rfl;rfl)|apply aP pk;(iterate 6 rfl);rotate_left;rfl;(intro hw;rfl);(intro hw;apply aJ<;>omega);(intro _;rfl);rfl|refine ⟨⟨(i+1,id),by simp only;omega,hid⟩, ?_,by simp only;omega⟩;((dsimp only;rw [e]));((repeat refine Sub.pv ?_ rfl);exact Sub.nil _ _ _ (zsr _) rfl)|intros;(try simp only [zql]);omega)
 |true=>
  have e:(l.take (i+1)).filter f=(l.take i).filter f++[l[i]]:=by rw [List.take_succ_eq_append_getElem h1,List.filter_append];simp [hb]
  rw [hb] at hfi
  generalize (l.take i).filter f=K at*
  (try apply wO pk;rfl);(repeat' first|show Cn _;constructor|apply wC pk;rfl;rfl|apply wE pk;rfl;rfl|refine aB rfl ?_ ?_<;>intro h<;>(try simp at h)<;>try omega|(apply aH;rfl;rfl;rfl;(intro _;apply hfi<;>first|assumption|omega);rotate_left;rfl;rfl)|apply aP pk;(iterate 6 rfl);rotate_left;rfl;(intro hw;rfl);(intro hw;apply aJ<;>omega);(intro _;rfl);rfl|(apply apV pk (f:=Pt.cells) [l[i]] 96;(iterate 9 rfl);(exact aA _ _ _);(omega);exact λ_=>rfl;exact λ_=>rfl;exact uF;((focus (simp;omega)));((focus (simp;omega)));rfl;intro id' hid')|(refine ⟨⟨(i+1,id'),by simp only;omega,iL hid'⟩, ?_,by simp only;omega⟩;((dsimp only;rw [e]));(((repeat (first|refine Sub.pv ?_ rfl|refine Sub.pv' ?_ rfl (by (first|rfl|simp))));(exact Sub.nil _ _ _ (cR ‹_›) rfl))))|intros;(try simp only [zql]);omega)
theorem aGf (a b:Dt):(decide (a.dev=b.dev)&&decide (a.seq=b.seq))=decide (a=b):=by
 rw [Bool.eq_iff_iff];simp [Dt.ext_iff]
theorem aoM (d:Dt) (kn:List Int) (hk:kn.length<1000000000000) (p:Pt):PF Tryz.prog 313 ([.agg p.cells]++[.rp d.cells, .rp [.seq (kn.map I1)]]) (.val (.bool (rG d kn p))):=by
 have h:=aeF kn p.dot hk
 have e:rG d kn p=(!(decide (p.dot.dev=d.dev)&&decide (p.dot.seq=d.seq))&& !alK kn p.dot):=by unfold rG;rw [aGf];simp
 rw [e]
 generalize alK kn p.dot=H at*
 refine aG aF Tryz.func313 (by kernel_rfl) rfl rfl rfl rfl (λst=> ?_)
 (try apply wO pk;rfl);(repeat' first|show Cn _;constructor|apply wE pk;rfl;rfl|(refine aC ?_;refine ⟨_,_,_,rfl,zwr _,zsr _, ?_,rfl⟩;try rfl)|(apply aH;rfl;rfl;rfl;(intro _;apply h<;>first|assumption|omega);rotate_left;rfl;rfl))
theorem awA (c:Cl) (v:Vl) (d:Dt) (kn:List Int) (hl:c.parts.length<1000000000) (hk:kn.length<1000000000000) (st:aI):PC Tryz.prog 242 [.agg c.cells, .agg v.cells, .agg d.cells, .seq (kn.map I1)] st (atY st (gW c v d kn)):=by
 have hkp:=aDe c.parts 313 [.rp d.cells, .rp [.seq (kn.map I1)]] (rG d kn) hl (aoM d kn hk)
 have hKl:=List.length_filter_le (rG d kn) c.parts
 unfold atY gW
 dsimp only
 generalize c.parts.filter (rG d kn)=K at*
 refine cB aF Tryz.func242 (by kernel_rfl) rfl rfl rfl rfl ?_
 focus ((try apply wO pk;rfl);(repeat' first|show Cn _;constructor|apply wE pk;rfl;rfl|(apply cD;rfl;rfl;(apply (hkp _)<;>first|exact aA _ _ _|assumption|omega|(fail));rfl;rfl;rfl;intro _ st' hR;obtain ⟨id,rfl,hid,rfl⟩:=hR)|apply bD 6;rfl;rfl|apply bD 7;rfl;rfl))
 have hid:st id=none:=hid
 refine aK (X:={x:Nat//x<=K.length/\∀j (h:j<K.length),j<x->bH K[j].dot d=false}) (λi=>((((((((((St.nil 42 (upd st id (some (.arr 190 (K.map Pt.cells))))).var 4 80 (c.cells)).var 5 57 (v.cells)).pv 6 (.rp d.cells)).var 8 80 ([(PV.val (Value.int .i64 (0))),(PV.val (Value.int .i64 (0))),(PV.val (Value.int .i64 (0))),(PV.val (Value.string (e0))), .val (.slice none 0 0)])).pv 9 (.vec id 11 0 K.length)).pv 10 ((PV.val (Value.int .i64 ((K.length:Nat)))))).pv 19 (.vec id 11 0 K.length)).pv 20 ((PV.val (Value.int .i64 ((K.length:Nat)))))).pv 21 ((PV.val (Value.int .i64 ((i.1:Nat))))))) (λi=>K.length-i.1) ⟨0,by omega,by omega⟩ ?_ (λi=> ?_)
 ·(((repeat (first|refine Sub.pv ?_ rfl|refine Sub.var ?_ rfl rfl));(exact Sub.nil _ _ _ (zsr _) rfl)))
 obtain ⟨i,hi,hI⟩:=i
 dsimp only
 have hins:=λ(k:Nat) (hk:k<=K.length) (st2:aI) (hst:st2 id=some (.arr 190 (K.map Pt.cells)))=>ahH K [ptN v d] k id K.length st2 hst rfl hk (by simp) (by simp;omega)
 by_cases hend:K.length<=i
 ·have e:=amZ (f:=λp:Pt=>bH p.dot d) λj hj=>hI j hj (by omega)
  rw [e]
  (try apply wO pk;rfl);(repeat' first|refine aC ?_;exact ⟨_,_,upd st id2 (some (.arr 190 ((dP K K.length [ptN v d]).map Pt.cells))),rfl,zwr _,mH hid,id2,rfl,gR hid hid2,rfl⟩|show Cn _;constructor|apply wC pk;rfl;rfl|apply wE pk;rfl;rfl|refine aB rfl ?_ ?_<;>intro h<;>(try simp at h)<;>try omega|(apply cD;rfl;rfl;(apply (hins K.length (Nat.le_refl _) _ (aA _ _ _))<;>first|exact aA _ _ _|assumption|omega|(fail));rfl;rfl;rfl;intro _ st' hR;obtain ⟨id2,rfl,hid2,rfl⟩:=hR))
 have hil:i<K.length:=by omega
 have hby:=adW K[i].dot d
 have hpos:=aqG K[i].dot d
 cases hb:bH K[i].dot d with
 |true=>
  have e:=apM (f:=λp:Pt=>bH p.dot d) hil hb hI
  rw [e]
  rw [hb] at hpos
  have hpos:byD K[i].dot d>0:=by simpa using hpos
  generalize byD K[i].dot d=B at*
  (try apply wO pk;rfl);(repeat' first|refine aC ?_;exact ⟨_,_,upd st id2 (some (.arr 190 ((dP K i [ptN v d]).map Pt.cells))),rfl,zwr _,mH hid,id2,rfl,gR hid hid2,rfl⟩|show Cn _;constructor|apply wC pk;rfl;rfl|apply wE pk;rfl;rfl|refine aB rfl ?_ ?_<;>intro h<;>(try simp at h)<;>try omega|(apply aH;rfl;rfl;rfl;(intro _;apply hby<;>first|assumption|omega);rotate_left;rfl;rfl)|apply ldL pk Pt.elem (a:=K[i]);rfl;rfl;rotate_left;rfl;(exact aA _ _ _);(intro _;exact (zgg hil));rfl|apply ixA pk;(iterate 5 rfl);rotate_left;rfl;(intro hw;(exact (show _=((i:Nat):Int) from by omega)));(intro hw;(omega));rfl;(exact Nat.zero_add _)|(apply cD;rfl;rfl;(apply (hins i hi _ (aA _ _ _))<;>first|exact aA _ _ _|assumption|omega|(fail));rfl;rfl;rfl;intro _ st' hR;obtain ⟨id2,rfl,hid2,rfl⟩:=hR))
 |false=>
  rw [hb] at hpos
  have hpos:¬byD K[i].dot d>0:=by simpa using hpos
  have hI2:∀j (h:j<K.length),j<i+1->bH K[j].dot d=false:=λj hj hji=>by
   rcases zls.1 hji with q|q
   ·exact hI j hj q
   ·subst q;exact hb
  generalize byD K[i].dot d=B at*
  (try apply wO pk;rfl);(repeat' first|show Cn _;constructor|apply wC pk;rfl;rfl|apply wE pk;rfl;rfl|refine aB rfl ?_ ?_<;>intro h<;>(try simp at h)<;>try omega|(apply aH;rfl;rfl;rfl;(intro _;apply hby<;>first|assumption|omega);rotate_left;rfl;rfl)|apply ldL pk Pt.elem (a:=K[i]);rfl;rfl;rotate_left;rfl;(exact aA _ _ _);(intro _;exact (zgg hil));rfl|apply ixA pk;(iterate 5 rfl);rotate_left;rfl;(intro hw;(exact (show _=((i:Nat):Int) from by omega)));(intro hw;(omega));rfl;(exact Nat.zero_add _)|(refine ⟨⟨i+1,by omega,hI2⟩, ?_,by simp only;omega⟩;(((repeat (first|refine Sub.pv ?_ rfl|refine Sub.var ?_ rfl rfl));(exact Sub.nil _ _ _ (zsr _) rfl))))|intros;(try simp only [zql]);omega)
theorem xQ (c:Cl) (v:Vl) (d:Dt) (kn:List Int) (hl:c.parts.length<1000000000) (hk:kn.length<1000000000000):PF Tryz.prog 242 [.agg c.cells, .agg v.cells, .agg d.cells, .seq (kn.map I1)] (.agg (gW c v d kn).cells):=aqS (awA c v d kn hl hk)
def atQ (n:Int) (d:Dt):List Value:=[.int .i64 n, .int .i64 d.dev, .int .i64 d.seq]
theorem aB4 (n:Int) (d:Dt) (p:Pt):decide (ahI (ptN (nV n) d) p=0)=rF n d p:=by
 unfold ahI rF iA ptN nV
 simp only [orI]
 rw [Bool.eq_iff_iff]
 simp only [zde,zba,Dt.ext_iff]
 grind
theorem aCs (c:Cl) (n:Int) (d:Dt) (hl:c.parts.length<1000000000) (st:aI):PC Tryz.prog 246 [.agg c.cells,(.val (.int .i64 n)), .agg d.cells] st (atY st (nD c n d)):=by
 have hcl:=vK c.parts
 have hah:=λp=>aqI (ptN (nV n) d) p
 have hz:=aB4 n d
 have hng:=λp=>aBF (ptN (nV n) d) p
 refine cB aF Tryz.func246 (by kernel_rfl) rfl rfl rfl rfl ?_
 focus ((try apply wO pk;rfl);(repeat' first|show Cn _;constructor|apply wE pk;rfl;rfl|apply mkB (xs:=atQ n d);iterate 4 rfl))
 refine aK (X:={x:Nat×Nat//x.1<=c.parts.length/\(∀j (h:j<c.parts.length),j<x.1->rF n d c.parts[j]=false)/\((x.2=c.parts.length/\∀j (h:j<c.parts.length),j<x.1->dK c.parts[j] (ptN (nV n) d)=false)\/(∃h:x.2<c.parts.length,dK c.parts[x.2] (ptN (nV n) d)=true/\∀j (h:j<c.parts.length),j<x.2->dK c.parts[j] (ptN (nV n) d)=false))}) (λi=>((((((((((St.nil 65 st).pv 1 ((PV.val (Value.int .i64 (n))))).var 3 80 (c.cells)).var 5 59 (d.cells)).var 6 80 ([(PV.val (Value.int .i64 (0))),(PV.val (Value.int .i64 (0))),(PV.val (Value.int .i64 (0))),(PV.val (Value.string (e0))), .val (.slice none 0 0)])).pv 8 (.val (ahZ 273 (atQ n d)))).pv 9 ((PV.val (Value.int .i64 ((i.1.2:Nat)))))).pv 22 (.seq (c.parts.map Pt.cells))).pv 23 ((PV.val (Value.int .i64 (((c.parts.map Pt.cells).length:Nat)))))).pv 24 ((PV.val (Value.int .i64 ((i.1.1:Nat))))))) (λi=>c.parts.length-i.1.1) ⟨(0,c.parts.length),by simp,by simp, .inl ⟨rfl,by simp⟩⟩ ?_ (λi=> ?_)
 ·((repeat (first|refine Sub.pv ?_ rfl|refine Sub.var ?_ rfl rfl|refine Sub.pv' ?_ rfl (by first|rfl|simp)));exact Sub.nil _ _ _ (zsr _) rfl)
 obtain ⟨⟨i,a⟩,hi,hs,ha⟩:=i
 simp only at hi hs ha
 dsimp only
 by_cases hend:c.parts.length<=i
 ·have hno:¬c.parts.any (rF n d)=true:=by
   rw [List.any_eq_true]
   rintro ⟨p,hp,q⟩
   obtain ⟨j,hj,rfl⟩:=zgo hp
   rw [hs j hj (by omega)] at q;cases q
  have hal:a<=c.parts.length/\abW (λp=>dK p (ptN (nV n) d)) c.parts=a:=by
   rcases ha with ⟨q1,q2⟩|⟨q1,q2,q3⟩
   ·subst q1;exact ⟨Nat.le_refl _,amZ λj hj=>q2 j hj (by omega)⟩
   ·exact ⟨by omega,apM q1 q2 q3⟩
  unfold atY nD
  rw [zn hno,hal.2]
  have hal:=hal.1
  dsimp only
  have hins:=λ(id:Nat) (st2:aI) (hst:st2 id=some (.arr 190 (c.parts.map Pt.cells)))=>ahH c.parts [ptN (nV n) d] a id c.parts.length st2 hst rfl hal (by simp) (by simp;omega)
  (try apply wO pk;rfl);(repeat' first|refine aC ?_;exact ⟨_,_,upd st id2 (some (.arr 190 ((dP c.parts a [ptN (nV n) d]).map Pt.cells))),rfl,zwr _,mH hid,id2,rfl,gR hid hid2,rfl⟩|apply wDO pk [0,1,3,4,5,6,7,8,2,9,10,11] [2,9] [] [8,9] [];rfl;rfl;kernel_rfl;rfl;rfl|show Cn _;constructor|apply wC pk;rfl;rfl|apply wE pk;rfl;rfl|refine aB rfl ?_ ?_<;>intro h<;>(try simp at h)<;>try omega|(apply cD;rfl;rfl;(apply (hcl _ (by omega))<;>first|exact aA _ _ _|assumption|omega|(fail));rfl;rfl;rfl;intro _ st' hR;obtain ⟨id,rfl,hid,rfl⟩:=hR)|(apply cD;rfl;rfl;(apply (hins id _ (aA _ _ _))<;>first|exact aA _ _ _|assumption|omega|(fail));rfl;rfl;rfl;intro _ st' hR;obtain ⟨id2,rfl,hid2,rfl⟩:=hR))
 have hil:i<c.parts.length:=by omega
 have hah:=hah c.parts[i]
 have hz:=hz c.parts[i]
 have hng:=hng c.parts[i]
 have hof:=uN c.parts[i]
 by_cases hsm:rF n d c.parts[i]=true
 ·rw [hsm] at hz
  have hz:ahI (ptN (nV n) d) c.parts[i]=0:=by simpa using hz
  rw [hz] at hah
  have hyes:c.parts.any (rF n d)=true:=List.any_eq_true.2 ⟨_,zgm hil,hsm⟩
  unfold atY nD
  rw [zp hyes]
  (try apply wO pk;rfl);(repeat' first|show Cn _;constructor|apply wC pk;rfl;rfl|apply wE pk;rfl;rfl|refine aB rfl ?_ ?_<;>intro h<;>(try simp at h)<;>try omega|(try refine aC ?_);((refine ⟨_,_,_,rfl,zwr _,zsr _, ?_⟩;(exact ⟨id,rfl,hid,rfl⟩);done))|(apply aH;rfl;rfl;rfl;(intro _;apply hof<;>first|assumption|omega);rotate_left;rfl;rfl)|apply aP pk;(iterate 6 rfl);rotate_left;rfl;(intro hw;rfl);(intro hw;apply aJ<;>omega);(intro _;rfl);rfl|(apply cD;rfl;rfl;(apply (hcl _ (by omega))<;>first|exact aA _ _ _|assumption|omega|(fail));rfl;rfl;rfl;intro _ st' hR;obtain ⟨id,rfl,hid,rfl⟩:=hR)|apply aqQ (xs:=atQ n d);rfl;rfl;exact hah;rfl;rfl;rfl)
 have hsm0:rF n d c.parts[i]=false:=by simpa using hsm
 have hs2:∀j (h:j<c.parts.length),j<i+1->rF n d c.parts[j]=false:=λj hj hji=>by
  rcases zls.1 hji with q|q
  ·exact hs j hj q
  ·subst q;exact hsm0
 rw [hsm0] at hz
 have hz:¬ahI (ptN (nV n) d) c.parts[i]=0:=by simpa using hz
 have hbeh:dK c.parts[i] (ptN (nV n) d)=decide (ahI (ptN (nV n) d) c.parts[i]<0):=by
  cases hB:dK c.parts[i] (ptN (nV n) d) with
  |true=>
   rw [hB] at hng
   have:=of_decide_eq_false hng
   exact (decide_eq_true (by omega)).symm
  |false=>
   rw [hB] at hng
   have:=of_decide_eq_true hng
   exact (decide_eq_false (by omega)).symm
 clear hng
 generalize ahI (ptN (nV n) d) c.parts[i]=O at*
 by_cases hneg:O<0
 ·rw [decide_eq_true hneg] at hbeh
  by_cases hae:a=c.parts.length
  ·have ha2:∀j (h:j<c.parts.length),j<i->dK c.parts[j] (ptN (nV n) d)=false:=by
    rcases ha with ⟨_,q⟩|⟨q,_⟩
    ·exact q
    ·omega
   (try apply wO pk;rfl);(repeat' first|show Cn _;constructor|apply wC pk;rfl;rfl|apply wE pk;rfl;rfl|refine aB rfl ?_ ?_<;>intro h<;>(try simp at h)<;>try omega|(apply aH;rfl;rfl;rfl;(intro _;apply hof<;>first|assumption|omega);rotate_left;rfl;rfl)|apply aP pk;(iterate 6 rfl);rotate_left;rfl;(intro hw;rfl);(intro hw;apply aJ<;>omega);(intro _;rfl);rfl|apply aqQ (xs:=atQ n d);rfl;rfl;exact hah;rfl;rfl;rfl|(refine ⟨⟨(i+1,i),by simp only;omega,hs2, .inr ⟨hil,hbeh,ha2⟩⟩, ?_,by simp only;omega⟩;((repeat (first|refine Sub.pv ?_ rfl|refine Sub.var ?_ rfl rfl));exact Sub.nil _ _ _ (zsr _) rfl))|intros;(try simp only [zql]);omega)
  ·have ha2:∃h:a<c.parts.length,dK c.parts[a] (ptN (nV n) d)=true/\∀j (h:j<c.parts.length),j<a->dK c.parts[j] (ptN (nV n) d)=false:=by
    rcases ha with ⟨q,_⟩|q
    ·exact absurd q hae
    ·exact q
   (try apply wO pk;rfl);(repeat' first|show Cn _;constructor|apply wC pk;rfl;rfl|apply wE pk;rfl;rfl|refine aB rfl ?_ ?_<;>intro h<;>(try simp at h)<;>try omega|(apply aH;rfl;rfl;rfl;(intro _;apply hof<;>first|assumption|omega);rotate_left;rfl;rfl)|apply aP pk;(iterate 6 rfl);rotate_left;rfl;(intro hw;rfl);(intro hw;apply aJ<;>omega);(intro _;rfl);rfl|apply aqQ (xs:=atQ n d);rfl;rfl;exact hah;rfl;rfl;rfl|(refine ⟨⟨(i+1,a),by simp only;omega,hs2, .inr ha2⟩, ?_,by simp only;omega⟩;((repeat (first|refine Sub.pv ?_ rfl|refine Sub.var ?_ rfl rfl));exact Sub.nil _ _ _ (zsr _) rfl))|intros;(try simp only [zql]);omega)
 ·rw [decide_eq_false hneg] at hbeh
  have ha2:(a=c.parts.length/\∀j (h:j<c.parts.length),j<i+1->dK c.parts[j] (ptN (nV n) d)=false)\/∃h:a<c.parts.length,dK c.parts[a] (ptN (nV n) d)=true/\∀j (h:j<c.parts.length),j<a->dK c.parts[j] (ptN (nV n) d)=false:=by
   rcases ha with ⟨q1,q2⟩|q
   ·refine .inl ⟨q1,λj hj hji=> ?_⟩
    rcases zls.1 hji with q|q
    ·exact q2 j hj q
    ·subst q;exact hbeh
   ·exact .inr q
  (try apply wO pk;rfl);(repeat' first|show Cn _;constructor|apply wC pk;rfl;rfl|apply wE pk;rfl;rfl|refine aB rfl ?_ ?_<;>intro h<;>(try simp at h)<;>try omega|(apply aH;rfl;rfl;rfl;(intro _;apply hof<;>first|assumption|omega);rotate_left;rfl;rfl)|apply aP pk;(iterate 6 rfl);rotate_left;rfl;(intro hw;rfl);(intro hw;apply aJ<;>omega);(intro _;rfl);rfl|apply aqQ (xs:=atQ n d);rfl;rfl;exact hah;rfl;rfl;rfl|(refine ⟨⟨(i+1,a),by simp only;omega,hs2,ha2⟩, ?_,by simp only;omega⟩;((repeat (first|refine Sub.pv ?_ rfl|refine Sub.var ?_ rfl rfl));exact Sub.nil _ _ _ (zsr _) rfl))|intros;(try simp only [zql]);omega)
theorem aaH (c:Cl) (n:Int) (d:Dt) (hl:c.parts.length<1000000000):PF Tryz.prog 246 [.agg c.cells,(.val (.int .i64 n)), .agg d.cells] (.agg (nD c n d).cells):=aqS (aCs c n d hl)
theorem abP (c e:Cl):PF Tryz.prog 112 [.seq [c.cells,e.cells]] (.val (.int .i64 (if cJ c≠0 then cJ c else cJ e))):=by
 have hc:=lP c
 have he:=lP e
 generalize cJ c=R at*
 generalize cJ e=Q at*
 refine aG aF Tryz.func112 (by kernel_rfl) rfl rfl rfl rfl (λst=> ?_)
 (try apply wO pk;rfl);(repeat' ((show Cn _;constructor)))
 refine aK (X:={x:Nat//x<=2/\(0<x->R=0)/\(x=2->Q=0)}) (λi=>((((St.nil 18 st).pv 6 (.seq [c.cells,e.cells])).pv 7 ((PV.val (Value.int .i64 ((([c.cells,e.cells]).length:Nat)))))).pv 8 ((PV.val (Value.int .i64 ((i.1:Nat))))))) (λi=>2-i.1) ⟨0,by omega,by omega,by omega⟩ ?_ (λi=> ?_)
 ·((repeat refine Sub.pv ?_ rfl);exact Sub.nil _ _ _ (zsr _) rfl)
 obtain ⟨i,h1,hinv,hinv2⟩:=i
 dsimp only
 rcases (show i=0\/i=1\/i=2 by omega) with rfl|rfl|rfl
 ·by_cases hR:R=0
  ·(try apply wO pk;rfl);(repeat' first|show Cn _;constructor|apply wC pk;rfl;rfl|apply wE pk;rfl;rfl|refine aB rfl ?_ ?_<;>intro h<;>(try simp at h)<;>try omega|(apply aH;rfl;rfl;rfl;(intro _;apply hc<;>first|assumption|omega);rotate_left;rfl;rfl)|apply aP pk;(iterate 6 rfl);rotate_left;rfl;(intro hw;rfl);(intro hw;apply (rfl:([c.cells,e.cells]:List (List PV))[0]?=some c.cells)<;>omega);(intro _;rfl);rfl|refine ⟨⟨1,by omega,λ_=>hR,by omega⟩, ?_,by simp only;omega⟩;((repeat refine Sub.pv ?_ rfl);exact Sub.nil _ _ _ (zsr _) rfl)|intros;(try simp only [zql]);omega)
  ·(try apply wO pk;rfl);(repeat' first|show Cn _;constructor|apply wC pk;rfl;rfl|apply wE pk;rfl;rfl|refine aB rfl ?_ ?_<;>intro h<;>(try simp at h)<;>try omega|(refine aC ?_;refine ⟨_,_,_,rfl,zwr _,zsr _, ?_,rfl⟩;try first|rfl|(rw [zp hR]);done)|(apply aH;rfl;rfl;rfl;(intro _;apply hc<;>first|assumption|omega);rotate_left;rfl;rfl)|apply aP pk;(iterate 6 rfl);rotate_left;rfl;(intro hw;rfl);(intro hw;apply (rfl:([c.cells,e.cells]:List (List PV))[0]?=some c.cells)<;>omega);(intro _;rfl);rfl)
 ·have h0:=hinv (by omega)
  by_cases hQ:Q=0
  ·(try apply wO pk;rfl);(repeat' first|show Cn _;constructor|apply wC pk;rfl;rfl|apply wE pk;rfl;rfl|refine aB rfl ?_ ?_<;>intro h<;>(try simp at h)<;>try omega|(apply aH;rfl;rfl;rfl;(intro _;apply he<;>first|assumption|omega);rotate_left;rfl;rfl)|apply aP pk;(iterate 6 rfl);rotate_left;rfl;(intro hw;rfl);(intro hw;apply (rfl:([c.cells,e.cells]:List (List PV))[1]?=some e.cells)<;>omega);(intro _;rfl);rfl|refine ⟨⟨2,by omega,λ_=>h0,λ_=>hQ⟩, ?_,by simp only;omega⟩;((repeat refine Sub.pv ?_ rfl);exact Sub.nil _ _ _ (zsr _) rfl)|intros;(try simp only [zql]);omega)
  ·(try apply wO pk;rfl);(repeat' first|show Cn _;constructor|apply wC pk;rfl;rfl|apply wE pk;rfl;rfl|refine aB rfl ?_ ?_<;>intro h<;>(try simp at h)<;>try omega|(refine aC ?_;refine ⟨_,_,_,rfl,zwr _,zsr _, ?_,rfl⟩;try first|rfl|(rw [zn (by omega)]);done)|(apply aH;rfl;rfl;rfl;(intro _;apply he<;>first|assumption|omega);rotate_left;rfl;rfl)|apply aP pk;(iterate 6 rfl);rotate_left;rfl;(intro hw;rfl);(intro hw;apply (rfl:([c.cells,e.cells]:List (List PV))[1]?=some e.cells)<;>omega);(intro _;rfl);rfl)
 ·have h0:=hinv (by omega)
  have h2:=hinv2 rfl
  (try apply wO pk;rfl);(repeat' first|show Cn _;constructor|apply wC pk;rfl;rfl|refine aB rfl ?_ ?_<;>intro h<;>(try simp at h)<;>try omega|(refine aC ?_;refine ⟨_,_,_,rfl,zwr _,zsr _, ?_,rfl⟩;try first|rfl|(rw [zn (by omega),h2]);done))
def xX (r:Cl×Int):PV:= .tup [.agg r.1.cells,(PV.val (Value.int .i64 (r.2)))]
theorem aEX (e:Int):Wk (.tup [.agg [(PV.val (Value.int .i64 (0))),(PV.val (Value.int .i64 (0))),(PV.val (Value.int .i64 (0))), .val (.string e0), .val (.slice none 0 0)],(PV.val (Value.int .i64 (e)))]) (xX (Cl.zero,e)):=Wk.tup (.cons wkz (.cons (zwr _) .nil))
theorem avD (c:Cl):PF Tryz.prog 317 [.agg c.cells] (xX (if cJ c≠0 then (Cl.zero,cJ c) else (c,0))):=by
 have hc:=tM c
 generalize cJ c=R at*
 by_cases hR:R≠0
 ·rw [zp hR]
  refine aG aF Tryz.func317 (by kernel_rfl) rfl rfl rfl rfl (λst=> ?_)
  (try apply wO pk;rfl);(repeat' first|refine aC ?_;exact ⟨_,_,_,rfl,aEX _,zsr _,rfl,rfl⟩|show Cn _;constructor|apply wC pk;rfl;rfl|apply wE pk;rfl;rfl|refine aB rfl ?_ ?_<;>intro h<;>(try simp at h)<;>try omega|(apply aH;rfl;rfl;rfl;(intro _;apply hc<;>first|assumption|omega);rotate_left;rfl;rfl))
 ·rw [zn hR]
  refine aG aF Tryz.func317 (by kernel_rfl) rfl rfl rfl rfl (λst=> ?_)
  (try apply wO pk;rfl);(repeat' first|show Cn _;constructor|apply wC pk;rfl;rfl|apply wE pk;rfl;rfl|refine aB rfl ?_ ?_<;>intro h<;>(try simp at h)<;>try omega|(refine aC ?_;refine ⟨_,_,_,rfl,zwr _,zsr _, ?_,rfl⟩;try rfl)|(apply aH;rfl;rfl;rfl;(intro _;apply hc<;>first|assumption|omega);rotate_left;rfl;rfl))
theorem auB {c:Cl} (h:cJ c=0): -1099511627776<=c.val.n/\c.val.n<=1099511627776:=by
 unfold cJ at h
 split at h
 ·cases h
 ·split at h
  ·cases h
  ·split at h
   ·cases h
   ·omega
theorem acW (c:Cl) (n:Int) (hn:inL n):PF Tryz.prog 244 [.agg c.cells,(.val (.int .i64 n))] (xX (sX c n)):=by
 have h1:=uR [n] (by simp) (by simpa using hn)
 rw [show ([n]:List Int).sum=n from by simp] at h1
 have h2:=abP c (oM n)
 unfold sX
 by_cases hc:cJ c≠0
 ·rw [zp hc] at h2⊢
  generalize cJ c=R at*
  refine aG aF Tryz.func244 (by kernel_rfl) rfl rfl rfl rfl (λst=> ?_)
  (try apply wO pk;rfl);(repeat' first|refine aC ?_;exact ⟨_,_,_,rfl,aEX _,zsr _,rfl,rfl⟩|show Cn _;constructor|apply wC pk;rfl;rfl|apply wE pk;rfl;rfl|apply wD pk [] [];kernel_rfl;rfl;rfl|refine aB rfl ?_ ?_<;>intro h<;>(try simp at h)<;>try omega|(apply aH;rfl;rfl;rfl;(intro _;(first|apply h1|apply h2)<;>first|assumption|omega);rotate_left;rfl;rfl))
 rw [zn hc] at h2⊢
 have hc:=zdn hc
 by_cases hd:cJ (oM n)≠0
 ·rw [zp hd]
  generalize cJ (oM n)=R at*
  refine aG aF Tryz.func244 (by kernel_rfl) rfl rfl rfl rfl (λst=> ?_)
  (try apply wO pk;rfl);(repeat' first|refine aC ?_;exact ⟨_,_,_,rfl,aEX _,zsr _,rfl,rfl⟩|show Cn _;constructor|apply wC pk;rfl;rfl|apply wE pk;rfl;rfl|apply wD pk [] [];kernel_rfl;rfl;rfl|refine aB rfl ?_ ?_<;>intro h<;>(try simp at h)<;>try omega|(apply aH;rfl;rfl;rfl;(intro _;(first|apply h1|apply h2)<;>first|assumption|omega);rotate_left;rfl;rfl))
 rw [zn hd]
 have hd:=zdn hd
 rw [hd] at h2
 have hci:=auB hc
 have h3:=uR [c.val.n,n] (by simp) (λx hx=>by
  rcases zmc.1 hx with rfl|hx
  ·unfold inL;omega
  ·rw [zms.1 hx];exact hn)
 rw [show ([c.val.n,n]:List Int).sum=c.val.n+n from by simp] at h3
 have h4:=avD (oM (c.val.n+n))
 generalize oM (c.val.n+n)=D at*
 by_cases he:cJ D≠0
 ·rw [zp he] at h4⊢
  generalize cJ D=R at*
  refine aG aF Tryz.func244 (by kernel_rfl) rfl rfl rfl rfl (λst=> ?_)
  (try apply wO pk;rfl);(repeat' first|show Cn _;constructor|apply wC pk;rfl;rfl|apply wE pk;rfl;rfl|apply wD pk [] [];kernel_rfl;rfl;rfl|refine aB rfl ?_ ?_<;>intro h<;>(try simp at h)<;>try omega|(refine aC ?_;refine ⟨_,_,_,rfl,zwr _,zsr _, ?_,rfl⟩;try rfl)|(apply aH;rfl;rfl;rfl;(intro _;(first|apply h1|apply h2|apply h3|apply h4)<;>first|assumption|omega);rotate_left;rfl;rfl))
 ·rw [zn he] at h4⊢
  refine aG aF Tryz.func244 (by kernel_rfl) rfl rfl rfl rfl (λst=> ?_)
  (try apply wO pk;rfl);(repeat' first|show Cn _;constructor|apply wC pk;rfl;rfl|apply wE pk;rfl;rfl|apply wD pk [] [];kernel_rfl;rfl;rfl|refine aB rfl ?_ ?_<;>intro h<;>(try simp at h)<;>try omega|(refine aC ?_;refine ⟨_,_,_,rfl,zwr _,zsr _, ?_,rfl⟩;try rfl)|(apply aH;rfl;rfl;rfl;(intro _;(first|apply h1|apply h2|apply h3|apply h4)<;>first|assumption|omega);rotate_left;rfl;rfl))
theorem avN :PF Tryz.prog 304 [] (.agg (oM 0).cells):=by
 have h:=uR [] (by simp) (by simp)
 refine aG aF Tryz.func304 (by kernel_rfl) rfl rfl rfl rfl (λst=> ?_)
 (try apply wO pk;rfl);(repeat' first|show Cn _;constructor|apply wE pk;rfl;rfl|(refine aC ?_;refine ⟨_,_,_,rfl,zwr _,zsr _, ?_,rfl⟩;try rfl)|(apply arG (qs:=[.seq []]) (p:= .agg (oM 0).cells);rfl;rfl;rfl;exact (WkL.cons Wk.nil .nil);(intro _;exact h);(focus repeat' constructor);rfl);rfl)
theorem wkN (k:Int):Wk (.agg [(PV.val (Value.int .i64 (k))),(PV.val (Value.int .i64 (0))),(PV.val (Value.int .i64 (0))), .val (.string e0), .val (.slice none 0 0)]) (.agg (Cl.mk k Vl.zero []).cells):= .agg (.cons (zwr _) (.cons (zwr _) (.cons (zwr _) (.cons (zwr _) (.cons Wk.nil .nil)))))
theorem avM :PF Tryz.prog 305 [] (.agg (Cl.mk 4 Vl.zero []).cells):=by
 refine aG aF Tryz.func305 (by kernel_rfl) rfl rfl rfl rfl (λst=> ?_)
 (try apply wO pk;rfl);(repeat' first|refine aC ?_;exact ⟨_,_,_,rfl,wkN 4,zsr _,rfl,rfl⟩|show Cn _;constructor)
theorem iJ (w:Wr):PF Tryz.prog 157 [.agg w.cells] (.agg w.dot.cells):=by
 refine aG aF Tryz.func157 (by kernel_rfl) rfl rfl rfl rfl (λst=> ?_)
 (try apply wO pk;rfl);(repeat' first|show Cn _;constructor|(refine aC ?_;refine ⟨_,_,_,rfl,zwr _,zsr _, ?_,rfl⟩;try rfl))
theorem wkV (v:Vl) (e:Int):Wk (.tup [.agg [(PV.val (Value.int .i64 (0))),(PV.val (Value.int .i64 (v.kind))),(PV.val (Value.int .i64 (v.n))),(PV.val (Value.string (v.s))), .val (.slice none 0 0)],(PV.val (Value.int .i64 (e)))]) (xX (⟨0,v,[]⟩,e)):=Wk.tup (.cons (.agg (.cons (zwr _) (.cons (zwr _) (.cons (zwr _) (.cons (zwr _) (.cons Wk.nil .nil)))))) (.cons (zwr _) .nil))
theorem aGR (k e:Int):Wk (.tup [.agg [(PV.val (Value.int .i64 (k))),(PV.val (Value.int .i64 (0))),(PV.val (Value.int .i64 (0))), .val (.string e0), .val (.slice none 0 0)],(PV.val (Value.int .i64 (e)))]) (xX (⟨k,Vl.zero,[]⟩,e)):=Wk.tup (.cons (wkN k) (.cons (zwr _) .nil))
theorem apC (w:Wr) (kind:Int) (v:Vl) (hv:inL v.n) (hs:v.s.size<1000000) (hk:w.knew.length<1000000000000):PF Tryz.prog 233 [.agg w.cells,(.val (.int .i64 kind)), .agg v.cells] (xX (kG w kind v)):=by
 have hd:=iJ w
 unfold kG
 by_cases k0:kind=0
 ·rw [zp k0]
  refine aG aF Tryz.func233 (by kernel_rfl) rfl rfl rfl rfl (λst=> ?_)
  (try apply wO pk;rfl);(repeat' first|refine aC ?_;exact ⟨_,_,_,rfl,wkV v 0,zsr _,rfl,rfl⟩|show Cn _;constructor|apply wC pk;rfl;rfl|apply wD pk [] [];kernel_rfl;rfl;rfl|refine aB rfl ?_ ?_<;>intro h<;>(try simp at h)<;>try omega)
 rw [zn k0]
 by_cases k2:kind=2
 ·rw [zp k2]
  have ha:=acW (oM 0) v.n hv
  generalize sX (oM 0) v.n=R at*
  refine aG aF Tryz.func233 (by kernel_rfl) rfl rfl rfl rfl (λst=> ?_)
  (try apply wO pk;rfl);(repeat' first|show Cn _;constructor|apply wC pk;rfl;rfl|apply wE pk;rfl;rfl|apply wD pk [] [];kernel_rfl;rfl;rfl|refine aB rfl ?_ ?_<;>intro h<;>(try simp at h)<;>try omega|(refine aC ?_;refine ⟨_,_,_,rfl,zwr _,zsr _, ?_,rfl⟩;try rfl)|(apply aH;rfl;rfl;rfl;(intro _;(first|apply avN|apply ha)<;>first|assumption|omega);rotate_left;rfl;rfl))
 rw [zn k2]
 by_cases k4:kind=4
 ·rw [zp k4]
  have ht:=T.type_spec ⟨4,Vl.zero,[]⟩ v.s w.who Dt.zero 0 (by simp) hs
  rw [show (⟨Dt.zero,0⟩:T.Nm)=T.Nm.zero from rfl] at ht
  generalize T.typeP ⟨4,Vl.zero,[]⟩ v.s w.who T.Nm.zero=R at*
  refine aG aF Tryz.func233 (by kernel_rfl) rfl rfl rfl rfl (λst=> ?_)
  (try apply wO pk;rfl);(repeat' first|show Cn _;constructor|apply wC pk;rfl;rfl|apply wE pk;rfl;rfl|apply wD pk [] [];kernel_rfl;rfl;rfl|refine aB rfl ?_ ?_<;>intro h<;>(try simp at h)<;>try omega|(refine aC ?_;refine ⟨_,_,_,rfl,zwr _,zsr _, ?_,rfl⟩;try rfl)|(apply aH;rfl;rfl;rfl;(intro _;(first|apply avM|apply ht)<;>first|assumption|omega);rotate_left;rfl;rfl))
 rw [zn k4]
 by_cases v0:v.kind=0
 ·rw [zp v0]
  refine aG aF Tryz.func233 (by kernel_rfl) rfl rfl rfl rfl (λst=> ?_)
  (try apply wO pk;rfl);(repeat' first|refine aC ?_;exact ⟨_,_,_,rfl,aGR kind 0,zsr _,rfl,rfl⟩|show Cn _;constructor|apply wC pk;rfl;rfl|apply wD pk [] [];kernel_rfl;rfl;rfl|refine aB rfl ?_ ?_<;>intro h<;>(try simp at h)<;>try omega)
 rw [zn v0]
 by_cases k3:kind=3
 ·rw [zp k3]
  have hp:=aaH ⟨kind,Vl.zero,[]⟩ v.n w.dot (by simp)
  generalize nD ⟨kind,Vl.zero,[]⟩ v.n w.dot=R at*
  refine aG aF Tryz.func233 (by kernel_rfl) rfl rfl rfl rfl (λst=> ?_)
  (try apply wO pk;rfl);(repeat' first|show Cn _;constructor|apply wC pk;rfl;rfl|apply wE pk;rfl;rfl|apply wD pk [] [];kernel_rfl;rfl;rfl|refine aB rfl ?_ ?_<;>intro h<;>(try simp at h)<;>try omega|(refine aC ?_;refine ⟨_,_,_,rfl,zwr _,zsr _, ?_,rfl⟩;try rfl)|(apply aH;rfl;rfl;rfl;(intro _;apply hd<;>first|assumption|omega);rotate_left;rfl;rfl)|(apply arG (qs:=[.agg (Cl.mk kind Vl.zero []).cells,(PV.val (Value.int .i64 (v.n))), .agg w.dot.cells]) (p:= .agg R.cells);rfl;rfl;rfl;exact (WkL.cons (wkN kind) (.cons (zwr _) (.cons (zwr _) .nil)));(intro _;exact hp);(focus repeat' constructor);rfl);rfl)
 ·rw [zn k3]
  have hp:=xQ ⟨kind,Vl.zero,[]⟩ v w.dot w.knew (by simp) hk
  generalize gW ⟨kind,Vl.zero,[]⟩ v w.dot w.knew=R at*
  refine aG aF Tryz.func233 (by kernel_rfl) rfl rfl rfl rfl (λst=> ?_)
  (try apply wO pk;rfl);(repeat' first|show Cn _;constructor|apply wC pk;rfl;rfl|apply wE pk;rfl;rfl|apply wD pk [] [];kernel_rfl;rfl;rfl|refine aB rfl ?_ ?_<;>intro h<;>(try simp at h)<;>try omega|(refine aC ?_;refine ⟨_,_,_,rfl,zwr _,zsr _, ?_,rfl⟩;try rfl)|(apply aH;rfl;rfl;rfl;(intro _;apply hd<;>first|assumption|omega);rotate_left;rfl;rfl)|(apply arG (qs:=[.agg (Cl.mk kind Vl.zero []).cells, .agg v.cells, .agg w.dot.cells, .seq (w.knew.map I1)]) (p:= .agg R.cells);rfl;rfl;rfl;exact (WkL.cons (wkN kind) (.cons (zwr _) (.cons (zwr _) (.cons (zwr _) .nil))));(intro _;exact hp);(focus repeat' constructor);rfl);rfl)
def pF :Option (Nat×List Pt)->PV
 |none=> .val (.slice none 0 0)
 |some y=> .vec y.1 11 0 y.2.length
def mK :Option (Nat×List Pt)->List Pt
 |none=>[]
 |some y=>y.2
structure AccP (L:Nat->Prop) (S:aI) (id3:Nat) (a:Option (Nat×List Pt)):Prop where
 box:S id3=some (.cells 78 [pF a])
 arr:∀y,a=some y->S y.1=some (.arr 190 (y.2.map Pt.cells))/\¬L y.1
 out:¬L id3
theorem AccP.grow {L:Nat->Prop} {S S1:aI} {id3:Nat} {a:Option (Nat×List Pt)} (h:AccP L S id3 a) {i':Nat} {l':List Pt} (hi:S i'=none) (hL:∀j,L j->S j≠none)
  (hS:S1=upd (upd S i' (some (.arr 190 (l'.map Pt.cells)))) id3 (some (.cells 78 [pF (some (i',l'))]))\/∃y,a=some y/\S1=upd (upd (upd S y.1 none) i' (some (.arr 190 (l'.map Pt.cells)))) id3 (some (.cells 78 [pF (some (i',l'))]))):
  AccP L S1 id3 (some (i',l'))/\∀j,L j->S1 j=S j:=by
 have n3:i'≠id3:=λe=>by rw [e,h.box] at hi;cases hi
 have ni:¬L i':=λq=>hL i' q hi
 rcases hS with rfl|⟨y,ha,rfl⟩
 ·refine ⟨⟨aA _ _ _,λy e=> ?_,h.out⟩,λj hj=> ?_⟩
  ·injection e with e;subst e
   exact ⟨by rw [aD n3,aA],ni⟩
  ·rw [aD (λe=>h.out (by rw [<-e];exact hj)),aD (λe=>ni (by rw [<-e];exact hj))]
 ·refine ⟨⟨aA _ _ _,λy e=> ?_,h.out⟩,λj hj=> ?_⟩
  ·injection e with e;subst e
   exact ⟨by rw [aD n3,aA],ni⟩
  ·rw [aD (λe=>h.out (by rw [<-e];exact hj)),aD (λe=>ni (by rw [<-e];exact hj)),aD (λe=>(h.arr y ha).2 (by rw [<-e];exact hj))]
theorem AccP.move {L L':Nat->Prop} {S S1:aI} {id3:Nat} {a:Option (Nat×List Pt)} (h:AccP L S id3 a) (h3:S1 id3=S id3) (ha:∀y,a=some y->S1 y.1=S y.1/\¬L' y.1) (hL:¬L' id3):AccP L' S1 id3 a:=
 ⟨h3.trans h.box,λy e=>⟨(ha y e).1.trans (h.arr y e).1,(ha y e).2⟩,hL⟩
theorem AccP.round {L:Nat->Prop} {S S1:aI} {id3 idl:Nat} {a:Option (Nat×List Pt)} (h:AccP L S id3 a) (hl:L idl) (hL:∀j,L j->S j≠none) (busy ready:AObj) {i':Nat} {l':List Pt} (hi:upd S idl (some busy) i'=none)
  (hS:S1=upd (upd (upd S idl (some busy)) i' (some (.arr 190 (l'.map Pt.cells)))) id3 (some (.cells 78 [pF (some (i',l'))]))\/∃y,a=some y/\S1=upd (upd (upd (upd S idl (some busy)) y.1 none) i' (some (.arr 190 (l'.map Pt.cells)))) id3 (some (.cells 78 [pF (some (i',l'))]))):
  AccP L (upd S1 idl (some ready)) id3 (some (i',l'))/\S1 idl=some busy/\∀j,L j->j≠idl->upd S1 idl (some ready) j=S j:=by
 have n3:id3≠idl:=λe=>h.out (by rw [e];exact hl)
 have hb:AccP L (upd S idl (some busy)) id3 a:=h.move (aD n3) (λy e=>⟨aD λq=>(h.arr y e).2 (by rw [q];exact hl),(h.arr y e).2⟩) h.out
 have hLb:∀j,L j->upd S idl (some busy) j≠none:=λj hj=>by
  by_cases e:j=idl
  ·rw [e,aA];simp
  ·rw [aD e];exact hL j hj
 obtain ⟨g1,g2⟩:=hb.grow hi hLb hS
 refine ⟨g1.move (aD n3) (λy e=>⟨aD λq=>(g1.arr y e).2 (by rw [q];exact hl),(g1.arr y e).2⟩) g1.out,by rw [g2 idl hl,aA],λj hj hne=> ?_⟩
 rw [aD hne,g2 j hj,aD hne]
theorem azU {idl:Nat} (l:List Pt) (fid:FuncId) (caps:List PV) (f:Pt->Bool) (hl:l.length<1000000000) (hf:∀p,PF Tryz.prog fid ([.agg p.cells]++caps) (.val (.bool (f p)))) {st:aI} (J:Nat->aI->Prop) (h0:J 0 st)
  (h1:∀i S (h:i<l.length),J i S->f l[i]=false->J (i+1) S)
  (h2:∀i S (h:i<l.length),J i S->f l[i]=true->PY Tryz.prog idl [.agg l[i].cells] S λr S'=>r= .val (.bool true)/\J (i+1) S'):
  PC Tryz.prog 371 [.yld idl, .rp [.seq (l.map Pt.cells)], .rp [.fn fid caps]] st λ_ S=>J l.length S:=by
 refine cB aF Tryz.func371 (by kernel_rfl) rfl rfl rfl rfl ?_
 focus ((try apply wO pk;rfl);(repeat' ((show Cn _;constructor))))
 refine aK (X:={x:Nat×aI//x.1<=l.length/\J x.1 x.2}) (λi=>((((((St.nil 22 (i.1.2)).pv 0 (.yld idl)).pv 2 (.rp [.fn fid caps])).pv 6 (.seq (l.map Pt.cells))).pv 7 ((PV.val (Value.int .i64 (((l.map Pt.cells).length:Nat)))))).pv 8 ((PV.val (Value.int .i64 ((i.1.1:Nat))))))) (λi=>l.length-i.1.1) ⟨(0,st),by simp,h0⟩ ?_ (λi=> ?_)
 ·(((repeat refine Sub.pv ?_ rfl);(exact Sub.nil _ _ _ (zsr _) rfl)))
 obtain ⟨⟨i,S⟩,hi,hJ⟩:=i
 simp only at hi hJ
 dsimp only
 by_cases hend:l.length<=i
 ·have e:i=l.length:=by omega
  rw [e] at hJ
  (try apply wO pk;rfl);(repeat' first|show Cn _;constructor|apply wC pk;rfl;rfl|apply wX pk;rfl|refine aB rfl ?_ ?_<;>intro h<;>(try simp at h)<;>try omega|(try refine aC ?_);((refine ⟨_,_,_,rfl,zwr _,zsr _, ?_⟩;(exact hJ);done)))
 have hil:i<l.length:=by omega
 have hfi:=hf l[i]
 cases hb:f l[i] with
 |false=>
  have hn:=h1 i S hil hJ hb
  rw [hb] at hfi
  (try apply wO pk;rfl);(repeat' first|show Cn _;constructor|apply wC pk;rfl;rfl|apply wE pk;rfl;rfl|refine aB rfl ?_ ?_<;>intro h<;>(try simp at h)<;>try omega|(apply aH;rfl;rfl;rfl;(intro _;apply hfi<;>first|assumption|omega);rotate_left;rfl;rfl)|apply aP pk;(iterate 6 rfl);rotate_left;rfl;(intro hw;rfl);(intro hw;apply aJ<;>omega);(intro _;rfl);rfl|apply aGd (PV.val (Value.bool (false)));rfl;rfl;rfl|refine ⟨⟨(i+1,S),by simp only;omega,hn⟩, ?_,by simp only;omega⟩;((repeat refine Sub.pv ?_ rfl);exact Sub.nil _ _ _ (zsr _) rfl)|intros;(try simp only [zql]);omega)
 |true=>
  have hy:=h2 i S hil hJ hb
  rw [hb] at hfi
  (try apply wO pk;rfl);(repeat' first|show Cn _;constructor|apply wC pk;rfl;rfl|apply wE pk;rfl;rfl|refine aB rfl ?_ ?_<;>intro h<;>(try simp at h)<;>try omega|(apply aH;rfl;rfl;rfl;(intro _;apply hfi<;>first|assumption|omega);rotate_left;rfl;rfl)|apply aP pk;(iterate 6 rfl);rotate_left;rfl;(intro hw;rfl);(intro hw;apply aJ<;>omega);(intro _;rfl);rfl|(apply aEf;rfl;rfl;rfl;exact hy;rfl;rfl;rfl;rintro _ S' ⟨rfl,hJ'⟩)|refine ⟨⟨(i+1,S'),by simp only;omega,hJ'⟩, ?_,by simp only;omega⟩;((repeat refine Sub.pv ?_ rfl);exact Sub.nil _ _ _ (zsr _) rfl)|intros;(try simp only [zql]);omega)
theorem auJ (l:List Pt) (fid:FuncId) (caps:List PV):PF Tryz.prog 319 [.seq (l.map Pt.cells), .fn fid caps] (.fn 371 [.rp [.seq (l.map Pt.cells)], .rp [.fn fid caps]]):=by
 refine aG aF Tryz.func319 (by kernel_rfl) rfl rfl rfl rfl (λst=> ?_)
 (try apply wO pk;rfl);(repeat' first|show Cn _;constructor|apply wE pk;rfl;rfl|(refine aC ?_;refine ⟨_,_,_,rfl,zwr _,zsr _, ?_,rfl⟩;try rfl)|apply bD 2;rfl;rfl|apply bD 3;rfl;rfl)
theorem amG (n:Int) (d:Dt) (kn:List Int) (hk:kn.length<1000000000000) (p:Pt):PF Tryz.prog 320 ([.agg p.cells]++[.rp [(.val (.int .i64 n))], .rp d.cells, .rp [.seq (kn.map I1)]]) (.val (.bool (rO n d kn p))):=by
 have h:=aeF kn p.dot hk
 have e:rO n d kn p=(!decide (p.val.n=n)||(!(decide (p.dot.dev=d.dev)&&decide (p.dot.seq=d.seq))&& !alK kn p.dot)):=by unfold rO;rw [aGf];simp
 rw [e]
 generalize alK kn p.dot=H at*
 refine aG aF Tryz.func320 (by kernel_rfl) rfl rfl rfl rfl (λst=> ?_)
 (try apply wO pk;rfl);(repeat' first|show Cn _;constructor|apply wE pk;rfl;rfl|(refine aC ?_;refine ⟨_,_,_,rfl,zwr _,zsr _, ?_,rfl⟩;try rfl)|(apply aH;rfl;rfl;rfl;(intro _;apply h<;>first|assumption|omega);rotate_left;rfl;rfl))
structure TkJ (st0:aI) (lp:AObj) (idl id2:Nat) (m:List Pt) (S:aI):Prop where
 loop:S idl=some lp
 acc:∃b,AccP (λj=>st0 j≠none\/j=idl) S id2 b/\mK b=m
 old:∀j,st0 j≠none->S j=st0 j
theorem TkJ.live {st0 S:aI} {lp:AObj} {idl id2:Nat} {m:List Pt} (h:TkJ st0 lp idl id2 m S):∀j,st0 j≠none\/j=idl->S j≠none:=λj hj=>by
 rcases hj with hj|rfl
 ·rw [h.old j hj];exact hj
 ·rw [h.loop];simp
theorem aqO {l:List Pt} {f:Pt->Bool} {i:Nat} (h:i<l.length):(l.take (i+1)).filter f=(l.take i).filter f++if f l[i]=true then [l[i]] else []:=by
 rw [List.take_succ_eq_append_getElem h,List.filter_append]
 by_cases hf:f l[i]=true
 ·rw [zp hf];simp [hf]
 ·rw [zn hf];simp [hf]
theorem aCo (c:Cl) (n:Int) (d:Dt) (kn:List Int) (hl:c.parts.length<100000) (hk:kn.length<1000000000000) (st:aI):PC Tryz.prog 248 [.agg c.cells,(.val (.int .i64 n)), .agg d.cells, .seq (kn.map I1)] st λr S=>∃b,r= .agg [(.val (.int .i64 c.kind)),(.val (.int .i64 c.val.kind)),(.val (.int .i64 c.val.n)),(.val (.string c.val.s)),pF b]/\mK b=c.parts.filter (rO n d kn)/\(∀y,b=some y->S y.1=some (.arr 190 (y.2.map Pt.cells))/\st y.1=none)/\∀j,st j≠none->S j=st j:=by
 have hsp:=auJ c.parts 320 [.rp [(PV.val (Value.int .i64 (n)))], .rp d.cells, .rp [.seq (kn.map I1)]]
 have hkp:=amG n d kn hk
 refine cB aF Tryz.func248 (by kernel_rfl) rfl rfl rfl rfl ?_
 focus ((try apply wO pk;rfl);(repeat' first|show Cn _;constructor|apply wE pk;rfl;rfl|(apply aH;rfl;rfl;rfl;(intro _;apply hsp<;>first|assumption|omega);rotate_left;rfl;rfl)|apply bD 5;rfl;rfl|apply bD 6;rfl;rfl|apply bD 7;rfl;rfl))
 refine awR 9 rfl rfl λid2 h2=> ?_
 have h2:st id2=none:=h2
 refine aoS [(9, .ref id2 0)] rfl rfl ⟨rfl,trivial⟩ (λidl S=>∃b,mK b=c.parts.filter (rO n d kn)/\AccP (λj=>st j≠none) (upd S idl none) id2 b/\∀j,st j≠none->upd S idl none j=st j) ?_ ?_
 ·intro idl hidl
  have hidl:upd st id2 (some (.cells 78 [.val (.slice none 0 0)])) idl=none:=hidl
  have nl2:idl≠id2:=λe=>by rw [e,aA] at hidl;cases hidl
  have hsl:st idl=none:=by rwa [aD nl2] at hidl
  generalize hlp:AObj.loop _ _ _ _ _ _=lp
  have:=azU (idl:=idl) c.parts 320 [.rp [(PV.val (Value.int .i64 (n)))], .rp d.cells, .rp [.seq (kn.map I1)]] (rO n d kn) (by omega) hkp (st:=upd (upd st id2 (some (.cells 78 [.val (.slice none 0 0)]))) idl (some lp)) (λi S=>TkJ st lp idl id2 ((c.parts.take i).filter (rO n d kn)) S) ?_ (λi S hi hJ hf=> ?_) (λi S hi hJ hf=> ?_)
  ·refine ⟨this.1,λw g vs h1 h2=>(this.2 w g vs h1 h2).mono ?_⟩
   rintro e w' ⟨v,q,S,g',h3,hJ,h4⟩
   rw [ztl (Nat.le_refl _)] at hJ
   obtain ⟨b,hb,hbl⟩:=hJ.acc
   refine ⟨v,q,S,g',h3,⟨hJ.loop,b,hbl,hb.move (aD λe=>hb.out (.inr e)) (λy e=>⟨aD λq=>(hb.arr y e).2 (.inr q),λq=>(hb.arr y e).2 (.inl q)⟩) (λq=>hb.out (.inl q)),λj hj=> ?_⟩,h4⟩
   rw [aD (λe=>hj (by rw [e];exact hsl))]
   exact hJ.old j hj
  ·refine ⟨aA _ _ _,⟨none,⟨by rw [aD (Ne.symm nl2),aA];rfl,λ_ e=>(by cases e), ?_⟩,by simp [mK]⟩,λj hj=> ?_⟩
   ·rintro (q|q)
    ·exact q h2
    ·exact nl2 q.symm
   ·rw [aD (λe=>hj (by rw [e];exact hsl)),aD (λe=>hj (by rw [e];exact h2))]
  ·rw [aqO hi,zn (by rw [hf];simp),List.append_nil];exact hJ
  ·rw [aqO hi,zp hf]
   have hloop:=hJ.loop
   obtain ⟨b,hb,hbl⟩:=hJ.acc
   have hbn:(mK b).length<=100000:=by
    rw [hbl]
    have:=List.length_filter_le (rO n d kn) (c.parts.take i)
    rw [zlt] at this
    omega
   have hL:=hJ.live
   have ho:=hJ.old
   rw [<-hbl]
   generalize c.parts[i]=x at*
   have hfin:∀(busy:AObj) (i':Nat) (S1:aI),upd S idl (some busy) i'=none->(S1=upd (upd (upd S idl (some busy)) i' (some (.arr 190 ((mK b++[x]).map Pt.cells)))) id2 (some (.cells 78 [pF (some (i',mK b++[x]))]))\/∃y,b=some y/\S1=upd (upd (upd (upd S idl (some busy)) y.1 none) i' (some (.arr 190 ((mK b++[x]).map Pt.cells)))) id2 (some (.cells 78 [pF (some (i',mK b++[x]))])))->S1 idl=some busy/\TkJ st lp idl id2 (mK b++[x]) (upd S1 idl (some lp)):=λbusy i' S1 hi' hS1=>by
    obtain ⟨g1,g2,g3⟩:=hb.round (.inr rfl) hL busy lp hi' hS1
    exact ⟨g2,aA _ _ _,⟨_,g1,rfl⟩,λj hj=>by rw [g3 j (.inl hj) (λe=>hj (by rw [e];exact hsl))];exact ho j hj⟩
   have nb2:id2≠idl:=Ne.symm nl2
   have hbx:∀o,upd S idl o id2=some (.cells 78 [pF b]):=λo=>(aD nb2).trans hb.box
   rw [<-hlp] at hloop
   refine aGw (R:=λS'=>TkJ st lp idl id2 (mK b++[x]) S') hloop (show 15<23 by decide) ?_
   show PWp _ _ _ (((St.nilR 23 S).pv 9 (.ref id2 0)).pv 15 (.agg x.cells))
   (try apply wO pk;rfl);(repeat' ((show Cn _;constructor)))
   refine ⟨rfl,hloop, ?_⟩
   cases b with
   |none=>
    (try apply wO pk;rfl);(repeat' first|show Cn _;constructor|apply wE pk;rfl;rfl|(apply ap0 pk (f:=Pt.cells) [x] 96;(iterate 10 rfl);exact λ_=>rfl;exact λ_=>rfl;exact uF;((focus (simp;done)));((focus (simp;done)));rfl;intro id' hid')|apply ldR pk;rfl;rfl;rotate_left;rfl;exact hbx _;rfl;rfl|apply stR pk;rfl;rfl;exact (aD (λe=>Option.some_ne_none _ ((hbx _).symm.trans ((congrArg (upd S idl _) e).trans hid')))).trans (hbx _);rfl;rfl)
    obtain ⟨g1,g2⟩:=hfin _ id' _ hid' (.inl rfl)
    subst hlp
    exact ⟨rfl,_,zsr _,g1,g2⟩
   |some z=>
    have nz:z.1≠idl:=λe=>(hb.arr z rfl).2 (.inr e)
    have hz3:∀o,upd S idl o z.1=some (.arr 190 (z.2.map Pt.cells)):=λo=>(aD nz).trans (hb.arr z rfl).1
    have n3z:id2≠z.1:=λe=>by have h1:=hb.box;have h2:=(hb.arr z rfl).1;rw [e,h2] at h1;cases h1
    have hlz:z.2.length<=100000:=hbn
    (try apply wO pk;rfl);(repeat' first|show Cn _;constructor|apply wE pk;rfl;rfl|apply ldR pk;rfl;rfl;rotate_left;rfl;exact hbx _;rfl;rfl|(apply apV pk (f:=Pt.cells) (xs:=z.2) [x] 96;(iterate 9 rfl);exact hz3 _;rfl;exact λ_=>rfl;exact λ_=>rfl;exact uF;(simp only [zlc,List.length_nil];omega);(simp only [zlc,List.length_nil];omega);rfl;intro id' hid')|apply stR pk;rfl;rfl;exact (aD (λe=>Option.some_ne_none _ ((hbx _).symm.trans ((congrArg (upd S idl _) e).trans hid')))).trans ((aD n3z).trans (hbx _));rfl;rfl)
    have hg:=hfin _ id' _ hid' (.inr ⟨z,rfl,rfl⟩)
    rw [show pF (some (id',mK (some z)++[x]))= .vec id' 11 0 (z.2.length+[x].length) from by simp [pF,mK]] at hg
    obtain ⟨g1,g2⟩:=hg
    subst hlp
    exact ⟨rfl,_,zsr _,g1,g2⟩
 ·rintro idl S hidl ⟨b,hp,hb,ho⟩
  have hbx:=hb.box
  cases b with
  |none=>
   (try apply wO pk;rfl);(repeat' first|show Cn _;constructor|apply wE pk;rfl;rfl|((try refine aC ?_);((refine ⟨_,_,_,rfl,zwr _,zsr _, ?_⟩;(exact ⟨none,rfl,hp,λ_ e=>(by cases e),ho⟩);done)))|apply ldR pk;rfl;rfl;rotate_left;rfl;(assumption);rfl;rfl)
  |some z=>
   have hz:=hb.arr z rfl
   have hst:st z.1=none:=Decidable.byContradiction λq=>hz.2 q
   (try apply wO pk;rfl);(repeat' first|show Cn _;constructor|apply wE pk;rfl;rfl|((try refine aC ?_);((refine ⟨_,_,_,rfl,zwr _,zsr _, ?_⟩;(exact ⟨some z,rfl,hp,λ_ e=>(by cases e;exact ⟨hz.1,hst⟩),ho⟩);done)))|apply ldR pk;rfl;rfl;rotate_left;rfl;(assumption);rfl;rfl)
theorem apJ (c:Cl) (n:Int) (d:Dt) (kn:List Int) (hl:c.parts.length<100000) (hk:kn.length<1000000000000):PF Tryz.prog 248 [.agg c.cells,(.val (.int .i64 n)), .agg d.cells, .seq (kn.map I1)] (.agg (rL c n d kn).cells):=λst=>
 gN (sz:=11) (aCo c n d kn hl hk st) λp st' h=>by
  obtain ⟨b,rfl,h2,h3,h4⟩:=h
  have hsub:StSub st st':=λj=>by
   by_cases q:st j=none
   ·exact .inl q
   ·exact .inr (h4 j q).symm
  cases b with
  |none=>
   have e:rL c n d kn=⟨c.kind,c.val,[]⟩:=by unfold rL;rw [<-h2];rfl
   rw [e]
   exact .inr ⟨_,st,Wk.agg (.cons (zwr _) (.cons (zwr _) (.cons (zwr _) (.cons (zwr _) (.cons Wk.nil .nil))))),hsub,rfl,rfl⟩
  |some z=>
   obtain ⟨h5,h6⟩:=h3 z rfl
   have e:rL c n d kn=⟨c.kind,c.val,z.2⟩:=by unfold rL;rw [<-h2];rfl
   rw [e]
   refine .inl ⟨z.1,190,z.2.map Pt.cells,_,st,h5,qY, .agg (.cons .refl (.cons .refl (.cons .refl (.cons .refl (.cons (gL (by simp)) .nil))))),λj=> ?_,rfl,rfl⟩
   by_cases q:j=z.1
   ·subst q;exact .inl h6
   ·rw [aD q];exact hsub j
end Go.Proofs.YtloecjjehapblaaGreatDoor
