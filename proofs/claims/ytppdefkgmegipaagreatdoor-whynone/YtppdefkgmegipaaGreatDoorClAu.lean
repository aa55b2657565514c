import Derived.Test.YtppdefkgmegipaaGreatDoorClAt
import Derived.Test.YtppdefkgmegipaaGreatDoorClAg
set_option linter.unusedSimpArgs false
set_option linter.unusedVariables false
namespace Go.Proofs.YtppdefkgmegipaaGreatDoor
open Go Go.Abs
section
attribute [local irreducible] Ev PWp
set_option maxRecDepth 10000
set_option maxHeartbeats 4000000
def adQ (f:X.Ex->Int):Int->List X.Ex->Int
 |n,[]=>n
 |n,x::xs=>if n<200 then adQ f (n+f x) xs else n
def nW :Nat->X.Ex->Int
 |0,_=>200
 |d+1,e=>adQ (nW d) 1 e.of
theorem akJ {f:X.Ex->Int} {m:Int} (hm:0<=m) (hf:∀x,0<=f x/\f x<=m):∀(l:List X.Ex) (n:Int),0<=n->n<=200+m->0<=adQ f n l/\adQ f n l<=200+m
 |[],n,h1,h2=>⟨h1,h2⟩
 |x::xs,n,h1,h2=>by
  simp only [adQ]
  split
  ·have:=hf x
   exact akJ hm hf xs _ (by omega) (by omega)
  ·exact ⟨h1,h2⟩
theorem abG :∀(d:Nat) (e:X.Ex),0<=nW d e/\nW d e<=200*(d+1)
 |0,_=>by simp only [nW];omega
 |d+1,e=>by
  simp only [nW]
  have:=akJ (f:=nW d) (m:=200*(d+1)) (by omega) (λx=>abG d x) e.of 1 (by omega) (by omega)
  omega
theorem asG :∀(d:Nat) (e:X.Ex) (z:Int),z=(d:Nat)->d<=24->e.ok->PF Tryz.prog 111 [.agg e.cells,(vi (z))] (vi (nW d e)):=by
 intro d
 induction d with
 |zero=>
  intro e z hz _ hok
  subst hz
  obtain ⟨k,n,v,of⟩:=e
  refine pF Tryz.func111 rfl (λst=> ?_)
  focus ((repeat' first|(show Cn (.r _ _ _);refine .any ⟨_,_,_,rfl,zwr _,zsr _, ?_,rfl⟩;try rfl)|apply wZ;rfl|show Cn _;constructor|exact rfl|apply KR.mk;kernel_rfl|omega|intros;omega|simp only [zql];omega|intros;simp only [zql];omega|intros;simp only;omega|intro h;omega|intro h;simp at h;done|intro h;simp at h;omega|(intro h;simp at h)|intro h))
  refine aG (X:={x:Nat//x<=0}) (λi=>(((((St.nil 35 st).pv 1 ((vi ((0:Nat))))).var 2 56 ((X.Ex.mk k n v of).cells)).pv 5 ((vi (1)))).pv 6 ((vi ((i.1:Nat)))))) (λi=>0-i.1) ⟨0,by omega⟩ ?_ (λi=> ?_)
  ·(repeat' first|show Cn _;constructor|exact rfl)
  obtain ⟨i,hi⟩:=i
  dsimp only
  (repeat' first|(show Cn (.r _ _ _);refine .any ⟨_,_,_,rfl,zwr _,zsr _, ?_,rfl⟩;try rfl)|apply wZ;rfl|show Cn _;constructor|exact rfl|apply KR.mk;kernel_rfl|omega|intros;omega|simp only [zql];omega|intros;simp only [zql];omega|intros;simp only;omega|((exfalso;simp at*;done))|intro h;omega|intro h;simp at h;done|intro h;simp at h;omega|(intro h;simp at h)|intro h)
 |succ d ih=>
  intro e z hz hd hok
  subst hz
  obtain ⟨k,n,v,of⟩:=e
  simp only [X.Ex.ok] at hok
  have hrl:=X.Ex.rows_len of
  have hb:=abG d
  refine pF Tryz.func111 rfl (λst=> ?_)
  focus ((repeat' first|(show Cn (.r _ _ _);refine .any ⟨_,_,_,rfl,zwr _,zsr _, ?_,rfl⟩;try rfl)|apply wZ;rfl|show Cn _;constructor|exact rfl|apply KR.mk;kernel_rfl|omega|intros;omega|simp only [zql];omega|intros;simp only [zql];omega|intros;simp only;omega|intro h;omega|intro h;simp at h;done|intro h;simp at h;omega|(intro h;simp at h)|intro h))
  refine aG (X:={x:Nat×Int//x.1<=of.length/\0<=x.2/\x.2<=200+200*(d+1)/\nW (d+1) (.mk k n v of)=adQ (nW d) x.2 (of.drop x.1)}) (λi=>(((((St.nil 35 st).pv 1 ((vi ((d+1:Nat))))).var 2 56 ((X.Ex.mk k n v of).cells)).pv 5 ((vi (i.1.2)))).pv 6 ((vi ((i.1.1:Nat)))))) (λi=>of.length-i.1.1) ⟨(0,1),by simp,by simp,by simp only;omega,rfl⟩ ?_ (λi=> ?_)
  ·(repeat' first|show Cn _;constructor|exact rfl)
  obtain ⟨⟨i,m⟩,hi,hm1,hm2,hinv⟩:=i
  simp only at hi hm1 hm2 hinv
  dsimp only
  by_cases hend:of.length<=i
  ·rw [List.drop_eq_nil_of_le hend,adQ] at hinv
   (repeat' first|(show Cn (.r _ _ _);refine .any ⟨_,_,_,rfl,zwr _,zsr _, ?_,rfl⟩;try first|rfl|(rw [hinv]);done)|apply wZ;rfl|show Cn _;constructor|exact rfl|apply KR.mk;kernel_rfl|show (_:PV)=_;(rw [hinv]);done|omega|intros;omega|simp only [zql];omega|intros;simp only [zql];omega|intros;simp only;omega|intro h;omega|intro h;simp at h;done|intro h;simp at h;omega|(intro h;simp at h)|intro h)
  have hil:i<of.length:=by omega
  rw [List.drop_eq_getElem_cons hil,adQ] at hinv
  by_cases h2:m<200
  ·rw [zp h2] at hinv
   have hx:=λz hz=>ih of[i] z hz (by omega) (X.Ex.oks_mem hok.2 (zgm hil))
   have hbx:=hb of[i]
   have hget:(X.Ex.rows of)[i]?=some of[i].cells:=X.Ex.rows_get (zgg hil)
   generalize hx2:of[i]=x at*
   generalize nW d x=M at*
   obtain ⟨k',n',v',of'⟩:=x
   (repeat' first|(show Cn (.r _ _ _);refine .any ⟨_,_,_,rfl,zwr _,zsr _, ?_,rfl⟩;try rfl)|(refine ⟨⟨(i+1,m+M),by simp only;omega,by simp only;omega,by simp only;omega,hinv⟩, ?_, ?_⟩)|apply wZ;rfl|show Cn _;constructor|exact rfl|apply KR.mk;kernel_rfl|apply bX pk;(iterate 6 rfl);rotate_left;rfl;(intro hw;rfl);(intro hw;apply hget<;>omega);(intro _;exact (X.Ex.cells_len _));rfl|(apply hx<;>(first|assumption|omega))|apply wY;rfl|apply wI;rfl|apply gE;omega|apply gE;show 0<_;omega|apply gE;show 1<_;omega|omega|intros;omega|simp only [zql];omega|intros;simp only [zql];omega|intros;simp only;omega|intro h;omega|intro h;simp at h;done|intro h;simp at h;omega|(intro h;simp at h)|intro h)
  ·rw [zn h2] at hinv
   (repeat' first|(show Cn (.r _ _ _);refine .any ⟨_,_,_,rfl,zwr _,zsr _, ?_,rfl⟩;try first|rfl|(rw [hinv]);done)|apply wZ;rfl|show Cn _;constructor|exact rfl|apply KR.mk;kernel_rfl|show (_:PV)=_;(rw [hinv]);done|omega|intros;omega|simp only [zql];omega|intros;simp only [zql];omega|intros;simp only;omega|intro h;omega|intro h;simp at h;done|intro h;simp at h;omega|(intro h;simp at h)|intro h)
theorem aCc {e:X.Ex} (hok:e.ok):PF Tryz.prog 111 [.agg e.cells,(vi (24))] (vi (nW 24 e)):=asG 24 e 24 rfl (by omega) hok
def nV (l:List X.Ex):Bool:=decide (l.length<30)&&decide (((l.take 30).map (nW 24)).sum<200)
theorem kZ (l:List X.Ex) (hl:l.length<4611686018427387904) (hok:∀e∈l,e.ok):PF Tryz.prog 66 [.seq (l.map X.Ex.cells)] (vb (nV l)):=by
 have hml:(l.map X.Ex.cells).length=l.length:=zql _
 unfold nV
 refine pF Tryz.func66 rfl (λst=> ?_)
 focus ((repeat' first|(show Cn (.r _ _ _);refine .any ⟨_,_,_,rfl,zwr _,zsr _, ?_,rfl⟩;try rfl)|apply wZ;rfl|show Cn _;constructor|exact rfl|apply KR.mk;kernel_rfl|omega|intros;omega|simp only [zql];omega|intros;simp only [zql];omega|intros;simp only;omega|intro h;omega|intro h;simp at h;done|intro h;simp at h;omega|(intro h;simp at h)|intro h))
 refine aG (X:={x:Nat×Int//x.1<=l.length/\x.1<=30/\x.2=((l.take x.1).map (nW 24)).sum/\0<=x.2/\x.2<=5000*x.1}) (λi=>((((St.nil 29 st).pv 0 (.seq (l.map X.Ex.cells))).pv 3 ((vi (i.1.2)))).pv 4 ((vi ((i.1.1:Nat)))))) (λi=>l.length-i.1.1) ⟨(0,0),by simp,by simp,by simp,by simp,by simp⟩ ?_ (λi=> ?_)
 ·(repeat' first|show Cn _;constructor|exact rfl)
 obtain ⟨⟨i,m⟩,hi,hi30,hm,hm0,hm2⟩:=i
 simp only at hi hi30 hm hm0 hm2
 dsimp only
 by_cases hend:l.length<=i\/i=30
 ·have e:l.take 30=l.take i:=by
   rcases hend with q|q
   ·rw [ztl q,ztl (by omega)]
   ·rw [q]
  rw [e,<-hm]
  have q:decide ((l.length:Int)<30)=decide (l.length<30):=decide_eq_decide.2 (by omega)
  (repeat' first|(show Cn (.r _ _ _);refine .any ⟨_,_,_,rfl,zwr _,zsr _, ?_,rfl⟩;try first|rfl|(rw [hml,q]);done)|apply wZ;rfl|show Cn _;constructor|exact rfl|apply KR.mk;kernel_rfl|show (_:PV)=_;(rw [hml,q]);done|omega|intros;omega|simp only [zql];omega|intros;simp only [zql];omega|intros;simp only;omega|exfalso;omega|intro h;omega|intro h;simp at h;done|intro h;simp at h;omega|(intro h;simp at h)|intro h)
 have hil:i<l.length:=by omega
 have hi3:i<30:=by omega
 have hn:=aCc (hok _ (zgm hil))
 have hb:=abG 24 l[i]
 have hup:m+nW 24 l[i]=((l.take (i+1)).map (nW 24)).sum:=by rw [List.take_succ_eq_append_getElem hil,List.map_append,List.sum_append,<-hm];simp
 have hget:(l.map X.Ex.cells)[i]?=some l[i].cells:=by simp [hil]
 generalize nW 24 l[i]=M at*
 generalize l[i]=x at*
 obtain ⟨k',n',v',of'⟩:=x
 (repeat' first|(show Cn (.r _ _ _);refine .any ⟨_,_,_,rfl,zwr _,zsr _, ?_,rfl⟩;try rfl)|(refine ⟨⟨(i+1,m+M),by simp only;omega,by simp only;omega,hup,by simp only;omega,by simp only;omega⟩, ?_, ?_⟩)|apply wZ;rfl|show Cn _;constructor|exact rfl|apply KR.mk;kernel_rfl|apply bX pk;(iterate 6 rfl);rotate_left;rfl;(intro hw;rfl);(intro hw;apply hget<;>omega);(intro _;exact (X.Ex.cells_len _));rfl|(apply hn<;>(first|assumption|omega))|apply wY;rfl|apply wI;rfl|apply gE;omega|apply gE;show 0<_;omega|apply gE;show 1<_;omega|omega|intros;omega|simp only [zql];omega|intros;simp only [zql];omega|intros;simp only;omega|exfalso;omega|intro h;omega|intro h;simp at h;done|intro h;simp at h;omega|(intro h;simp at h)|intro h)
theorem aAd :Tryz.prog.bytesOf 56=72:=by kernel_rfl
theorem aAf :Tryz.prog.cellsOf 56=6:=by kernel_rfl
theorem aBq :∀x:X.Ex,x.cells.all PV.one=true
 | .mk _ _ _ _=>rfl
theorem arP (l:List Ou) (hl:l.length<1800000000000) (st:aD):PC Tryz.prog 68 [.seq (l.map Ou.cells)] st λr S=>∃id,r= .vec id 6 0 l.length/\st id=none/\S=upd st id (some (.arr 56 ((l.map (·.of)).map X.Ex.cells))):=by
 have hml:(l.map Ou.cells).length=l.length:=zql _
 refine pC Tryz.func68 rfl ?_
 focus ((repeat' first|(show Cn (.r _ _ _);refine .any ⟨_,_,_,rfl,zwr _,zsr _, ?_,rfl⟩;try rfl)|apply wZ;rfl|show Cn _;constructor|exact rfl|apply KR.mk;kernel_rfl|omega|intros;omega|simp only [zql];omega|intros;simp only [zql];omega|intros;simp only;omega|intro h;omega|intro h;simp at h;done|intro h;simp at h;omega|(intro h;simp at h)|intro h))
 refine dU 3 56 6 rfl rfl rfl (λid hid=> ?_)
 have hid:st id=none:=hid
 refine aG (X:={x:Nat×Nat//x.1<=l.length/\st x.2=none}) (λi=>((((St.nil 20 (upd st i.1.2 (some (.arr 56 (((l.map (·.of)).take i.1.1).map X.Ex.cells))))).pv 0 (.seq (l.map Ou.cells))).pv 3 (.vec i.1.2 6 0 i.1.1)).pv 4 ((vi ((i.1.1:Nat)))))) (λi=>l.length-i.1.1) ⟨(0,id),by simp,hid⟩ ?_ (λi=> ?_)
 ·dsimp only
  (repeat' first|show Cn (.t _ _);exact Cn.t0|show Cn (.t _ _);exact .any (aJ ‹_›)|(show Cn (.t _ _);exact .any (aI (by (first|rfl|exact aL ‹_›|((simp only [St.pv,St.put,St.sst,St.setv,St.nil,St.var,aH]);(first|done|rfl))))))|(show Cn (.t _ _);refine .any (aI ?_);(simp only [St.pv,St.put,St.sst,St.setv,St.nil,St.var,aH]);(rw [dA ‹_›]);(first|done|rfl))|show Cn _;constructor|exact rfl)
 obtain ⟨⟨i,id⟩,hi,hid⟩:=i
 simp only at hi hid
 dsimp only
 by_cases hend:l.length<=i
 ·obtain rfl:i=l.length:=by omega
  rw [ztl (by rw [zql];exact Nat.le_refl _)]
  (repeat' first|apply wDx pk;rfl;kernel_rfl;rfl;rfl|(show Cn (.e _ _ _ _);refine .any ?_;(first|(refine ⟨_,_,_,rfl,zwr _,zsr _, ?_,rfl⟩;(first|rfl))|(refine ⟨_,_,_,rfl,zwr _,aB ‹_›, ?_,rfl⟩;(first|rfl))|(refine ⟨_,_,_,rfl,zwf _,zsr _, ?_,rfl⟩;(first|rfl))|(refine ⟨_,_,_,rfl,zwf _,aB ‹_›, ?_,rfl⟩;(first|rfl))|(refine ⟨_,_,_,rfl,zwr _,zsr _, ?_,rfl⟩)|(refine ⟨_,_,_,rfl,zwf _,aB ‹_›, ?_,rfl⟩)))|show Cn (.r _ _ _);refine .rr ?_;(exact ⟨id,rfl,hid,rfl⟩);done|show Cn (.r _ _ _);refine .any ⟨_,_, ?zs,rfl,zwr _, ?zh, ?zr⟩;(case zh=>(refine aF ?_ ‹_›;(repeat refine aF ?_ ‹_›);exact zsr _));(case zr=>(exact ⟨id,rfl,hid,rfl⟩))|apply wZ;rfl|show Cn _;constructor|exact rfl|apply KR.mk;kernel_rfl|apply ncA;rfl;rfl;rfl;rotate_left;rfl;rfl|apply ldR pk;rfl;rfl;rotate_left;rfl;(focus ((repeat (first|exact aA _ _ _|assumption|refine (aC ‹_›).trans ?_));done));rfl;rfl|apply stR pk;rfl;rfl;(focus ((repeat (first|exact aA _ _ _|assumption|refine (aC ‹_›).trans ?_));done));rfl;rfl|omega|intros;omega|simp only [zql];omega|intros;simp only [zql];omega|intros;simp only;omega|intro h;omega|intro h;simp at h;done|intro h;simp at h;omega|(intro h;simp at h)|intro h)
 have hil:i<l.length:=by omega
 have e:(l.map (·.of)).take (i+1)=(l.map (·.of)).take i++[l[i].of]:=by rw [List.take_succ_eq_append_getElem (by rw [zql];exact hil)];simp
 have hln:((l.map (·.of)).take i).length=i:=by rw [zlt,zql];omega
 have hget:(l.map Ou.cells)[i]?=some l[i].cells:=by simp [hil]
 generalize (l.map (·.of)).take i=G at*
 generalize l[i]=o at*
 obtain ⟨ag,k',n',v',of'⟩:=o
 dsimp only at e
 (repeat' first|(show Cn (.e _ _ _ _);refine .any ?_;(first|(refine ⟨_,_,_,rfl,zwr _,zsr _, ?_,rfl⟩;(first|rfl))|(refine ⟨_,_,_,rfl,zwr _,aB ‹_›, ?_,rfl⟩;(first|rfl))|(refine ⟨_,_,_,rfl,zwf _,zsr _, ?_,rfl⟩;(first|rfl))|(refine ⟨_,_,_,rfl,zwf _,aB ‹_›, ?_,rfl⟩;(first|rfl))|(refine ⟨_,_,_,rfl,zwr _,zsr _, ?_,rfl⟩)|(refine ⟨_,_,_,rfl,zwf _,aB ‹_›, ?_,rfl⟩)))|(show Cn (.r _ _ _);refine .any ?_;(first|(refine ⟨_,_,_,rfl,zwr _,zsr _, ?_,rfl⟩;(first|rfl))|(refine ⟨_,_,_,rfl,zwr _,aB ‹_›, ?_,rfl⟩;(first|rfl))|(refine ⟨_,_,_,rfl,zwf _,zsr _, ?_,rfl⟩;(first|rfl))|(refine ⟨_,_,_,rfl,zwf _,aB ‹_›, ?_,rfl⟩;(first|rfl))|(refine ⟨_,_,_,rfl,zwr _,zsr _, ?_,rfl⟩)|(refine ⟨_,_,_,rfl,zwf _,aB ‹_›, ?_,rfl⟩)))|refine ⟨⟨(i+1,id'),by simp only;omega,bA hid'⟩, ?_, ?_⟩;((dsimp only;rw [e]))|show Cn (.s _ (St.nil _ _));refine .any ?_;exact Sub.nil _ _ _ (oY hid (by rw [e])) rfl|show Cn (.t _ _);exact Cn.t0|show Cn (.t _ _);exact .any (aJ ‹_›)|(show Cn (.t _ _);exact .any (aI (by (first|rfl|exact aL ‹_›|((simp only [St.pv,St.put,St.sst,St.setv,St.nil,St.var,aH]);(first|done|rfl))))))|(show Cn (.t _ _);refine .any (aI ?_);(simp only [St.pv,St.put,St.sst,St.setv,St.nil,St.var,aH]);(rw [dA ‹_›]);(first|done|rfl))|apply wZ;rfl|show Cn _;constructor|exact rfl|apply KR.mk;kernel_rfl|apply bX pk;(iterate 6 rfl);rotate_left;rfl;(intro hw;rfl);(intro hw;apply hget<;>omega);(intro _;exact (Ou.cells_len _));rfl|(show _=_;(first|rfl|simp))|(apply apV pk (f:=X.Ex.cells) (xs:=G) [X.Ex.mk k' n' v' of'] 72;(iterate 9 rfl);exact aA _ _ _;exact hln;exact X.Ex.cells_len;exact aBq;exact aAd;(simp only [zlc,List.length_nil];omega);(simp only [zlc,List.length_nil];omega);rfl;intro id' hid')|apply wI;rfl|apply gE;omega|apply gE;show 0<_;omega|apply gE;show 1<_;omega|omega|intros;omega|simp only [zql];omega|intros;simp only [zql];omega|intros;simp only;omega|intro h;omega|intro h;simp at h;done|intro h;simp at h;omega|(intro h;simp at h)|intro h)
theorem ajO (l:List Ou) (hl:l.length<1800000000000):PF Tryz.prog 68 [.seq (l.map Ou.cells)] (.seq ((l.map (·.of)).map X.Ex.cells)):=λst=>
 eZ (sz:=6) (arP l hl st) λp st' hR=>by
  obtain ⟨id,rfl,h3,rfl⟩:=hR
  exact .inl ⟨id,56,(l.map (·.of)).map X.Ex.cells,_,st,aA _ _ _,aAf,eH (by simp),cY h3,rfl,rfl⟩
def ayD (q:Qu):Bool:=decide ((q.joins.length:Int)<=6)&&decide ((q.order.length:Int)<=30)&&nV q.where_&&nV q.group&&decide ((q.outs.length:Int)<30)&&nV (q.outs.map (·.of))
theorem apG (q:Qu) (hS:QuS q) (ho:q.outs.length<1800000000000) (hg:∀e∈q.group,e.ok):PF Tryz.prog 42 [.agg q.cells] (vb (ayD q)):=by
 have h1:=kZ q.where_ hS.wl hS.wok
 have h2:=kZ q.group hS.gl hg
 have h3:=ajO q.outs ho
 have h4:=kZ (q.outs.map (·.of)) (by rw [zql];exact hS.ol) (λe he=>by obtain ⟨o,ho,rfl⟩:=List.mem_map.1 he;exact hS.ook o ho)
 obtain ⟨s1,s2,s3,s4,s5,_,_,_⟩:=hS
 unfold ayD
 generalize nV q.where_=A at*
 generalize nV q.group=B at*
 generalize nV (q.outs.map (·.of))=C at*
 obtain ⟨tb,js,ws,gs,os,rs,lm⟩:=q
 dsimp only at*
 have l1:(js.map Jn.cells).length=js.length:=zql _
 have l2:(rs.map I1).length=rs.length:=zql _
 have l3:(os.map Ou.cells).length=os.length:=zql _
 refine pF Tryz.func42 rfl (λst=> ?_)
 (repeat' first|(show Cn (.r _ _ _);refine .any ⟨_,_,_,rfl,zwr _,zsr _, ?_,rfl⟩;try first|rfl|(simp only [zql]);done)|apply wZ;rfl|show Cn _;constructor|exact rfl|apply KR.mk;kernel_rfl|((first|apply h1|apply h2|apply h3|apply h4)<;>(first|assumption|omega))|show (_:PV)=_;(simp only [zql]);done|apply wY;rfl|omega|intros;omega|simp only [zql];omega|intros;simp only [zql];omega|intros;simp only;omega|intro h;omega|intro h;simp at h;done|intro h;simp at h;omega|(intro h;simp at h)|intro h)
noncomputable def chk25 (s:Sc):Bool:=((s.take 30).all λt=>nV (t.checks.map exOf))&&decide ((s.length:Int)<30)
theorem ajX (s:Sc) (hl:s.length<200000000000000) (hK:∀t∈s,vF t/\t.checks.length<4611686018427387904):PF Tryz.prog 40 [.agg (scC s)] (vb (chk25 s)):=by
 have hml:(s.map Tb.cells).length=s.length:=zql _
 have hyes:(∀j (h:j<s.length),j<30->nV (s[j].checks.map exOf)=true)->chk25 s=decide ((s.length:Int)<30):=λh=>by
  unfold chk25
  rw [zal.2,Bool.true_and]
  intro t ht
  obtain ⟨j,hj,rfl⟩:=zgo ht
  rw [zlt] at hj
  rw [List.getElem_take]
  exact h j (by omega) (by omega)
 have hno:∀j (h:j<s.length),j<30->nV (s[j].checks.map exOf)=false->chk25 s=false:=λj hj h30 h=>by
  unfold chk25
  have:((s.take 30).all λt=>nV (t.checks.map exOf))=false:=by
   rw [<-Bool.not_eq_true,zal]
   intro q
   have:=q s[j] (by rw [<-List.getElem_take (i:=j) (j:=30) (h:=by rw [zlt];omega)];exact zgm _)
   rw [h] at this;cases this
  rw [this];rfl
 generalize chk25 s=W at*
 refine pF Tryz.func40 rfl (λst=> ?_)
 focus ((repeat' first|(show Cn (.r _ _ _);refine .any ⟨_,_,_,rfl,zwr _,zsr _, ?_,rfl⟩;try rfl)|apply wZ;rfl|show Cn _;constructor|exact rfl|apply KR.mk;kernel_rfl|omega|intros;omega|simp only [zql];omega|intros;simp only [zql];omega|intros;simp only;omega|intro h;omega|intro h;simp at h;done|intro h;simp at h;omega|(intro h;simp at h)|intro h))
 refine aG (X:={x:Nat//x<=s.length/\x<=30/\∀j (h:j<s.length),j<x->nV (s[j].checks.map exOf)=true}) (λi=>(((St.nil 27 st).var 1 24 ((scC s))).pv 3 ((vi ((i.1:Nat)))))) (λi=>s.length-i.1) ⟨0,by omega,by omega,by omega⟩ ?_ (λi=> ?_)
 ·(repeat' first|show Cn _;constructor|exact rfl)
 obtain ⟨i,hi,hi30,hI⟩:=i
 dsimp only
 by_cases hend:s.length<=i\/i=30
 ·have e:W=decide ((s.length:Int)<30):=hyes λj hj h30=>hI j hj (by omega)
  (repeat' first|(show Cn (.r _ _ _);refine .any ⟨_,_,_,rfl,zwr _,zsr _, ?_,rfl⟩;try first|rfl|(rw [e,hml]);done)|apply wZ;rfl|show Cn _;constructor|exact rfl|apply KR.mk;kernel_rfl|show (_:PV)=_;(rw [e,hml]);done|omega|intros;omega|simp only [zql];omega|intros;simp only [zql];omega|intros;simp only;omega|exfalso;omega|intro h;omega|intro h;simp at h;done|intro h;simp at h;omega|(intro h;simp at h)|intro h)
 have hil:i<s.length:=by omega
 have hi3:i<30:=by omega
 obtain ⟨hchk,hcl⟩:=hK _ (zgm hil)
 have hcc:(s[i].checks.map exOf).map X.Ex.cells=s[i].checks:=by
  rw [List.map_map]
  conv=>rhs;rw [<-List.map_id s[i].checks]
  exact List.map_congr_left λc hc=>(alR (hchk c hc)).2
 have hx:=kZ (s[i].checks.map exOf) (by rw [zql];exact hcl) (λe he=>by obtain ⟨c,hc,rfl⟩:=List.mem_map.1 he;exact (alR (hchk c hc)).1)
 rw [hcc] at hx
 have hno:=hno i hil hi3
 have hup:nV (s[i].checks.map exOf)=true->∀j (h:j<s.length),j<i+1->nV (s[j].checks.map exOf)=true:=λh j hj hji=>by
  rcases zls.1 hji with q|q
  ·exact hI j hj q
  ·subst q;exact h
 generalize nV (s[i].checks.map exOf)=D at*
 cases D with
 |true=>
  (repeat' first|(show Cn (.r _ _ _);refine .any ⟨_,_,_,rfl,zwr _,zsr _, ?_,rfl⟩;try rfl)|(refine ⟨⟨i+1,by omega,by omega,hup rfl⟩, ?_, ?_⟩)|apply wZ;rfl|show Cn _;constructor|exact rfl|apply KR.mk;kernel_rfl|(apply hx<;>(first|assumption|omega))|apply wY;rfl|apply wI;rfl|apply gE;omega|apply gE;show 0<_;omega|apply gE;show 1<_;omega|omega|intros;omega|simp only [zql];omega|intros;simp only [zql];omega|intros;simp only;omega|exfalso;omega|intro h;omega|intro h;simp at h;done|intro h;simp at h;omega|(intro h;simp at h)|intro h)
 |false=>
  have e:=hno rfl
  (repeat' first|(show Cn (.r _ _ _);refine .any ⟨_,_,_,rfl,zwr _,zsr _, ?_,rfl⟩;try first|rfl|(rw [e]);done)|apply wZ;rfl|show Cn _;constructor|exact rfl|apply KR.mk;kernel_rfl|(apply hx<;>(first|assumption|omega))|show (_:PV)=_;(rw [e]);done|apply wY;rfl|apply wI;rfl|apply gE;omega|apply gE;show 0<_;omega|apply gE;show 1<_;omega|omega|intros;omega|simp only [zql];omega|intros;simp only [zql];omega|intros;simp only;omega|exfalso;omega|intro h;omega|intro h;simp at h;done|intro h;simp at h;omega|(intro h;simp at h)|intro h)
def rD (b:Bs):List Jn->Int->Int
 |[],n=>n
 |j::js,n=>if n<=3000 then rD b js (n*(aU b j.table).length) else n
def iY (b:Bs) (q:Qu):Bool:=decide (rD b q.joins (aU b q.table).length<=3000)
theorem ahL (b:Bs) (q:Qu) (hq:q.joins.length<4611686018427387904) (hb:∀k,(aU b k).length<200000000000000):PF Tryz.prog 43 [.agg (bsC b), .agg q.cells] (vb (iY b q)):=by
 have h1:=xG b q.table
 have h0:=hb q.table
 have hml:((aU b q.table).map Ln.cells).length=(aU b q.table).length:=zql _
 have hjl:(q.joins.map Jn.cells).length=q.joins.length:=zql _
 unfold iY
 generalize hN:rD b q.joins (aU b q.table).length=N at*
 refine pF Tryz.func43 rfl (λst=> ?_)
 focus ((repeat' first|(show Cn (.r _ _ _);refine .any ⟨_,_,_,rfl,zwr _,zsr _, ?_,rfl⟩;try rfl)|apply wZ;rfl|show Cn _;constructor|exact rfl|apply KR.mk;kernel_rfl|(apply h1<;>(first|assumption|omega))|apply wY;rfl|omega|intros;omega|simp only [zql];omega|intros;simp only [zql];omega|intros;simp only;omega|intro h;omega|intro h;simp at h;done|intro h;simp at h;omega|(intro h;simp at h)|intro h))
 refine aG (X:={x:Nat×Int//x.1<=q.joins.length/\0<=x.2/\x.2<=600000000000000000/\rD b (q.joins.drop x.1) x.2=N}) (λi=>(((((St.nil 36 st).var 2 27 ((bsC b))).var 3 33 (q.cells)).pv 5 ((vi (i.1.2)))).pv 6 ((vi ((i.1.1:Nat)))))) (λi=>q.joins.length-i.1.1) ⟨(0,((aU b q.table).length:Int)),by simp,by simp only;omega,by simp only;omega,hN⟩ ?_ (λi=> ?_)
 ·(repeat' first|show Cn _;constructor|exact rfl|rw [hml])
 obtain ⟨⟨i,n⟩,hi,hn0,hn1,hinv⟩:=i
 simp only at hi hn0 hn1 hinv
 dsimp only
 by_cases hend:q.joins.length<=i\/¬n<=3000
 ·have e:N=n:=by
   rw [<-hinv]
   rcases hend with w|w
   ·rw [List.drop_eq_nil_of_le w];rfl
   ·cases hd:q.joins.drop i with
    |nil=>rfl
    |cons j js=>simp only [rD];rw [zn w]
  (repeat' first|(show Cn (.r _ _ _);refine .any ⟨_,_,_,rfl,zwr _,zsr _, ?_,rfl⟩;try first|rfl|(rw [e]);done)|apply wZ;rfl|show Cn _;constructor|exact rfl|apply KR.mk;kernel_rfl|show (_:PV)=_;(rw [e]);done|omega|intros;omega|simp only [zql];omega|intros;simp only [zql];omega|intros;simp only;omega|exfalso;omega|intro h;omega|intro h;simp at h;done|intro h;simp at h;omega|(intro h;simp at h)|intro h)
 have hil:i<q.joins.length:=by omega
 have hn3:n<=3000:=by omega
 have h2:=xG b q.joins[i].table
 have hl2:=hb q.joins[i].table
 have hrow:(q.joins.map Jn.cells)[i]?=some q.joins[i].cells:=by simp [hil]
 have hml2:((aU b q.joins[i].table).map Ln.cells).length=(aU b q.joins[i].table).length:=zql _
 rw [List.drop_eq_getElem_cons hil] at hinv
 simp only [rD] at hinv
 rw [zp hn3] at hinv
 generalize q.joins[i]=j at*
 obtain ⟨tb,lf,rt⟩:=j
 dsimp only at*
 generalize aU b tb=L at*
 have hm0:0<=n*(L.length:Int):=Int.mul_nonneg hn0 (by omega)
 have hm1:n*(L.length:Int)<=600000000000000000:=Int.le_trans (Int.mul_le_mul hn3 (show (L.length:Int)<=200000000000000 by omega) (by omega) (by omega)) (by decide)
 (repeat' first|(show Cn (.r _ _ _);refine .any ⟨_,_,_,rfl,zwr _,zsr _, ?_,rfl⟩;try rfl)|refine ⟨⟨(i+1,n*(L.length:Int)),by simp only;omega,hm0,hm1,hinv⟩, ?_, ?_⟩;((dsimp only))|apply wZ;rfl|show Cn _;constructor|exact rfl|apply KR.mk;kernel_rfl|apply bX pk;(iterate 6 rfl);rotate_left;rfl;(intro hw;rfl);(intro hw;apply hrow<;>omega);(intro _;rfl);rfl|(apply h2<;>(first|assumption|omega))|show _=_;(rw [hml2])|apply wY;rfl|apply wI;rfl|apply gE;omega|apply gE;show 0<_;omega|apply gE;show 1<_;omega|omega|intros;omega|simp only [zql];omega|intros;simp only [zql];omega|intros;simp only;omega|exfalso;omega|intro h;omega|intro h;simp at h;done|intro h;simp at h;omega|(intro h;simp at h)|intro h)
theorem awJ (q:Qu) (hl:q.outs.length<4611686018427387904):PF Tryz.prog 18 [.agg q.cells] (vb (nD q)):=by
 have hml:(q.outs.map Ou.cells).length=q.outs.length:=zql _
 have hgl:(q.group.map X.Ex.cells).length=q.group.length:=zql _
 have hyes:(∀j (h:j<q.outs.length),q.outs[j].agg=0)->nD q=decide ((q.group.length:Int)>0):=λh=>by
  unfold nD
  have:q.outs.any qI=false:=by
   rw [<-Bool.not_eq_true,List.any_eq_true]
   rintro ⟨o,ho,hh⟩
   obtain ⟨j,hj,rfl⟩:=zgo ho
   simp [qI,h j hj] at hh
  rw [this,Bool.or_false]
  exact decide_eq_decide.2 (by omega)
 have hno:∀j (h:j<q.outs.length),¬q.outs[j].agg=0->nD q=true:=λj hj h=>by
  unfold nD
  have:q.outs.any qI=true:=List.any_eq_true.2 ⟨_,zgm hj,by simp [qI,h]⟩
  rw [this,Bool.or_true]
 generalize nD q=W at*
 refine pF Tryz.func18 rfl (λst=> ?_)
 focus ((repeat' first|(show Cn (.r _ _ _);refine .any ⟨_,_,_,rfl,zwr _,zsr _, ?_,rfl⟩;try rfl)|apply wZ;rfl|show Cn _;constructor|exact rfl|apply KR.mk;kernel_rfl|omega|intros;omega|simp only [zql];omega|intros;simp only [zql];omega|intros;simp only;omega|intro h;omega|intro h;simp at h;done|intro h;simp at h;omega|(intro h;simp at h)|intro h))
 refine aG (X:={x:Nat//x<=q.outs.length/\∀j (h:j<q.outs.length),j<x->q.outs[j].agg=0}) (λi=>(((St.nil 22 st).var 1 33 (q.cells)).pv 3 ((vi ((i.1:Nat)))))) (λi=>q.outs.length-i.1) ⟨0,by omega,by omega⟩ ?_ (λi=> ?_)
 ·(repeat' first|show Cn _;constructor|exact rfl)
 obtain ⟨i,hi,hI⟩:=i
 dsimp only
 by_cases hend:q.outs.length<=i
 ·have e:W=decide ((q.group.length:Int)>0):=hyes λj hj=>hI j hj (by omega)
  (repeat' first|(show Cn (.r _ _ _);refine .any ⟨_,_,_,rfl,zwr _,zsr _, ?_,rfl⟩;try first|rfl|(rw [e];simp only [zql]);done)|apply wZ;rfl|show Cn _;constructor|exact rfl|apply KR.mk;kernel_rfl|show (_:PV)=_;(rw [e];simp only [zql]);done|omega|intros;omega|simp only [zql];omega|intros;simp only [zql];omega|intros;simp only;omega|exfalso;omega|intro h;omega|intro h;simp at h;done|intro h;simp at h;omega|(intro h;simp at h)|intro h)
 have hil:i<q.outs.length:=by omega
 have hno:=hno i hil
 have hup:q.outs[i].agg=0->∀j (h:j<q.outs.length),j<i+1->q.outs[j].agg=0:=λh j hj hji=>by
  rcases zls.1 hji with q|q
  ·exact hI j hj q
  ·subst q;exact h
 have hrow:=abI hil
 generalize q.outs[i]=o at*
 obtain ⟨ag,k',n',v',of'⟩:=o
 dsimp only at*
 by_cases ha:ag=0
 ·(repeat' first|(show Cn (.r _ _ _);refine .any ⟨_,_,_,rfl,zwr _,zsr _, ?_,rfl⟩;try rfl)|(refine ⟨⟨i+1,hil,hup ha⟩, ?_, ?_⟩)|apply wZ;rfl|show Cn _;constructor|exact rfl|apply KR.mk;kernel_rfl|apply bX pk;(iterate 6 rfl);rotate_left;rfl;(intro hw;rfl);(intro hw;apply hrow<;>omega);(intro _;exact (Ou.cells_len _));rfl|apply wI;rfl|apply gE;omega|apply gE;show 0<_;omega|apply gE;show 1<_;omega|omega|intros;omega|simp only [zql];omega|intros;simp only [zql];omega|intros;simp only;omega|exfalso;omega|intro h;omega|intro h;simp at h;done|intro h;simp at h;omega|(intro h;simp at h)|intro h)
 ·have e:=hno ha
  (repeat' first|(show Cn (.r _ _ _);refine .any ⟨_,_,_,rfl,zwr _,zsr _, ?_,rfl⟩;try first|rfl|(rw [e]);done)|apply wZ;rfl|show Cn _;constructor|exact rfl|apply KR.mk;kernel_rfl|apply bX pk;(iterate 6 rfl);rotate_left;rfl;(intro hw;rfl);(intro hw;apply hrow<;>omega);(intro _;exact (Ou.cells_len _));rfl|show (_:PV)=_;(rw [e]);done|apply wI;rfl|apply gE;omega|apply gE;show 0<_;omega|apply gE;show 1<_;omega|omega|intros;omega|simp only [zql];omega|intros;simp only [zql];omega|intros;simp only;omega|exfalso;omega|intro h;omega|intro h;simp at h;done|intro h;simp at h;omega|(intro h;simp at h)|intro h)
theorem auX (q:Qu) (hl:q.outs.length<4611686018427387904):PF Tryz.prog 5 [.agg q.cells] (vb (nD q)):=by
 have h:=awJ q hl
 refine pF Tryz.func5 rfl (λst=> ?_)
 (repeat' first|(show Cn (.r _ _ _);refine .any ⟨_,_,_,rfl,zwr _,zsr _, ?_,rfl⟩;try rfl)|apply wZ;rfl|show Cn _;constructor|exact rfl|apply KR.mk;kernel_rfl|(apply h<;>(first|assumption|omega))|apply wY;rfl|omega|intros;omega|simp only [zql];omega|intros;simp only [zql];omega|intros;simp only;omega|intro h;omega|intro h;simp at h;done|intro h;simp at h;omega|(intro h;simp at h)|intro h)
theorem auP (a b:List Dt) (hb:a.length<4611686018427387904):PF Tryz.prog 16 [.seq (a.map Dt.cells), .seq (b.map Dt.cells)] (vb (decide (a=b))):=by
 have h:=anK a b hb
 refine pF Tryz.func16 rfl (λst=> ?_)
 (repeat' first|(show Cn (.r _ _ _);refine .any ⟨_,_,_,rfl,zwr _,zsr _, ?_,rfl⟩;try rfl)|apply wZ;rfl|show Cn _;constructor|exact rfl|apply KR.mk;kernel_rfl|(apply h<;>(first|assumption|omega))|apply wY;rfl|omega|intros;omega|simp only [zql];omega|intros;simp only [zql];omega|intros;simp only;omega|intro h;omega|intro h;simp at h;done|intro h;simp at h;omega|(intro h;simp at h)|intro h)
theorem atW (a b:List (Int×Int)) (hb:a.length<4611686018427387904):PF Tryz.prog 15 [.seq (a.map P2), .seq (b.map P2)] (vb (decide (a=b))):=by
 by_cases hl:¬(a.length=b.length)
 ·have e:decide (a=b)=false:=decide_eq_false λq=>hl (by rw [q])
  refine pF Tryz.func15 rfl (λst=> ?_)
  (repeat' first|(show Cn (.r _ _ _);refine .any ⟨_,_,_,rfl,zwr _,zsr _, ?_,rfl⟩;try first|rfl|(first|rw [e];done|exfalso;omega);done)|apply wZ;rfl|show Cn _;constructor|exact rfl|apply KR.mk;kernel_rfl|show (_:PV)=_;(first|rw [e];done|exfalso;omega);done|omega|intros;omega|simp only [zql];omega|intros;simp only [zql];omega|intros;simp only;omega|intro h;omega|intro h;simp at h;done|intro h;simp at h;omega|(intro h;simp at h)|intro h)
 replace hl:=zdn hl
 refine pF Tryz.func15 rfl (λst=> ?_)
 (repeat' first|(show Cn (.r _ _ _);refine .any ⟨_,_,_,rfl,zwr _,zsr _, ?_,rfl⟩;try first|rfl|(exfalso;omega);done)|apply wZ;rfl|show Cn _;constructor|exact rfl|apply KR.mk;kernel_rfl|show (_:PV)=_;(exfalso;omega);done|omega|intros;omega|simp only [zql];omega|intros;simp only [zql];omega|intros;simp only;omega|intro h;omega|intro h;simp at h;done|intro h;simp at h;omega|(intro h;simp at h)|intro h)
 refine aG (X:={x:Nat//x<=a.length/\∀j (h:j<x) (h1:j<a.length) (h2:j<b.length),a[j]=b[j]}) (λi=>((((St.nil 26 st).pv 0 (.seq (a.map P2))).pv 1 (.seq (b.map P2))).pv 5 ((vi ((i.1:Nat)))))) (λi=>a.length-i.1) ⟨0,by omega,λ_ h=>absurd h (Nat.not_lt_zero _)⟩ ?_ (λi=> ?_)
 ·(repeat' first|show Cn _;constructor|exact rfl)
 obtain ⟨i,hi,hI⟩:=i
 dsimp only
 by_cases hend:a.length<=i
 ·have e:decide (a=b)=true:=decide_eq_true (List.ext_getElem hl λj h1 h2=>hI j (by omega) h1 h2)
  (repeat' first|(show Cn (.r _ _ _);refine .any ⟨_,_,_,rfl,zwr _,zsr _, ?_,rfl⟩;try first|rfl|(rw [e]);done)|apply wZ;rfl|show Cn _;constructor|exact rfl|apply KR.mk;kernel_rfl|show (_:PV)=_;(rw [e]);done|omega|intros;omega|simp only [zql];omega|intros;simp only [zql];omega|intros;simp only;omega|intro h;omega|intro h;simp at h;done|intro h;simp at h;omega|(intro h;simp at h)|intro h)
 have h1:i<a.length:=by omega
 have h2:i<b.length:=by omega
 have hF:¬a[i]=b[i]->decide (a=b)=false:=λh=>decide_eq_false λq=>h (by subst q;rfl)
 have hS:a[i]=b[i]->∀j (h:j<i+1) (h1:j<a.length) (h2:j<b.length),a[j]=b[j]:=λh j hj h1 h2=>by
  rcases zls.1 hj with q|q
  ·exact hI j q h1 h2
  ·subst q;exact h
 rw [Prod.ext_iff] at hF hS
 (repeat' first|(show Cn (.r _ _ _);refine .any ⟨_,_,_,rfl,zwr _,zsr _, ?_,rfl⟩;try first|rfl|(rw [hF (by grind)]);done)|(refine ⟨⟨i+1,by omega,hS ‹_›⟩, ?_, ?_⟩)|apply wZ;rfl|show Cn _;constructor|exact rfl|apply KR.mk;kernel_rfl|show (_:PV)=_;(rw [hF (by grind)]);done|apply wI;rfl|apply gE;omega|apply gE;show 0<_;omega|apply gE;show 1<_;omega|omega|intros;omega|simp only [zql];omega|intros;simp only [zql];omega|intros;simp only;omega|intro h;omega|intro h;simp at h;done|intro h;simp at h;omega|(intro h;simp at h)|intro h)
noncomputable def mayP (s:Sc) (b:Bs) (q:Qu) (r:List Vl):Bool:=chk25 s&&xN b&&ayD q&&iY b q&&decide ((r.length:Int)<=20)
structure MayH (s:Sc) (b:Bs) (q:Qu):Prop where
 sl:s.length<200000000000000
 sK:∀t∈s,vF t/\t.checks.length<4611686018427387904
 hb:BsB b
 hS:QuS q
 ol:q.outs.length<1800000000000
 hg:∀e∈q.group,e.ok
theorem iK {s:Sc} {b:Bs} {q:Qu} (h:MayH s b q) (r:List Vl):PF Tryz.prog 6 [.agg (scC s), .agg (bsC b), .agg q.cells, .seq (r.map Vl.cells)] (vb (mayP s b q r)):=by
 have h1:=ajX s h.sl h.sK
 have h2:=arO b h.hb.1 h.hb.2
 have h3:=apG q h.hS h.ol h.hg
 have h4:=ahL b q h.hS.joins λk=>by
  unfold aU
  split
  ·rename_i w
   have w:k.toNat<b.length:=by simp only [okT,zba,zde] at w;omega
   rw [getElem!_pos b k.toNat w]
   exact (h.hb.2 _ (zgm w)).1
  ·simp
 have hm:PF Tryz.prog 19 [.agg (scC s), .agg (bsC b), .agg q.cells, .seq (r.map Vl.cells)] (vb (mayP s b q r)):=by
  unfold mayP
  have hml:(r.map Vl.cells).length=r.length:=zql _
  generalize chk25 s=A at*
  generalize xN b=B at*
  generalize ayD q=C at*
  generalize iY b q=D at*
  refine pF Tryz.func19 rfl (λst=> ?_)
  (repeat' first|(show Cn (.r _ _ _);refine .any ⟨_,_,_,rfl,zwr _,zsr _, ?_,rfl⟩;try first|rfl|(simp only [zql]);done)|apply wZ;rfl|show Cn _;constructor|exact rfl|apply KR.mk;kernel_rfl|((first|apply h1|apply h2|apply h3|apply h4)<;>(first|assumption|omega))|show (_:PV)=_;(simp only [zql]);done|apply wY;rfl|omega|intros;omega|simp only [zql];omega|intros;simp only [zql];omega|intros;simp only;omega|intro h;omega|intro h;simp at h;done|intro h;simp at h;omega|(intro h;simp at h)|intro h)
 refine pF Tryz.func6 rfl (λst=> ?_)
 (repeat' first|(show Cn (.r _ _ _);refine .any ⟨_,_,_,rfl,zwr _,zsr _, ?_,rfl⟩;try rfl)|apply wZ;rfl|show Cn _;constructor|exact rfl|apply KR.mk;kernel_rfl|(apply hm<;>(first|assumption|omega))|apply wY;rfl|omega|intros;omega|simp only [zql];omega|intros;simp only [zql];omega|intros;simp only;omega|intro h;omega|intro h;simp at h;done|intro h;simp at h;omega|(intro h;simp at h)|intro h)
end
section
set_option maxRecDepth 10000
set_option maxHeartbeats 4000000
theorem acM {s:Sc} {b:Bs} (hS:BsS 100 b) (hB:dE T.rightP s b=true) {k:Int} {out:List Int} (h:jI s k=some out):LnR b k/\(eV b k.toNat).length=(aU b k).length/\∀y∈eV b k.toNat,y.row.length=out.length/\y.by_.length<=1000/\∀v∈y.row,X.lim v.n:=by
 obtain ⟨i,hi,rfl,rfl⟩:=rO h
 obtain ⟨⟨_,hbs⟩,hd⟩:=jW.1 hB
 have hib:i<b.length:=by omega
 obtain ⟨h1,h2⟩:=hS.2 _ (zgm hib)
 have hd:=hd i hib
 rw [getElem!_pos s i hi,getElem!_pos b i hib] at hd
 obtain ⟨_,hl,_⟩:=nL.1 hd
 refine ⟨⟨by omega,by simpa using hib, ?_, ?_⟩, ?_, ?_⟩
 ·rw [show b[((i:Nat):Int).toNat]'(by simpa using hib)=b[i] from rfl];omega
 ·intro l hl'
  obtain ⟨q1,q2,q3⟩:=h2 l hl'
  exact ⟨by omega,by omega,λc hc=>alI c (q3 c hc)⟩
 ·unfold eV
  rw [zql];rfl
 ·intro y hy
  unfold eV at hy
  rw [lU (show ((i:Nat):Int).toNat<b.length by simpa using hib)] at hy
  obtain ⟨l,hl',rfl⟩:=List.mem_map.1 hy
  have hl'':l∈b[i].lines:=hl'
  obtain ⟨q1,q2,q3⟩:=h2 l hl''
  have hli:=hl l hl''
  unfold jU oJ at hli
  simp only [zba,zde,qJ] at hli
  obtain ⟨⟨⟨_,_,hcl⟩,_⟩,hce,_⟩:=hli
  refine ⟨?_,q1, ?_⟩
  ·show (l.cells_.map jK).length=(gJ s[i]).length
   unfold gJ
   rw [zql,zql,hcl]
  ·intro v hv
   obtain ⟨c,hc,rfl⟩:=List.mem_map.1 (show v∈l.cells_.map jK from hv)
   obtain ⟨j,hj,rfl⟩:=zgo hc
   have:=hce j hj
   unfold xH at this
   rw [getElem!_pos l.cells_ j hj,zba] at this
   exact atH this.2 (q3 _ hc)
theorem apK {l r:Nat} {xs ys:List Wd} {z:Wd} (h:z∈dS l r xs ys):∃x∈xs,∃y∈ys,z=⟨x.row++y.row,jS x.by_ y.by_⟩:=by
 unfold dS at h
 obtain ⟨x,hx,h⟩:=List.mem_flatMap.1 h
 obtain ⟨y,hy,h⟩:=List.mem_filterMap.1 h
 unfold fK at h
 split at h
 ·cases h
 ·cases h;exact ⟨x,hx,y,hy,rfl⟩
theorem aoR (l r:Nat) (xs ys:List Wd):(dS l r xs ys).length<=xs.length*ys.length:=by
 unfold dS
 induction xs with
 |nil=>simp
 |cons x xs ih=>
  rw [List.flatMap_cons,zla,zlc,Nat.succ_mul]
  have:=List.length_filterMap_le (fK l r x) ys
  omega
theorem ahR {b:Bs}:∀{js:List Jn} {n:Int},rD b js n<=3000->n<=3000
 |[],_,h=>h
 |j::js,n,h=>by
  simp only [rD] at h
  split at h
  ·assumption
  ·exact h
theorem acT {s:Sc} {b:Bs} {q:Qu} (hS:BsS 100 b) (hB:dE T.rightP s b=true) (hK:(dC s q).2=0) (hL:iY b q=true) (hc:∀t∈s,t.cols.length<=1000):∀i≤q.joins.length,∃(out:List Int) (n:Int),(nK s (q.joins.drop i) out).2=0/\out.length<=1000*(i+1)/\(∀x∈fN b q i,x.row.length=out.length/\x.by_.length<=1000*(i+1)/\∀v∈x.row,X.lim v.n)/\((fN b q i).length:Int)<=n/\rD b (q.joins.drop i) n<=3000
 |0,_=>by
  unfold dC at hK
  split at hK
  ·cases hK
  ·rename_i out hk
   split at hK
   ·cases hK
   ·obtain ⟨_,h2,h3⟩:=acM hS hB hk
    refine ⟨out,(aU b q.table).length,hK,by have:=iD hc hk;omega,λx hx=> ?_, ?_, ?_⟩
    ·obtain ⟨q1,q2,q3⟩:=h3 x hx
     exact ⟨q1,by omega,q3⟩
    ·show (((eV b q.table.toNat).length:Nat):Int)<=_
     rw [h2];omega
    ·unfold iY at hL;exact of_decide_eq_true hL
 |i+1,hi=>by
  obtain ⟨out,n,h1,h2,h3,h4,h5⟩:=acT hS hB hK hL hc i (by omega)
  have hil:i<q.joins.length:=by omega
  rw [List.drop_eq_getElem_cons hil] at h1 h5
  simp only [nK] at h1
  have hn:=ahR h5
  simp only [rD] at h5
  rw [zp hn] at h5
  split at h1
  ·cases h1
  ·rename_i more hk
   split at h1
   ·cases h1
   ·split at h1
    ·cases h1
    ·obtain ⟨_,t2,t3⟩:=acM hS hB hk
     rw [qT hil]
     refine ⟨out++more,_,h1, ?_,λz hz=> ?_, ?_,h5⟩
     ·have:=iD hc hk
      rw [zla];omega
     ·obtain ⟨x,hx,y,hy,rfl⟩:=apK hz
      obtain ⟨a1,a2,a3⟩:=h3 x hx
      obtain ⟨b1,b2,b3⟩:=t3 y hy
      have:=vJ x.by_ y.by_
      refine ⟨by simp only [zla];omega,by simp only;omega,λv hv=> ?_⟩
      rcases zma.1 hv with w|w
      ·exact a3 v w
      ·exact b3 v w
     ·have hj:=aoR q.joins[i].left.toNat q.joins[i].right.toNat (fN b q i) (eV b q.joins[i].table.toNat)
      rw [t2] at hj
      refine Int.le_trans (Int.ofNat_le.2 hj) ?_
      rw [Int.natCast_mul]
      exact Int.mul_le_mul_of_nonneg_right h4 (by omega)
theorem azH {s:Sc} {b:Bs} {q:Qu} (hS:BsS 100 b) (hB:dE T.rightP s b=true) (hK:(dC s q).2=0) (hL:iY b q=true) (hc:∀t∈s,t.cols.length<=1000):WdOK b q/\∀w∈mP b q,X.rowOK w.row/\w.by_.length<=100000:=by
 have hI:=acT hS hB hK hL hc
 have hj4:q.joins.length<=4/\∃out,jI s q.table=some out:=by
  unfold dC at hK
  split at hK
  ·cases hK
  ·rename_i out hk
   split at hK
   ·cases hK
   ·exact ⟨by omega,out,hk⟩
 obtain ⟨hj4,out0,hk0⟩:=hj4
 refine ⟨⟨by omega,(acM hS hB hk0).1,λi hil=> ?_,λi hi=> ?_,λi hi x hx=> ?_⟩,λw hw=> ?_⟩
 ·obtain ⟨out,n,h1,h2,h3,h4,h5⟩:=hI i (by omega)
  rw [List.drop_eq_getElem_cons hil] at h1
  simp only [nK] at h1
  split at h1
  ·cases h1
  ·rename_i more hk
   split at h1
   ·cases h1
   ·rename_i hr
    obtain ⟨t1,t2,t3⟩:=acM hS hB hk
    refine ⟨t1,by omega,by omega,λx hx=> ?_,λy hy=> ?_⟩
    ·have:=(h3 x hx).1;omega
    ·have:=(t3 y hy).1;omega
 ·obtain ⟨out,n,h1,h2,h3,h4,h5⟩:=hI i hi
  have:=ahR h5
  omega
 ·obtain ⟨out,n,h1,h2,h3,h4,h5⟩:=hI i hi
  obtain ⟨a1,a2,a3⟩:=h3 x hx
  omega
 ·obtain ⟨out,n,h1,h2,h3,h4,h5⟩:=hI q.joins.length (Nat.le_refl _)
  obtain ⟨a1,a2,a3⟩:=h3 w hw
  exact ⟨⟨by omega,a3⟩,by omega⟩
end
end Go.Proofs.YtppdefkgmegipaaGreatDoor
