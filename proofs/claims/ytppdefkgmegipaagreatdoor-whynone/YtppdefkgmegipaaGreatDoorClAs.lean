import Derived.Test.YtppdefkgmegipaaGreatDoorClAr
import Derived.Test.YtppdefkgmegipaaGreatDoorClAc
import Derived.Test.YtppdefkgmegipaaGreatDoorAbsJ
import Derived.Test.YtppdefkgmegipaaGreatDoorAbsI
import Derived.Test.YtppdefkgmegipaaGreatDoorClAa
import Derived.Test.YtppdefkgmegipaaGreatDoorAbsE
set_option linter.unusedSimpArgs false
set_option linter.unusedVariables false
namespace Go.Proofs.YtppdefkgmegipaaGreatDoor
open Go Go.Abs
section
attribute [local irreducible] Ev PWp
set_option maxRecDepth 10000
set_option maxHeartbeats 4000000
theorem aoZ (fid:FuncId) (caps:List PV) (f:Ln->Bool) (l:List Ln) (hl:l.length<4611686018427387904) (hf:∀p∈l,PF Tryz.prog fid ([.agg p.cells]++caps) (vb (f p))):PF Tryz.prog 93 [.seq (l.map Ln.cells), .fn fid caps] (vi (bT f l)):=by
 refine pF Tryz.func93 rfl (λst=> ?_)
 focus ((repeat' first|(show Cn (.r _ _ _);refine .any ⟨_,_,_,rfl,zwr _,zsr _, ?_,rfl⟩;try rfl)|apply wZ;rfl|show Cn _;constructor|exact rfl|apply KR.mk;kernel_rfl|omega|intros;omega|simp only [zql];omega|intros;simp only [zql];omega|intros;simp only;omega|intro h;omega|intro h;simp at h;done|intro h;simp at h;omega|(intro h;simp at h)|intro h))
 refine aG (X:={x:Nat//x<=l.length/\∀j (h:j<x) (h2:j<l.length),f l[j]=false}) (λi=>(((((St.nil 19 st).pv 0 (.seq (l.map Ln.cells))).pv 1 (.fn fid caps)).pv 7 ((vi ((((l.map Ln.cells)).length:Nat))))).pv 8 ((vi ((i.1:Nat)))))) (λi=>l.length-i.1) ⟨0,by omega,by omega⟩ ?_ (λi=> ?_)
 ·(repeat' first|show Cn _;constructor|exact rfl)
 obtain ⟨i,hi,hinv⟩:=i
 dsimp only
 by_cases hend:l.length<=i
 ·(repeat' first|(show Cn (.r _ _ _);refine .any ⟨_,_,_,rfl,zwr _,zsr _, ?_,rfl⟩;try first|rfl|(unfold bT;rw [eP hend hinv]);done)|apply wZ;rfl|show Cn _;constructor|exact rfl|apply KR.mk;kernel_rfl|show (_:PV)=_;(unfold bT;rw [eP hend hinv]);done|omega|intros;omega|simp only [zql];omega|intros;simp only [zql];omega|intros;simp only;omega|intro h;omega|intro h;simp at h;done|intro h;simp at h;omega|(intro h;simp at h)|intro h)
 have hil:i<l.length:=by omega
 have hf:=hf l[i] (zgm hil)
 cases hx:f l[i] with
 |true=>
  rw [hx] at hf
  have e:bT f l=((i:Nat):Int):=by unfold bT;rw [gQ hil hx hinv]
  (repeat' first|(apply Cn.cf;focus ((apply hf<;>(first|assumption|omega));done))|(apply cV;focus ((apply hf<;>(first|assumption|omega));done))|(show Cn (.r _ _ _);refine .any ⟨_,_,_,rfl,zwr _,zsr _, ?_,rfl⟩;try first|rfl|(rw [e]);done)|apply wZ;rfl|show Cn _;constructor|exact rfl|apply KR.mk;kernel_rfl|show (_:PV)=_;(rw [e]);done|apply wY;rfl|apply wI;rfl|apply gE;omega|apply gE;show 0<_;omega|apply gE;show 1<_;omega|omega|intros;omega|simp only [zql];omega|intros;simp only [zql];omega|intros;simp only;omega|intro h;omega|intro h;simp at h;done|intro h;simp at h;omega|(intro h;simp at h)|intro h)
 |false=>
  rw [hx] at hf
  (repeat' first|(apply Cn.cf;focus ((apply hf<;>(first|assumption|omega));done))|(apply cV;focus ((apply hf<;>(first|assumption|omega));done))|(show Cn (.r _ _ _);refine .any ⟨_,_,_,rfl,zwr _,zsr _, ?_,rfl⟩;try rfl)|(refine ⟨⟨i+1,hil,λj h1 h2=>(by rcases zls.1 h1 with q|q;exact hinv j q h2;subst q;exact hx)⟩, ?_, ?_⟩)|apply wZ;rfl|show Cn _;constructor|exact rfl|apply KR.mk;kernel_rfl|apply wY;rfl|apply wI;rfl|apply gE;omega|apply gE;show 0<_;omega|apply gE;show 1<_;omega|omega|intros;omega|simp only [zql];omega|intros;simp only [zql];omega|intros;simp only;omega|intro h;omega|intro h;simp at h;done|intro h;simp at h;omega|(intro h;simp at h)|intro h)
theorem aBK (fid:FuncId) (caps:List PV) {st:aD} {id:Nat} (hst:st id=some (.arr 48 [])):PC Tryz.prog 93 [.vec id 3 0 0, .fn fid caps] st λr S=>r=(vi ((-1:Int)))/\st=S:=by
 refine pC Tryz.func93 rfl ?_
 focus ((repeat' first|apply wDx pk;rfl;kernel_rfl;rfl;rfl|(show Cn (.e _ _ _ _);refine .any ?_;(first|(refine ⟨_,_,_,rfl,zwr _,zsr _, ?_,rfl⟩;(first|rfl))|(refine ⟨_,_,_,rfl,zwr _,aB ‹_›, ?_,rfl⟩;(first|rfl))|(refine ⟨_,_,_,rfl,zwf _,zsr _, ?_,rfl⟩;(first|rfl))|(refine ⟨_,_,_,rfl,zwf _,aB ‹_›, ?_,rfl⟩;(first|rfl))|(refine ⟨_,_,_,rfl,zwr _,zsr _, ?_,rfl⟩)|(refine ⟨_,_,_,rfl,zwf _,aB ‹_›, ?_,rfl⟩)))|apply wZ;rfl|show Cn _;constructor|exact rfl|apply KR.mk;kernel_rfl|apply ncA;rfl;rfl;rfl;rotate_left;rfl;rfl|apply ldR pk;rfl;rfl;rotate_left;rfl;(focus ((repeat (first|exact aA _ _ _|assumption|refine (aC ‹_›).trans ?_));done));rfl;rfl|apply stR pk;rfl;rfl;(focus ((repeat (first|exact aA _ _ _|assumption|refine (aC ‹_›).trans ?_));done));rfl;rfl|omega|intros;omega|simp only [zql];omega|intros;simp only [zql];omega|intros;simp only;omega|intro h;omega|intro h;simp at h;done|intro h;simp at h;omega|(intro h;simp at h)|intro h))
 refine aG (X:={x:Nat//x<=0}) (λi=>(((((St.nil 19 (st)).pv 0 (.vec id 3 0 0)).pv 1 (.fn fid caps)).pv 7 ((vi ((0:Nat))))).pv 8 ((vi ((i.1:Nat)))))) (λi=>0-i.1) ⟨0,by omega⟩ ?_ (λi=> ?_)
 ·(repeat' first|show Cn (.t _ _);exact Cn.t0|show Cn (.t _ _);exact .any (aJ ‹_›)|(show Cn (.t _ _);exact .any (aI (by (first|rfl|exact aL ‹_›|((simp only [St.pv,St.put,St.sst,St.setv,St.nil,St.var,aH]);(first|done|rfl))))))|(show Cn (.t _ _);refine .any (aI ?_);(simp only [St.pv,St.put,St.sst,St.setv,St.nil,St.var,aH]);(rw [dA ‹_›]);(first|done|rfl))|show Cn _;constructor|exact rfl)
 obtain ⟨i,hi⟩:=i
 obtain rfl:i=0:=by omega
 dsimp only
 (repeat' first|apply wDx pk;rfl;kernel_rfl;rfl;rfl|(show Cn (.e _ _ _ _);refine .any ?_;(first|(refine ⟨_,_,_,rfl,zwr _,zsr _, ?_,rfl⟩;(first|rfl))|(refine ⟨_,_,_,rfl,zwr _,aB ‹_›, ?_,rfl⟩;(first|rfl))|(refine ⟨_,_,_,rfl,zwf _,zsr _, ?_,rfl⟩;(first|rfl))|(refine ⟨_,_,_,rfl,zwf _,aB ‹_›, ?_,rfl⟩;(first|rfl))|(refine ⟨_,_,_,rfl,zwr _,zsr _, ?_,rfl⟩)|(refine ⟨_,_,_,rfl,zwf _,aB ‹_›, ?_,rfl⟩)))|show Cn (.r _ _ _);refine .rr ?_;(exact ⟨rfl,rfl⟩);done|show Cn (.r _ _ _);refine .any ⟨_,_, ?zs,rfl,zwr _, ?zh, ?zr⟩;(case zh=>(refine aF ?_ ‹_›;(repeat refine aF ?_ ‹_›);exact zsr _));(case zr=>(exact ⟨rfl,rfl⟩))|apply wZ;rfl|show Cn _;constructor|exact rfl|apply KR.mk;kernel_rfl|apply ncA;rfl;rfl;rfl;rotate_left;rfl;rfl|apply ldR pk;rfl;rfl;rotate_left;rfl;(focus ((repeat (first|exact aA _ _ _|assumption|refine (aC ‹_›).trans ?_));done));rfl;rfl|apply stR pk;rfl;rfl;(focus ((repeat (first|exact aA _ _ _|assumption|refine (aC ‹_›).trans ?_));done));rfl;rfl|omega|intros;omega|simp only [zql];omega|intros;simp only [zql];omega|intros;simp only;omega|intro h;omega|intro h;simp at h;done|intro h;simp at h;omega|(intro h;simp at h)|intro h)
theorem axQ (fid:FuncId) (caps:List PV) (f:Ln->Bool) (l:List Ln) (hl:l.length<4611686018427387904) (hf:∀p∈l,PF Tryz.prog fid ([.agg p.cells]++caps) (vb (f p))) {st:aD} {id:Nat} (hst:st id=some (.arr 48 (l.map Ln.cells))):PC Tryz.prog 93 [.vec id 3 0 l.length, .fn fid caps] st λr S=>r=(vi (bT f l))/\st=S:=by
 by_cases h0:l.length=0
 ·obtain rfl:l=[]:=List.eq_nil_of_length_eq_zero h0
  exact aBK fid caps hst
 ·have:=PC.borrow 0 hst abB (by rw [zql];omega) (.cons (eH rfl) (.cons .refl .nil)) (WkL.refl _) (aoZ fid caps f l hl hf) rfl
  exact ⟨this.1,λw g vs h1 h2=>(this.2 w g vs h1 h2).mono λe w' ⟨v,p,S,g',a,⟨b1,b2⟩,c⟩=>⟨v,p,S,g',a,⟨b1,b2.symm⟩,c⟩⟩
def eF (f:Ln->Bool) (l:List Ln):List Ln:=l.filter λx=> !f x
theorem akX {f:Ln->Bool} {l:List Ln} {i:Nat} (h:i<l.length):eF f (l.take (i+1))=eF f (l.take i)++if f l[i]=true then [] else [l[i]]:=by
 unfold eF
 rw [List.take_succ_eq_append_getElem h,List.filter_append]
 by_cases hf:f l[i]=true<;>simp [hf]
def heL (xs:Array Ln) (n:Nat):List Ln:=xs.toList.take n
theorem aAG {xs:Array Ln} {k:Nat} (h:k<xs.size):heL xs (k+1)=heL xs k++[xs[k]!]:=by
 unfold heL
 rw [List.take_succ_eq_append_getElem (by simpa using h),getElem!_pos xs k h];simp
theorem aAj {xs:Array Ln} {k n:Nat} {v:Ln} (h:n<=k):heL (xs.setIfInBounds k v) n=heL xs n:=by
 unfold heL
 rw [Array.toList_setIfInBounds,List.take_set,List.set_eq_of_length_le (by simp;omega)]
theorem amW (fid:FuncId) (caps:List PV) (f:Ln->Bool) (l:List Ln) (hl:l.length<1000000000000) (hf:∀p∈l,PF Tryz.prog fid ([.agg p.cells]++caps) (vb (f p))) {st:aD} {id n:Nat} (hst:st id=some (.arr 48 (l.map Ln.cells))) (hn:l.length=n):PC Tryz.prog 53 [.vec id 3 0 n, .fn fid caps] st λr S=>∃rows,r= .vec id 3 0 (eF f l).length/\S=upd st id (some (.arr 48 rows))/\rows.length=n/\rows.take (eF f l).length=(eF f l).map Ln.cells:=by
 have hi:=axQ fid caps f l (by omega) hf hst
 rw [hn] at hi
 unfold bT at hi
 cases hx:l.findIdx? f with
 |none=>
  rw [hx] at hi
  dsimp only at hi
  have e:eF f l=l:=by
   unfold eF
   rw [List.filter_eq_self]
   intro x hx'
   have:=List.findIdx?_eq_none_iff.1 hx x hx'
   simpa using this
  rw [e,hn]
  refine pC Tryz.func53 rfl ?_
  (repeat' first|apply wDx pk;rfl;kernel_rfl;rfl;rfl|(show Cn (.e _ _ _ _);refine .any ?_;(first|(refine ⟨_,_,_,rfl,zwr _,zsr _, ?_,rfl⟩;(first|rfl))|(refine ⟨_,_,_,rfl,zwr _,aB ‹_›, ?_,rfl⟩;(first|rfl))|(refine ⟨_,_,_,rfl,zwf _,zsr _, ?_,rfl⟩;(first|rfl))|(refine ⟨_,_,_,rfl,zwf _,aB ‹_›, ?_,rfl⟩;(first|rfl))|(refine ⟨_,_,_,rfl,zwr _,zsr _, ?_,rfl⟩)|(refine ⟨_,_,_,rfl,zwf _,aB ‹_›, ?_,rfl⟩)))|show Cn (.r _ _ _);refine .rr ?_;(exact ⟨_,rfl,(aL hst).symm,by simpa using hn,by rw [ztl (by rw [zql];omega)]⟩);done|show Cn (.r _ _ _);refine .any ⟨_,_, ?zs,rfl,zwr _, ?zh, ?zr⟩;(case zh=>(refine aF ?_ ‹_›;(repeat refine aF ?_ ‹_›);exact zsr _));(case zr=>(exact ⟨_,rfl,(aL hst).symm,by simpa using hn,by rw [ztl (by rw [zql];omega)]⟩))|apply wZ;rfl|show Cn _;constructor|exact rfl|apply KR.mk;kernel_rfl|apply ncA;rfl;rfl;rfl;rotate_left;rfl;rfl|apply ldR pk;rfl;rfl;rotate_left;rfl;(focus ((repeat (first|exact aA _ _ _|assumption|refine (aC ‹_›).trans ?_));done));rfl;rfl|apply stR pk;rfl;rfl;(focus ((repeat (first|exact aA _ _ _|assumption|refine (aC ‹_›).trans ?_));done));rfl;rfl|((apply eE;rfl;rfl;exact hi;rfl;rfl;rfl;intro _ st' hR;obtain ⟨rfl,rfl⟩:=hR))|omega|intros;omega|simp only [zql];omega|intros;simp only [zql];omega|intros;simp only;omega|exfalso;omega|intro h;omega|intro h;simp at h;done|intro h;simp at h;omega|(intro h;simp at h)|intro h)
 |some k=>
  rw [hx] at hi
  dsimp only at hi
  obtain ⟨hk,hfk,hno⟩:=List.findIdx?_eq_some_iff_getElem.1 hx
  have hk0:eF f (l.take k)=l.take k:=by
   unfold eF
   rw [List.filter_eq_self]
   intro x hx'
   obtain ⟨j,hj,rfl⟩:=zgo hx'
   rw [zlt] at hj
   rw [List.getElem_take]
   simpa using hno j (by omega)
  have hk1:eF f (l.take (k+1))=l.take k:=by rw [akX hk,zp hfk,List.append_nil,hk0]
  have hka:l.toArray.size=n:=by simpa using hn
  have hkn:k<n:=by omega
  have hih:heL l.toArray k=eF f (l.take (k+1)):=by rw [hk1];rfl
  refine pC Tryz.func53 rfl ?_
  focus ((repeat' first|apply wDx pk;rfl;kernel_rfl;rfl;rfl|(show Cn (.e _ _ _ _);refine .any ?_;(first|(refine ⟨_,_,_,rfl,zwr _,zsr _, ?_,rfl⟩;(first|rfl))|(refine ⟨_,_,_,rfl,zwr _,aB ‹_›, ?_,rfl⟩;(first|rfl))|(refine ⟨_,_,_,rfl,zwf _,zsr _, ?_,rfl⟩;(first|rfl))|(refine ⟨_,_,_,rfl,zwf _,aB ‹_›, ?_,rfl⟩;(first|rfl))|(refine ⟨_,_,_,rfl,zwr _,zsr _, ?_,rfl⟩)|(refine ⟨_,_,_,rfl,zwf _,aB ‹_›, ?_,rfl⟩)))|apply wZ;rfl|show Cn _;constructor|exact rfl|apply KR.mk;kernel_rfl|apply ncA;rfl;rfl;rfl;rotate_left;rfl;rfl|apply ldR pk;rfl;rfl;rotate_left;rfl;(focus ((repeat (first|exact aA _ _ _|assumption|refine (aC ‹_›).trans ?_));done));rfl;rfl|apply stR pk;rfl;rfl;(focus ((repeat (first|exact aA _ _ _|assumption|refine (aC ‹_›).trans ?_));done));rfl;rfl|((apply eE;rfl;rfl;exact hi;rfl;rfl;rfl;intro _ st' hR;obtain ⟨rfl,rfl⟩:=hR))|omega|intros;omega|simp only [zql];omega|intros;simp only [zql];omega|intros;simp only;omega|exfalso;omega|intro h;omega|intro h;simp at h;done|intro h;simp at h;omega|(intro h;simp at h)|intro h))
  refine aG (X:={x:Nat×Nat×Array Ln//x.1<x.2.1/\x.2.1<=n/\x.2.2.size=n/\(∀j,x.2.1<=j->j<n->x.2.2[j]! =l[j]!)/\heL x.2.2 x.1=eF f (l.take x.2.1)}) (λi=>(((((St.nil 42 (upd st id (some (.arr 48 (i.1.2.2.toList.map Ln.cells))))).pv 0 (.vec id 3 0 n)).pv 1 (.fn fid caps)).pv 5 ((vi ((i.1.1:Nat))))).pv 6 ((vi ((i.1.2.1:Nat)))))) (λi=>n-i.1.2.1) ⟨(k,k+1,l.toArray),by simp,by simp only;omega,hka,λj _ hj=>by simp,hih⟩ ?_ (λi=> ?_)
  ·dsimp only
   (repeat' first|show Cn (.t _ _);exact Cn.t0|show Cn (.t _ _);exact .any (aJ ‹_›)|(show Cn (.t _ _);exact .any (aI (by (first|rfl|exact aL ‹_›|((simp only [St.pv,St.put,St.sst,St.setv,St.nil,St.var,aH]);(first|done|rfl))))))|(show Cn (.t _ _);refine .any (aI ?_);(simp only [St.pv,St.put,St.sst,St.setv,St.nil,St.var,aH]);(rw [dA ‹_›]);(first|done|rfl))|show Cn _;constructor|exact rfl|exact Sub.nil _ _ _ (by rw [aL hst]) rfl)
  obtain ⟨⟨p,y,ys⟩,h1,h2,hys,hy,hyL⟩:=i
  simp only at h1 h2 hys hy hyL
  dsimp only
  by_cases hend:n<=y
  ·obtain rfl:y=n:=by omega
   have hte:l.take y=l:=by rw [<-hn];exact List.take_length
   rw [hte] at hyL
   have hpe:(eF f l).length=p:=by rw [<-hyL];simp only [heL,zlt,Array.length_toList];omega
   have hr:(ys.toList.map Ln.cells).length=y:=by rw [zql,Array.length_toList,hys]
   have hpl:(bE (ys.toList.map Ln.cells) p (bM (y-p) 3)).length=y:=(fD (by rw [hr];simp only [bM,List.length_replicate];omega)).trans hr
   have hput:∀m,(bE (ys.toList.map Ln.cells) p (bM m 3)).take p=(eF f l).map Ln.cells:=λm=>by
    unfold bE
    rw [List.append_assoc,List.take_append_of_le_length (by rw [zlt,hr];omega),List.take_take,Nat.min_self,<-List.map_take]
    exact congrArg (List.map Ln.cells) hyL
   rw [hpe]
   (repeat' first|apply wDx pk;rfl;kernel_rfl;rfl;rfl|(show Cn (.e _ _ _ _);refine .any ?_;(first|(refine ⟨_,_,_,rfl,zwr _,zsr _, ?_,rfl⟩;(first|rfl))|(refine ⟨_,_,_,rfl,zwr _,aB ‹_›, ?_,rfl⟩;(first|rfl))|(refine ⟨_,_,_,rfl,zwf _,zsr _, ?_,rfl⟩;(first|rfl))|(refine ⟨_,_,_,rfl,zwf _,aB ‹_›, ?_,rfl⟩;(first|rfl))|(refine ⟨_,_,_,rfl,zwr _,zsr _, ?_,rfl⟩)|(refine ⟨_,_,_,rfl,zwf _,aB ‹_›, ?_,rfl⟩)))|show Cn (.r _ _ _);refine .rr ?_;(exact ⟨_,rfl,aH _ _ _ _,hpl,hput _⟩);done|show Cn (.r _ _ _);refine .any ⟨_,_, ?zs,rfl,zwr _, ?zh, ?zr⟩;(case zh=>(refine aF ?_ ‹_›;(repeat refine aF ?_ ‹_›);exact zsr _));(case zr=>(exact ⟨_,rfl,aH _ _ _ _,hpl,hput _⟩))|apply wZ;rfl|show Cn _;constructor|exact rfl|apply KR.mk;kernel_rfl|apply ncA;rfl;rfl;rfl;rotate_left;rfl;rfl|apply ldR pk;rfl;rfl;rotate_left;rfl;(focus ((repeat (first|exact aA _ _ _|assumption|refine (aC ‹_›).trans ?_));done));rfl;rfl|apply stR pk;rfl;rfl;(focus ((repeat (first|exact aA _ _ _|assumption|refine (aC ‹_›).trans ?_));done));rfl;rfl|apply lT pk p (y-p);(iterate 4 rfl);rotate_left;rfl;(intro _;exact ⟨_,bL rfl rfl,by omega⟩);(intro _;exact ⟨_,cC,by omega⟩);(intro _;omega);(intro _;omega);rfl|(refine aiH pk (id:=id) (off:=p) (len:=y-p) (rows:=ys.toList.map Ln.cells) rfl rfl rfl rfl rfl rfl rfl rfl (aA _ _ _) (by omega) (by omega) (by omega) rfl ?_)|apply afO pk p;(iterate 4 rfl);rotate_left;rfl;(intro _;exact bL rfl rfl);(intro _;omega);(intro _;omega);rfl|omega|intros;omega|simp only [zql];omega|intros;simp only [zql];omega|intros;simp only;omega|exfalso;omega|intro h;omega|intro h;simp at h;done|intro h;simp at h;omega|(intro h;simp at h)|intro h)
  have hyn:y<n:=by omega
  have hyl:y<l.length:=by omega
  have hr1:=hy y (Nat.le_refl _) hyn
  have hfy:=hf l[y] (zgm hyl)
  have hup:=akX (f:=f) hyl
  rw [getElem!_pos l y hyl] at hr1
  rw [<-hr1] at hfy hup
  cases hx2:f ys[y]! with
  |true=>
   rw [hx2] at hfy
   rw [zp hx2,List.append_nil] at hup
   (repeat' first|apply wDx pk;rfl;kernel_rfl;rfl;rfl|(apply Cn.cf;focus ((apply hfy<;>(first|assumption|omega));done))|(apply cV;focus ((apply hfy<;>(first|assumption|omega));done))|(show Cn (.r _ _ _);refine .any ⟨_,_,_,rfl,zwr _,zsr _, ?_,rfl⟩;try rfl)|(refine ⟨⟨(p,y+1,ys),by simp only;omega,by simp only;omega,hys,λj q1 q2=>hy j (by simp only at q1;omega) q2,hyL.trans hup.symm⟩, ?_, ?_⟩)|show Cn (.t _ _);exact Cn.t0|show Cn (.t _ _);exact .any (aJ ‹_›)|(show Cn (.t _ _);exact .any (aI (by (first|rfl|exact aL ‹_›|((simp only [St.pv,St.put,St.sst,St.setv,St.nil,St.var,aH]);(first|done|rfl))))))|(show Cn (.t _ _);refine .any (aI ?_);(simp only [St.pv,St.put,St.sst,St.setv,St.nil,St.var,aH]);(rw [dA ‹_›]);(first|done|rfl))|apply wZ;rfl|show Cn _;constructor|exact rfl|apply KR.mk;kernel_rfl|apply ncA;rfl;rfl;rfl;rotate_left;rfl;rfl|apply ldR pk;rfl;rfl;rotate_left;rfl;(focus ((repeat (first|exact aA _ _ _|assumption|refine (aC ‹_›).trans ?_));done));rfl;rfl|apply stR pk;rfl;rfl;(focus ((repeat (first|exact aA _ _ _|assumption|refine (aC ‹_›).trans ?_));done));rfl;rfl|(apply ixA pk;(iterate 5 rfl);rotate_left;rfl;(intro hw;(first|exact (show _=((y:Nat):Int) from by omega)|(simp [gw] at hw;first|exact (show _=((y:Nat):Int) from by omega)|refine (show _=((0:Nat):Int) from ?_);omega)|exact rfl));(intro hw;(first|omega|(focus (simp [gw] at hw;done))|simp [gw] at hw;omega|simp only [zqs];omega));rfl;(first|exact Nat.zero_add _|exact rfl))|apply ldA pk Ln.elem;rfl;rfl;rotate_left;rfl;(focus ((repeat (first|exact aA _ _ _|assumption|refine (aC ‹_›).trans ?_));done));(intro hw;(first|omega|(focus (simp [gw] at hw;done))|simp [gw] at hw;omega|simp only [zqs];omega));rfl|apply stA pk Ln.elem;rfl;rfl;rfl;(focus ((repeat (first|exact aA _ _ _|assumption|refine (aC ‹_›).trans ?_));done));(first|omega|simp only [zqs];omega);rfl|apply wY;rfl|omega|intros;omega|simp only [zql];omega|intros;simp only [zql];omega|intros;simp only;omega|exfalso;omega|intro h;omega|intro h;simp at h;done|intro h;simp at h;omega|(intro h;simp at h)|intro h)
  |false=>
   rw [hx2] at hfy
   rw [zn (by rw [hx2];simp)] at hup
   have hya:∀j,y+1<=j->j<n->(ys.setIfInBounds p ys[y]!)[j]! =l[j]!:=λj q1 q2=>by
    rw [getElem!_pos _ j (by rw [zqs];omega),Array.getElem_setIfInBounds_ne (by omega) (by omega),<-getElem!_pos ys j (by omega)]
    exact hy j (by omega) q2
   have hyM:heL (ys.setIfInBounds p ys[y]!) (p+1)=eF f (l.take (y+1)):=by
    rw [hup,<-hyL,aAG (by rw [zqs];omega),aAj (Nat.le_refl _),getElem!_pos _ _ (by rw [zqs];omega),Array.getElem_setIfInBounds_self]
   (repeat' first|apply wDx pk;rfl;kernel_rfl;rfl;rfl|(apply Cn.cf;focus ((apply hfy<;>(first|assumption|omega));done))|(apply cV;focus ((apply hfy<;>(first|assumption|omega));done))|(show Cn (.r _ _ _);refine .any ⟨_,_,_,rfl,zwr _,zsr _, ?_,rfl⟩;try rfl)|(refine ⟨⟨(p+1,y+1,ys.setIfInBounds p ys[y]!),by simp only;omega,by simp only;omega,by rw [zqs];exact hys,hya,hyM⟩, ?_, ?_⟩)|show Cn (.t _ _);exact Cn.t0|show Cn (.t _ _);exact .any (aJ ‹_›)|(show Cn (.t _ _);exact .any (aI (by (first|rfl|exact aL ‹_›|((simp only [St.pv,St.put,St.sst,St.setv,St.nil,St.var,aH]);(first|done|rfl))))))|(show Cn (.t _ _);refine .any (aI ?_);(simp only [St.pv,St.put,St.sst,St.setv,St.nil,St.var,aH]);(rw [dA ‹_›]);(first|done|rfl))|apply wZ;rfl|show Cn _;constructor|exact rfl|apply KR.mk;kernel_rfl|apply ncA;rfl;rfl;rfl;rotate_left;rfl;rfl|apply ldR pk;rfl;rfl;rotate_left;rfl;(focus ((repeat (first|exact aA _ _ _|assumption|refine (aC ‹_›).trans ?_));done));rfl;rfl|apply stR pk;rfl;rfl;(focus ((repeat (first|exact aA _ _ _|assumption|refine (aC ‹_›).trans ?_));done));rfl;rfl|(apply ixA pk;(iterate 5 rfl);rotate_left;rfl;(intro hw;(first|exact (show _=((y:Nat):Int) from by omega)|exact (show _=((p:Nat):Int) from by omega)|(simp [gw] at hw;first|exact (show _=((y:Nat):Int) from by omega)|exact (show _=((p:Nat):Int) from by omega)|refine (show _=((0:Nat):Int) from ?_);omega)|exact rfl));(intro hw;(first|omega|(focus (simp [gw] at hw;done))|simp [gw] at hw;omega|simp only [zqs];omega));rfl;(first|exact Nat.zero_add _|exact rfl))|apply ldA pk Ln.elem;rfl;rfl;rotate_left;rfl;(focus ((repeat (first|exact aA _ _ _|assumption|refine (aC ‹_›).trans ?_));done));(intro hw;(first|omega|(focus (simp [gw] at hw;done))|simp [gw] at hw;omega|simp only [zqs];omega));rfl|apply stA pk Ln.elem;rfl;rfl;rfl;(focus ((repeat (first|exact aA _ _ _|assumption|refine (aC ‹_›).trans ?_));done));(first|omega|simp only [zqs];omega);rfl|apply wY;rfl|omega|intros;omega|simp only [zql];omega|intros;simp only [zql];omega|intros;simp only;omega|exfalso;omega|intro h;omega|intro h;simp at h;done|intro h;simp at h;omega|(intro h;simp at h)|intro h)
end
section
set_option maxRecDepth 10000
set_option maxHeartbeats 4000000
theorem aBU {S:aD} {id:Nat} {a b:Option AObj} (h:S id=none):upd (upd (upd S id a) id b) id none=S:=by rw [aH,aH,aL h]
theorem aiG {P:Program} {S0:aD} {l r:List Oper} {o:Oper} {K:St->Prop} {s:St} (u:Nat) {id sz m:Nat} {T:TypeId} {rows q:List (List PV)} (hx:s.env u=(true, .pv (.vec id sz 0 m))) (hst:s.st id=some (.arr T rows)) (hT:P.cellsOf T=sz) (hq:rows.take m=q) (hS:upd s.st id none=S0) (k:Ev P l .seq (o::r) ((s.sst S0).pv u (.seq q)) K):Ev P l .seq (o::r) s K:=by
 subst hS
 intro c a w g lam hs
 obtain ⟨g',h⟩:=hs.freezeT u hx hst hT hq
 exact k c a w g' lam h
theorem afL {P:Program} {S0:aD} {cd:Code} {Q:Exit->St->Prop} {s:St} (u:Nat) {id sz m:Nat} {T:TypeId} {rows q:List (List PV)} (hx:s.env u=(true, .pv (.vec id sz 0 m))) (hst:s.st id=some (.arr T rows)) (hT:P.cellsOf T=sz) (hq:rows.take m=q) (hS:upd s.st id none=S0) (k:PWp P cd Q ((s.sst S0).pv u (.seq q))):PWp P cd Q s:=by
 subst hS
 exact adW u hx hst hT hq k
attribute [local irreducible] Ev PWp
theorem aiJ (l:List Ln) (st:aD) (hl:l.length<1000000000000):PC Tryz.prog 54 [.seq (l.map Ln.cells)] st (LR 48 3 st (l.map Ln.cells)):=by
 refine pC Tryz.func54 rfl ?_
 (repeat' first|apply wDx pk;rfl;kernel_rfl;rfl;rfl|show Cn (.r _ _ _);refine .rr ?_;((first|exact .inr ⟨rfl,hb h,zsr _⟩|exact .inl ⟨id',by rw [zql],hid',aA _ _ _,cY hid'⟩));done|(show Cn (.r _ _ _);refine .any ⟨_,_, ?zs,rfl,zwr _, ?zh, ?zr⟩;(case zh=>(refine aF ?_ ‹_›;(repeat refine aF ?_ ‹_›);exact zsr _));(case zr=>((first|exact .inr ⟨rfl,hb h,zsr _⟩|exact .inl ⟨id',by rw [zql],hid',aA _ _ _,cY hid'⟩))))|apply wZ;rfl|show Cn _;constructor|exact rfl|apply KR.mk;kernel_rfl|apply ncA;rfl;rfl;rfl;rotate_left;rfl;rfl|apply ldR pk;rfl;rfl;rotate_left;rfl;(focus ((repeat (first|exact aA _ _ _|assumption|refine (aC ‹_›).trans ?_));done));rfl;rfl|apply stR pk;rfl;rfl;(focus ((repeat (first|exact aA _ _ _|assumption|refine (aC ‹_›).trans ?_));done));rfl;rfl|(apply apV pk (f:=Ln.cells) l 56;(iterate 9 rfl);(focus ((repeat (first|exact aA _ _ _|assumption|refine (aC ‹_›).trans ?_));done));(first|omega|assumption|(focus (simp;done))|(focus (simp;omega))|(focus (simp at*;omega)));exact λ_=>rfl;exact λ_=>rfl;exact akF;(first|omega|assumption|(focus (simp;done))|(focus (simp;omega))|(focus (simp at*;omega)));(first|omega|assumption|(focus (simp;done))|(focus (simp;omega))|(focus (simp at*;omega)));rfl;intro id' hid')|(apply ap0 pk (f:=Ln.cells) l 56;(iterate 10 rfl);exact λ_=>rfl;exact λ_=>rfl;exact akF;(first|omega|assumption|(focus (simp;done))|(focus (simp;omega))|(focus (simp at*;omega)));(first|omega|assumption|(focus (simp;done))|(focus (simp;omega))|(focus (simp at*;omega)));rfl;intro id' hid')|(apply aDf pk;(iterate 6 rfl);intro b hb)|omega|intros;omega|simp only [zql];omega|intros;simp only [zql];omega|intros;simp only;omega|intro h;omega|intro h;simp at h;done|intro h;simp at h;omega|(intro h;simp at h)|intro h)
theorem yT (l:List Ln) (st:aD) (hl:l.length<1000000000000):PC Tryz.prog 54 [.seq (l.map Ln.cells)] st λp S=>∃id,p= .vec id 3 0 l.length/\st id=none/\S=upd st id (some (.arr 48 (l.map Ln.cells))):=
 auT (aBd (aiJ l st hl)) λp st' ⟨id,h1,h2,h3⟩=>⟨p,st',zwr _,zsr _,id,by rw [h1,zql],h2,h3⟩
def cO (g:Nat->Ln->Bool) (b:Bs):Bs:=b.mapIdx λi d=>⟨eF (g i) d.lines⟩
theorem dI (g:Nat->Ln->Bool) (b:Bs):(cO g b).length=b.length:=by unfold cO;simp
theorem mU (g:Nat->Ln->Bool) (b:Bs) {i:Nat} (h:i<b.length):(cO g b)[i]'(by rw [dI];exact h)=⟨eF (g i) b[i].lines⟩:=by unfold cO;simp
theorem akA (gid:FuncId) (gc:List PV) (i:Nat) (x:Ln) (v:Bool) (hg:PF Tryz.prog gid ([(vi ((i:Nat))), .agg x.cells]++gc) (vb (v))):PF Tryz.prog 55 [.agg x.cells, .rp [.fn gid gc], .rp [(vi ((i:Nat)))]] (vb (v)):=by
 refine pF Tryz.func55 rfl (λst=> ?_)
 (repeat' first|(show Cn (.r _ _ _);refine .any ⟨_,_,_,rfl,zwr _,zsr _, ?_,rfl⟩;try rfl)|apply wZ;rfl|show Cn _;constructor|exact rfl|apply KR.mk;kernel_rfl|(apply hg<;>(first|assumption|omega))|apply wY;rfl|omega|intros;omega|simp only [zql];omega|intros;simp only [zql];omega|intros;simp only;omega|intro h;omega|intro h;simp at h;done|intro h;simp at h;omega|(intro h;simp at h)|intro h)
theorem axW (gid:FuncId) (gc:List PV) (g:Nat->Ln->Bool) (b:Bs) (hb:b.length<100000000000) (hl:∀i (h:i<b.length),b[i].lines.length<1000000000000) (hg:∀i (h:i<b.length),∀x∈b[i].lines,PF Tryz.prog gid ([(vi ((i:Nat))), .agg x.cells]++gc) (vb (g i x))) (st:aD):PC Tryz.prog 22 [.agg (bsC b), .fn gid gc] st λr S=>∃id,r= .agg [.vec id 1 0 b.length]/\st id=none/\S=upd st id (some (.arr 52 ((cO g b).map Da.cells))):=by
 have hsl:=dI g b
 refine pC Tryz.func22 rfl ?_
 focus ((repeat' first|(show Cn (.r _ _ _);refine .any ⟨_,_,_,rfl,zwr _,zsr _, ?_,rfl⟩;try rfl)|apply wZ;rfl|show Cn _;constructor|exact rfl|apply KR.mk;kernel_rfl|omega|intros;omega|simp only [zql];omega|intros;simp only [zql];omega|intros;simp only;omega|intro h;omega|intro h;simp at h;done|intro h;simp at h;omega|(intro h;simp at h)|intro h))
 refine lF 3 rfl rfl ?_
 refine agL 5 52 1 [] rfl rfl rfl (λid hid=> ?_)
 refine aG (X:={x:Nat×Nat//x.1<=b.length/\st x.2=none}) (λi=>(((((((St.nil 31 (upd st i.1.2 (some (.arr 52 (((cO g b).take i.1.1).map Da.cells))))).pv 3 (.rp [.fn gid gc])).var 4 27 ([.val (.slice none 0 0)])).var 5 27 ([.vec i.1.2 1 0 i.1.1])).pv 10 (.seq (b.map Da.cells))).pv 11 ((vi ((b.length:Nat))))).pv 12 ((vi ((i.1.1:Nat)))))) (λi=>b.length-i.1.1) ⟨(0,id),by simp,hid⟩ ?_ (λi=> ?_)
 ·dsimp only
  (repeat' first|show Cn (.t _ _);exact Cn.t0|show Cn (.t _ _);exact .any (aJ ‹_›)|(show Cn (.t _ _);exact .any (aI (by (first|rfl|exact aL ‹_›|((simp only [St.pv,St.put,St.sst,St.setv,St.nil,St.var,aH]);(first|done|rfl))))))|(show Cn (.t _ _);refine .any (aI ?_);(simp only [St.pv,St.put,St.sst,St.setv,St.nil,St.var,aH]);(rw [dA ‹_›]);(first|done|rfl))|show Cn _;constructor|exact rfl|rw [zql])
 obtain ⟨⟨i,id⟩,hi,hid⟩:=i
 simp only at hi hid
 dsimp only
 have hlen:((cO g b).take i).length=i:=by rw [zlt];omega
 by_cases hend:b.length<=i
 ·have e:(cO g b).take i=cO g b:=ztl (by omega)
  obtain rfl:i=b.length:=by omega
  (repeat' first|apply wDx pk;rfl;kernel_rfl;rfl;rfl|show Cn (.r _ _ _);refine .rr ?_;(exact ⟨id,rfl,hid,by rw [e];rfl⟩);done|show Cn (.r _ _ _);refine .any ⟨_,_, ?zs,rfl,zwr _, ?zh, ?zr⟩;(case zh=>(refine aF ?_ ‹_›;(repeat refine aF ?_ ‹_›);exact zsr _));(case zr=>(exact ⟨id,rfl,hid,by rw [e];rfl⟩))|apply wZ;rfl|show Cn _;constructor|exact rfl|apply KR.mk;kernel_rfl|apply ncA;rfl;rfl;rfl;rotate_left;rfl;rfl|apply ldR pk;rfl;rfl;rotate_left;rfl;(focus ((repeat (first|exact aA _ _ _|assumption|refine (aC ‹_›).trans ?_));done));rfl;rfl|apply stR pk;rfl;rfl;(focus ((repeat (first|exact aA _ _ _|assumption|refine (aC ‹_›).trans ?_));done));rfl;rfl|omega|intros;omega|simp only [zql];omega|intros;simp only [zql];omega|intros;simp only;omega|intro h;omega|intro h;simp at h;done|intro h;simp at h;omega|(intro h;simp at h)|intro h)
 have h1:i<b.length:=by omega
 have hg1:=hg i h1
 have hl1:=hl i h1
 have e:=alJ (by omega) (mU g b h1)
 (repeat' first|(show Cn (.e _ _ _ _);refine .any ?_;(first|(refine ⟨_,_,_,rfl,zwr _,zsr _, ?_,rfl⟩;(first|rfl))|(refine ⟨_,_,_,rfl,zwr _,aB ‹_›, ?_,rfl⟩;(first|rfl))|(refine ⟨_,_,_,rfl,zwf _,zsr _, ?_,rfl⟩;(first|rfl))|(refine ⟨_,_,_,rfl,zwf _,aB ‹_›, ?_,rfl⟩;(first|rfl))|(refine ⟨_,_,_,rfl,zwr _,zsr _, ?_,rfl⟩)|(refine ⟨_,_,_,rfl,zwf _,aB ‹_›, ?_,rfl⟩)))|(show Cn (.r _ _ _);refine .any ?_;(first|(refine ⟨_,_,_,rfl,zwr _,zsr _, ?_,rfl⟩;(first|rfl))|(refine ⟨_,_,_,rfl,zwr _,aB ‹_›, ?_,rfl⟩;(first|rfl))|(refine ⟨_,_,_,rfl,zwf _,zsr _, ?_,rfl⟩;(first|rfl))|(refine ⟨_,_,_,rfl,zwf _,aB ‹_›, ?_,rfl⟩;(first|rfl))|(refine ⟨_,_,_,rfl,zwr _,zsr _, ?_,rfl⟩)|(refine ⟨_,_,_,rfl,zwf _,aB ‹_›, ?_,rfl⟩)))|refine ⟨⟨(i+1,id'),by simp only;omega,bA hid'⟩, ?_, ?_⟩;((dsimp only;try rw [e]))|show Cn (.t _ _);exact Cn.t0|show Cn (.t _ _);exact .any (aJ ‹_›)|(show Cn (.t _ _);exact .any (aI (by (first|rfl|exact aL ‹_›|((simp only [St.pv,St.put,St.sst,St.setv,St.nil,St.var,aH]);(first|done|rfl))))))|(show Cn (.t _ _);refine .any (aI ?_);(simp only [St.pv,St.put,St.sst,St.setv,St.nil,St.var,aH]);(rw [dA ‹_›]);(first|done|rfl))|apply wZ;rfl|show Cn _;constructor|exact rfl|apply KR.mk;kernel_rfl|(show _=_;(first|rfl|simp))|(apply apV pk (f:=Da.cells) [⟨eF (g i) b[i].lines⟩] 24;(iterate 9 rfl);(focus ((repeat (first|exact aA _ _ _|assumption|refine (aC ‹_›).trans ?_));done));(first|omega|assumption|(focus (simp;done))|(focus (simp;omega))|(focus (simp at*;omega)));exact λ_=>rfl;exact λ_=>rfl;exact tY;(first|omega|assumption|(focus (simp;done))|(focus (simp;omega))|(focus (simp at*;omega)));(first|omega|assumption|(focus (simp;done))|(focus (simp;omega))|(focus (simp at*;omega)));rfl;intro id' hid')|(apply ap0 pk (f:=Da.cells) [⟨eF (g i) b[i].lines⟩] 24;(iterate 10 rfl);exact λ_=>rfl;exact λ_=>rfl;exact tY;(first|omega|assumption|(focus (simp;done))|(focus (simp;omega))|(focus (simp at*;omega)));(first|omega|assumption|(focus (simp;done))|(focus (simp;omega))|(focus (simp at*;omega)));rfl;intro id' hid')|((show Ev _ _ _ (⟨some 19,_,_,_,_,_⟩::_) _ _;apply eE;rfl;rfl;exact yT b[i].lines _ hl1;rfl;rfl;rfl;intro _ st' hR;obtain ⟨id2,rfl,hid2,rfl⟩:=hR;apply aQ 6;rfl;rfl))|((show Ev _ _ _ (⟨some 21,_,_,_,_,_⟩::_) _ _;apply eE;rfl;rfl;exact amW 55 _ (g i) b[i].lines hl1 (λx hx=>akA gid gc i x _ (hg1 x hx)) (aA _ _ _) rfl;rfl;rfl;rfl;intro _ st' hR;obtain ⟨rows,rfl,rfl,hr1,hr2⟩:=hR;apply aiG 21;rfl;exact aA _ _ _;exact abB;exact hr2;exact aBU (S:=upd st id _) hid2))|apply wI;rfl|apply gE;omega|apply gE;show 0<_;omega|apply gE;show 1<_;omega|omega|intros;omega|simp only [zql];omega|intros;simp only [zql];omega|intros;simp only;omega|intro h;omega|intro h;simp at h;done|intro h;simp at h;omega|(intro h;simp at h)|intro h)
end
section
attribute [local irreducible] Ev PWp
set_option maxRecDepth 10000
set_option maxHeartbeats 4000000
theorem fX (gid:FuncId) (gc:List PV) (g:Nat->Ln->Bool) (b:Bs) (hb:b.length<100000000000) (hl:∀i (h:i<b.length),b[i].lines.length<1000000000000) (hg:∀i (h:i<b.length),∀x∈b[i].lines,PF Tryz.prog gid ([(vi ((i:Nat))), .agg x.cells]++gc) (vb (g i x))):PF Tryz.prog 22 [.agg (bsC b), .fn gid gc] (.agg (bsC (cO g b))):=λst=>
 aC3 (eZ (sz:=1) (R':=λr S=>r= .agg (bsC (cO g b))/\S=st) (axW gid gc g b hb hl hg st) λp st' h=>by
  obtain ⟨id,rfl,h3,rfl⟩:=h
  exact .inl ⟨id,52,(cO g b).map Da.cells,_,st,aA _ _ _,akL, .agg (.cons (eH (dI g b)) .nil),cY h3,rfl,rfl⟩) λp st' h=>⟨_,h.1▸zwr _,rfl,h.2⟩
def P2 (p:Int×Int):List PV:=[(vi (p.1)),(vi (p.2))]
theorem aeJ (l:List (Int×Int)) (x:Int×Int) (hl:l.length<4611686018427387904):PF Tryz.prog 56 [.seq (l.map P2), .agg (P2 x)] (vi (bT (λy=>decide (x=y)) l)):=by
 refine pF Tryz.func56 rfl (λst=> ?_)
 (repeat' first|(show Cn (.r _ _ _);refine .any ⟨_,_,_,rfl,zwr _,zsr _, ?_,rfl⟩;try rfl)|apply wZ;rfl|show Cn _;constructor|exact rfl|apply KR.mk;kernel_rfl|omega|intros;omega|simp only [zql];omega|intros;simp only [zql];omega|intros;simp only;omega|intro h;omega|intro h;simp at h;done|intro h;simp at h;omega|(intro h;simp at h)|intro h)
 refine aG (X:={y:Nat//y<=l.length/\∀j (h:j<y) (h2:j<l.length),decide (x=l[j])=false}) (λi=>(((((St.nil 19 st).pv 0 (.seq (l.map P2))).var 3 66 ((P2 x))).pv 7 ((vi ((((l.map P2)).length:Nat))))).pv 8 ((vi ((i.1:Nat)))))) (λi=>l.length-i.1) ⟨0,by omega,by omega⟩ ?_ (λi=> ?_)
 ·(repeat' first|show Cn _;constructor|exact rfl)
 obtain ⟨i,h1,hinv⟩:=i
 dsimp only
 (repeat' first|(show Cn (.r _ _ _);refine .any ⟨_,_,_,rfl,zwr _,zsr _, ?_,rfl⟩;try first|rfl|(first|unfold bT;rw [gQ (f:=λy=>decide (x=y)) ‹_› (by simp_all [Prod.ext_iff]) hinv];done|(unfold bT;rw [eP (f:=λy=>decide (x=y)) ‹_› hinv]));done)|(refine ⟨⟨i+1,by omega,λj h1 h2=>by rcases zls.1 h1 with q|q;exact hinv j q h2;subst q;exact decide_eq_false (by rw [Prod.ext_iff];simp_all)⟩, ?_, ?_⟩)|apply wZ;rfl|show Cn _;constructor|exact rfl|apply KR.mk;kernel_rfl|show (_:PV)=_;(first|unfold bT;rw [gQ (f:=λy=>decide (x=y)) ‹_› (by simp_all [Prod.ext_iff]) hinv];done|(unfold bT;rw [eP (f:=λy=>decide (x=y)) ‹_› hinv]));done|apply wI;rfl|apply gE;omega|apply gE;show 0<_;omega|apply gE;show 1<_;omega|omega|intros;omega|simp only [zql];omega|intros;simp only [zql];omega|intros;simp only;omega|intro h;omega|intro h;simp at h;done|intro h;simp at h;omega|(intro h;simp at h)|intro h)
theorem xE (l:List (Int×Int)) (x:Int×Int) (hl:l.length<4611686018427387904):PF Tryz.prog 24 [.seq (l.map P2), .agg (P2 x)] (vb (l.any λy=>decide (x=y))):=by
 refine pF Tryz.func24 rfl (λst=> ?_)
 (repeat' first|(show Cn (.r _ _ _);refine .any ⟨_,_,_,rfl,zwr _,zsr _, ?_,rfl⟩;try first|rfl|(rw [cZ]);done)|apply wZ;rfl|show Cn _;constructor|exact rfl|apply KR.mk;kernel_rfl|(apply (aeJ l x hl)<;>(first|assumption|omega))|show (_:PV)=_;(rw [cZ]);done|apply wY;rfl|omega|intros;omega|simp only [zql];omega|intros;simp only [zql];omega|intros;simp only;omega|intro h;omega|intro h;simp at h;done|intro h;simp at h;omega|(intro h;simp at h)|intro h)
def mH (l:List (Int×Int)) (i:Nat) (x:Ln):Bool:=l.any λy=>decide ((((i:Nat):Int),x.key)=y)
theorem aiC (l:List (Int×Int)) (hl:l.length<=60) (i:Nat) (x:Ln):PF Tryz.prog 23 ([(vi ((i:Nat))), .agg x.cells]++[.rp [.seq (l.map P2)]]) (vb (mH l i x)):=by
 have h:=xE l (((i:Nat):Int),x.key) (by omega)
 unfold mH
 refine pF Tryz.func23 rfl (λst=> ?_)
 (repeat' first|(show Cn (.r _ _ _);refine .any ⟨_,_,_,rfl,zwr _,zsr _, ?_,rfl⟩;try rfl)|apply wZ;rfl|show Cn _;constructor|exact rfl|apply KR.mk;kernel_rfl|(apply h<;>(first|assumption|omega))|apply wY;rfl|omega|intros;omega|simp only [zql];omega|intros;simp only [zql];omega|intros;simp only;omega|intro h;omega|intro h;simp at h;done|intro h;simp at h;omega|(intro h;simp at h)|intro h)
theorem rQ (b:Bs) (l:List (Int×Int)) (hl:l.length<=60) (hb:b.length<100000000000) (hbl:∀i (h:i<b.length),b[i].lines.length<1000000000000):PF Tryz.prog 8 [.agg (bsC b), .seq (l.map P2)] (.agg (bsC (cO (mH l) b))):=by
 have h:=fX 23 [.rp [.seq (l.map P2)]] (mH l) b hb hbl (λi _ x _=>aiC l hl i x)
 refine pF Tryz.func8 rfl (λst=> ?_)
 (repeat' first|(show Cn (.r _ _ _);refine .any ⟨_,_,_,rfl,zwr _,zsr _, ?_,rfl⟩;try rfl)|apply wZ;rfl|show Cn _;constructor|exact rfl|apply KR.mk;kernel_rfl|(apply h<;>(first|assumption|omega))|apply aQ 3;rfl;rfl|apply wY;rfl|omega|intros;omega|simp only [zql];omega|intros;simp only [zql];omega|intros;simp only;omega|intro h;omega|intro h;simp at h;done|intro h;simp at h;omega|(intro h;simp at h)|intro h)
theorem xR (fid:FuncId) (caps:List PV) (f:Dt->Bool) (l:List Dt) (hl:l.length<4611686018427387904) (hf:∀p,PF Tryz.prog fid ([.agg p.cells]++caps) (vb (f p))):PF Tryz.prog 26 [.seq (l.map Dt.cells), .fn fid caps] (vb (l.any f)):=by
 refine pF Tryz.func26 rfl (λst=> ?_)
 (repeat' first|(show Cn (.r _ _ _);refine .any ⟨_,_,_,rfl,zwr _,zsr _, ?_,rfl⟩;try first|rfl|(rw [cZ]);done)|apply wZ;rfl|show Cn _;constructor|exact rfl|apply KR.mk;kernel_rfl|(apply (anF fid caps f l hl hf)<;>(first|assumption|omega))|show (_:PV)=_;(rw [cZ]);done|apply wY;rfl|omega|intros;omega|simp only [zql];omega|intros;simp only [zql];omega|intros;simp only;omega|intro h;omega|intro h;simp at h;done|intro h;simp at h;omega|(intro h;simp at h)|intro h)
def aaX (d:List Dt) (x:Ln):Bool:= !(x.by_.any λy=> !(d.any λz=>decide (y=z)))
theorem aiI (d:List Dt) (hd:d.length<4611686018427387904) (x:Dt):PF Tryz.prog 27 ([.agg x.cells]++[.rp [.seq (d.map Dt.cells)]]) (vb (!(d.any λz=>decide (x=z)))):=by
 have h:=xU d x hd
 refine pF Tryz.func27 rfl (λst=> ?_)
 (repeat' first|(show Cn (.r _ _ _);refine .any ⟨_,_,_,rfl,zwr _,zsr _, ?_,rfl⟩;try rfl)|apply wZ;rfl|show Cn _;constructor|exact rfl|apply KR.mk;kernel_rfl|(apply h<;>(first|assumption|omega))|apply wY;rfl|omega|intros;omega|simp only [zql];omega|intros;simp only [zql];omega|intros;simp only;omega|intro h;omega|intro h;simp at h;done|intro h;simp at h;omega|(intro h;simp at h)|intro h)
theorem aoS (d:List Dt) (hd:d.length<4611686018427387904) (i:Nat) (x:Ln) (hx:x.by_.length<4611686018427387904):PF Tryz.prog 25 ([(vi ((i:Nat))), .agg x.cells]++[.rp [.seq (d.map Dt.cells)]]) (vb (aaX d x)):=by
 have h:=xR 27 [.rp [.seq (d.map Dt.cells)]] (λy=> !(d.any λz=>decide (y=z))) x.by_ hx (λp=>aiI d hd p)
 unfold aaX
 refine pF Tryz.func25 rfl (λst=> ?_)
 (repeat' first|(show Cn (.r _ _ _);refine .any ⟨_,_,_,rfl,zwr _,zsr _, ?_,rfl⟩;try rfl)|apply wZ;rfl|show Cn _;constructor|exact rfl|apply KR.mk;kernel_rfl|(apply h<;>(first|assumption|omega))|apply wY;rfl|omega|intros;omega|simp only [zql];omega|intros;simp only [zql];omega|intros;simp only;omega|intro h;omega|intro h;simp at h;done|intro h;simp at h;omega|(intro h;simp at h)|intro h)
theorem rB (b:Bs) (d:List Dt) (hd:d.length<4611686018427387904) (hb:b.length<100000000000) (hbl:∀i (h:i<b.length),b[i].lines.length<1000000000000/\∀x∈b[i].lines,x.by_.length<4611686018427387904):PF Tryz.prog 9 [.agg (bsC b), .seq (d.map Dt.cells)] (.agg (bsC (cO (λ_=>aaX d) b))):=by
 have h:=fX 25 [.rp [.seq (d.map Dt.cells)]] (λ_=>aaX d) b hb (λi h=>(hbl i h).1) (λi q x hx=>aoS d hd i x ((hbl i q).2 x hx))
 refine pF Tryz.func9 rfl (λst=> ?_)
 (repeat' first|(show Cn (.r _ _ _);refine .any ⟨_,_,_,rfl,zwr _,zsr _, ?_,rfl⟩;try rfl)|apply wZ;rfl|show Cn _;constructor|exact rfl|apply KR.mk;kernel_rfl|(apply h<;>(first|assumption|omega))|apply aQ 3;rfl;rfl|apply wY;rfl|omega|intros;omega|simp only [zql];omega|intros;simp only [zql];omega|intros;simp only;omega|intro h;omega|intro h;simp at h;done|intro h;simp at h;omega|(intro h;simp at h)|intro h)
end
end Go.Proofs.YtppdefkgmegipaaGreatDoor
