import Derived.Test.YtppdefkgmegipaaGreatDoorClAn
import Derived.Test.YtppdefkgmegipaaGreatDoorClAi
set_option linter.unusedSimpArgs false
set_option linter.unusedVariables false
namespace Go.Proofs.YtppdefkgmegipaaGreatDoor
open Go Go.Abs
attribute [local irreducible] Ev PWp
set_option maxRecDepth 10000
set_option maxHeartbeats 4000000
def qI (o:Ou):Bool:= !decide (o.agg=0)
def nD (q:Qu):Bool:=decide (0<q.group.length)||q.outs.any qI
theorem abI {l:List Ou} {i:Nat} (h:i<l.length):(l.map Ou.cells)[i]?=some l[i].cells:=by simp [h]
theorem yD (a k n:Int) (v:Vl) (of:List X.Ex):PF Tryz.prog 135 [.agg ((vi (a))::(X.Ex.mk k n v of).cells)] (vb (!decide (a=0))):=by
 refine pF Tryz.func135 rfl (λst=> ?_)
 (repeat' first|(show Cn (.r _ _ _);refine .any ⟨_,_,_,rfl,zwr _,zsr _, ?_,rfl⟩;try rfl)|apply wZ;rfl|show Cn _;constructor|exact rfl|apply KR.mk;kernel_rfl|omega|intros;omega|simp only [zql];omega|intros;simp only [zql];omega|intros;simp only;omega|intro h;omega|intro h;simp at h;done|intro h;simp at h;omega|(intro h;simp at h)|intro h)
theorem aoV (l:List Ou) (hl:l.length<4611686018427387904):PF Tryz.prog 181 [.seq (l.map Ou.cells), .fn 135 []] (vi (bT qI l)):=by
 refine pF Tryz.func181 rfl (λst=> ?_)
 focus ((repeat' first|(show Cn (.r _ _ _);refine .any ⟨_,_,_,rfl,zwr _,zsr _, ?_,rfl⟩;try rfl)|apply wZ;rfl|show Cn _;constructor|exact rfl|apply KR.mk;kernel_rfl|omega|intros;omega|simp only [zql];omega|intros;simp only [zql];omega|intros;simp only;omega|intro h;omega|intro h;simp at h;done|intro h;simp at h;omega|(intro h;simp at h)|intro h))
 refine aG (X:={x:Nat//x<=l.length/\∀j (h:j<x) (h2:j<l.length),qI l[j]=false}) (λi=>(((((St.nil 19 st).pv 0 (.seq (l.map Ou.cells))).pv 1 (.fn 135 [])).pv 7 ((vi ((((l.map Ou.cells)).length:Nat))))).pv 8 ((vi ((i.1:Nat)))))) (λi=>l.length-i.1) ⟨0,by omega,by omega⟩ ?_ (λi=> ?_)
 ·(repeat' first|show Cn _;constructor|exact rfl)
 obtain ⟨i,hi,hinv⟩:=i
 dsimp only
 by_cases hend:l.length<=i
 ·(repeat' first|(show Cn (.r _ _ _);refine .any ⟨_,_,_,rfl,zwr _,zsr _, ?_,rfl⟩;try first|rfl|(unfold bT;rw [eP hend hinv]);done)|apply wZ;rfl|show Cn _;constructor|exact rfl|apply KR.mk;kernel_rfl|show (_:PV)=_;(unfold bT;rw [eP hend hinv]);done|omega|intros;omega|simp only [zql];omega|intros;simp only [zql];omega|intros;simp only;omega|intro h;omega|intro h;simp at h;done|intro h;simp at h;omega|(intro h;simp at h)|intro h)
 have hil:i<l.length:=by omega
 have hrow:=abI hil
 have hen:qI l[i]=true->bT qI l=((i:Nat):Int):=λh=>by unfold bT;rw [gQ hil h hinv]
 have hup:qI l[i]=false->∀j (h:j<i+1) (h2:j<l.length),qI l[j]=false:=λh j h1 h2=>by
  rcases zls.1 h1 with q|q
  ·exact hinv j q h2
  ·subst q;exact h
 generalize l[i]=o at*
 obtain ⟨a,⟨k,n,v,of⟩⟩:=o
 have hg:=yD a k n v of
 unfold qI at hen hup
 simp only at hen hup
 by_cases ha:a=0
 ·subst ha
  have hup:=hup rfl
  rw [show (!decide ((0:Int)=0))=false from rfl] at hg
  (repeat' first|(show Cn (.r _ _ _);refine .any ⟨_,_,_,rfl,zwr _,zsr _, ?_,rfl⟩;try rfl)|(refine ⟨⟨i+1,hil,hup⟩, ?_, ?_⟩)|apply wZ;rfl|show Cn _;constructor|exact rfl|apply KR.mk;kernel_rfl|apply bX pk;(iterate 6 rfl);rotate_left;rfl;(intro hw;rfl);(intro hw;apply hrow<;>omega);(intro _;rfl);rfl|(apply hg<;>(first|assumption|omega))|apply wY;rfl|apply wI;rfl|apply gE;omega|apply gE;show 0<_;omega|apply gE;show 1<_;omega|omega|intros;omega|simp only [zql];omega|intros;simp only [zql];omega|intros;simp only;omega|intro h;omega|intro h;simp at h;done|intro h;simp at h;omega|(intro h;simp at h)|intro h)
 ·have hen:=hen (by simp [ha])
  rw [show (!decide (a=0))=true from by simp [ha]] at hg
  (repeat' first|(show Cn (.r _ _ _);refine .any ⟨_,_,_,rfl,zwr _,zsr _, ?_,rfl⟩;try first|rfl|(exact congrArg (λz:Int=>(vi (z))) hen.symm);done)|apply wZ;rfl|show Cn _;constructor|exact rfl|apply KR.mk;kernel_rfl|apply bX pk;(iterate 6 rfl);rotate_left;rfl;(intro hw;rfl);(intro hw;apply hrow<;>omega);(intro _;rfl);rfl|(apply hg<;>(first|assumption|omega))|show (_:PV)=_;(exact congrArg (λz:Int=>(vi (z))) hen.symm);done|apply wY;rfl|apply wI;rfl|apply gE;omega|apply gE;show 0<_;omega|apply gE;show 1<_;omega|omega|intros;omega|simp only [zql];omega|intros;simp only [zql];omega|intros;simp only;omega|intro h;omega|intro h;simp at h;done|intro h;simp at h;omega|(intro h;simp at h)|intro h)
theorem apA (l:List Ou) (hl:l.length<4611686018427387904):PF Tryz.prog 134 [.seq (l.map Ou.cells), .fn 135 []] (vb (l.any qI)):=by
 refine pF Tryz.func134 rfl (λst=> ?_)
 (repeat' first|(show Cn (.r _ _ _);refine .any ⟨_,_,_,rfl,zwr _,zsr _, ?_,rfl⟩;try first|rfl|(rw [cZ]);done)|apply wZ;rfl|show Cn _;constructor|exact rfl|apply KR.mk;kernel_rfl|(apply (aoV l hl)<;>(first|assumption|omega))|show (_:PV)=_;(rw [cZ]);done|apply wY;rfl|omega|intros;omega|simp only [zql];omega|intros;simp only [zql];omega|intros;simp only;omega|intro h;omega|intro h;simp at h;done|intro h;simp at h;omega|(intro h;simp at h)|intro h)
theorem pU (q:Qu) (hl:q.outs.length<4611686018427387904):PF Tryz.prog 83 [.agg q.cells] (vb (nD q)):=by
 have h:=apA q.outs hl
 unfold nD
 generalize q.outs.any qI=G at*
 refine pF Tryz.func83 rfl (λst=> ?_)
 (repeat' first|(show Cn (.r _ _ _);refine .any ⟨_,_,_,rfl,zwr _,zsr _, ?_,rfl⟩;try first|rfl|(simp only [zql];first|rfl|congr 3;simp);done)|apply wZ;rfl|show Cn _;constructor|exact rfl|apply KR.mk;kernel_rfl|(apply h<;>(first|assumption|omega))|show (_:PV)=_;(simp only [zql];first|rfl|congr 3;simp);done|apply wY;rfl|omega|intros;omega|simp only [zql];omega|intros;simp only [zql];omega|intros;simp only;omega|intro h;omega|intro h;simp at h;done|intro h;simp at h;omega|(intro h;simp at h)|intro h)
theorem atJ :Tryz.prog.cellsOf 3=1:=by kernel_rfl
def gJ (t:Tb):List Int:=t.cols.map vY
theorem yU (s:Sc) (k:Int) (h:¬(0<=k/\k<s.length)):PF Tryz.prog 115 [(vi (k)), .rp (scC s)] (.tup [.val (.slice none 0 0),(vb (false))]):=by
 have hml:(s.map Tb.cells).length=s.length:=zql _
 refine pF Tryz.func115 rfl (λst=> ?_)
 (repeat' first|(show Cn (.r _ _ _);refine .any ⟨_,_,_,rfl,zwr _,zsr _, ?_,rfl⟩;try rfl)|apply wZ;rfl|show Cn _;constructor|exact rfl|apply KR.mk;kernel_rfl|omega|intros;omega|simp only [zql];omega|intros;simp only [zql];omega|intros;simp only;omega|intro h;omega|intro h;simp at h;done|intro h;simp at h;omega|(intro h;simp at h)|intro h)
theorem zU (s:Sc) (k:Nat) (h:k<s.length) (hc:s[k].cols.length<=1000) (st:aD):PC Tryz.prog 115 [(vi ((k:Nat))), .rp (scC s)] st λr S=>∃id,r= .tup [.vec id 1 0 (gJ s[k]).length,(vb (true))]/\st id=none/\S=upd st id (some (.arr 3 ((gJ s[k]).map I1))):=by
 have hml:(s.map Tb.cells).length=s.length:=zql _
 refine pC Tryz.func115 rfl ?_
 focus ((repeat' first|apply wDx pk;rfl;kernel_rfl;rfl;rfl|(show Cn (.e _ _ _ _);refine .any ?_;(first|(refine ⟨_,_,_,rfl,zwr _,zsr _, ?_,rfl⟩;(first|rfl))|(refine ⟨_,_,_,rfl,zwr _,aB ‹_›, ?_,rfl⟩;(first|rfl))|(refine ⟨_,_,_,rfl,zwf _,zsr _, ?_,rfl⟩;(first|rfl))|(refine ⟨_,_,_,rfl,zwf _,aB ‹_›, ?_,rfl⟩;(first|rfl))|(refine ⟨_,_,_,rfl,zwr _,zsr _, ?_,rfl⟩)|(refine ⟨_,_,_,rfl,zwf _,aB ‹_›, ?_,rfl⟩)))|apply wZ;rfl|show Cn _;constructor|exact rfl|apply KR.mk;kernel_rfl|apply ncA;rfl;rfl;rfl;rotate_left;rfl;rfl|apply ldR pk;rfl;rfl;rotate_left;rfl;(focus ((repeat (first|exact aA _ _ _|assumption|refine (aC ‹_›).trans ?_));done));rfl;rfl|apply stR pk;rfl;rfl;(focus ((repeat (first|exact aA _ _ _|assumption|refine (aC ‹_›).trans ?_));done));rfl;rfl|apply wI;rfl|apply gE;omega|apply gE;show 0<_;omega|apply gE;show 1<_;omega|omega|intros;omega|simp only [zql];omega|intros;simp only [zql];omega|intros;simp only;omega|intro h;omega|intro h;simp at h;done|intro h;simp at h;omega|(intro h;simp at h)|intro h))
 refine dU 5 3 1 rfl rfl rfl (λid hid=> ?_)
 refine aG (X:={x:Nat×Nat//x.1<=s[k].cols.length/\st x.2=none}) (λi=>(((((St.nil 35 (upd st i.1.2 (some (.arr 3 (((gJ s[k]).take i.1.1).map I1))))).pv 5 (.vec i.1.2 1 0 i.1.1)).pv 22 (.seq (s[k].cols.map Co.cells))).pv 23 ((vi (((s[k].cols.map Co.cells).length:Nat))))).pv 24 ((vi ((i.1.1:Nat)))))) (λi=>s[k].cols.length-i.1.1) ⟨(0,id),by simp,hid⟩ ?_ (λi=> ?_)
 ·dsimp only
  (repeat' first|show Cn (.t _ _);exact Cn.t0|show Cn (.t _ _);exact .any (aJ ‹_›)|(show Cn (.t _ _);exact .any (aI (by (first|rfl|exact aL ‹_›|((simp only [St.pv,St.put,St.sst,St.setv,St.nil,St.var,aH]);(first|done|rfl))))))|(show Cn (.t _ _);refine .any (aI ?_);(simp only [St.pv,St.put,St.sst,St.setv,St.nil,St.var,aH]);(rw [dA ‹_›]);(first|done|rfl))|show Cn _;constructor|exact rfl)
 obtain ⟨⟨i,id⟩,hi,hid⟩:=i
 simp only at hi hid
 dsimp only
 have hkl:(gJ s[k]).length=s[k].cols.length:=by unfold gJ;simp
 by_cases hend:s[k].cols.length<=i
 ·obtain rfl:i=s[k].cols.length:=by omega
  rw [ztl (by omega)]
  (repeat' first|apply wDx pk;rfl;kernel_rfl;rfl;rfl|(show Cn (.e _ _ _ _);refine .any ?_;(first|(refine ⟨_,_,_,rfl,zwr _,zsr _, ?_,rfl⟩;(first|rfl))|(refine ⟨_,_,_,rfl,zwr _,aB ‹_›, ?_,rfl⟩;(first|rfl))|(refine ⟨_,_,_,rfl,zwf _,zsr _, ?_,rfl⟩;(first|rfl))|(refine ⟨_,_,_,rfl,zwf _,aB ‹_›, ?_,rfl⟩;(first|rfl))|(refine ⟨_,_,_,rfl,zwr _,zsr _, ?_,rfl⟩)|(refine ⟨_,_,_,rfl,zwf _,aB ‹_›, ?_,rfl⟩)))|show Cn (.r _ _ _);refine .rr ?_;(exact ⟨id,by rw [hkl],hid,rfl⟩);done|show Cn (.r _ _ _);refine .any ⟨_,_, ?zs,rfl,zwr _, ?zh, ?zr⟩;(case zh=>(refine aF ?_ ‹_›;(repeat refine aF ?_ ‹_›);exact zsr _));(case zr=>(exact ⟨id,by rw [hkl],hid,rfl⟩))|apply wZ;rfl|show Cn _;constructor|exact rfl|apply KR.mk;kernel_rfl|apply ncA;rfl;rfl;rfl;rotate_left;rfl;rfl|apply ldR pk;rfl;rfl;rotate_left;rfl;(focus ((repeat (first|exact aA _ _ _|assumption|refine (aC ‹_›).trans ?_));done));rfl;rfl|apply stR pk;rfl;rfl;(focus ((repeat (first|exact aA _ _ _|assumption|refine (aC ‹_›).trans ?_));done));rfl;rfl|omega|intros;omega|simp only [zql];omega|intros;simp only [zql];omega|intros;simp only;omega|intro h;omega|intro h;simp at h;done|intro h;simp at h;omega|(intro h;simp at h)|intro h)
 have hil:i<s[k].cols.length:=by omega
 have hsh:=X.Shown_spec s[k].cols[i]
 have e:(gJ s[k]).take (i+1)=(gJ s[k]).take i++[vY s[k].cols[i]]:=by rw [List.take_succ_eq_append_getElem (by omega)];simp [gJ]
 have hln:((gJ s[k]).take i).length=i:=by rw [zlt];omega
 generalize (gJ s[k]).take i=G at*
 (repeat' first|(show Cn (.e _ _ _ _);refine .any ?_;(first|(refine ⟨_,_,_,rfl,zwr _,zsr _, ?_,rfl⟩;(first|rfl))|(refine ⟨_,_,_,rfl,zwr _,aB ‹_›, ?_,rfl⟩;(first|rfl))|(refine ⟨_,_,_,rfl,zwf _,zsr _, ?_,rfl⟩;(first|rfl))|(refine ⟨_,_,_,rfl,zwf _,aB ‹_›, ?_,rfl⟩;(first|rfl))|(refine ⟨_,_,_,rfl,zwr _,zsr _, ?_,rfl⟩)|(refine ⟨_,_,_,rfl,zwf _,aB ‹_›, ?_,rfl⟩)))|(show Cn (.r _ _ _);refine .any ?_;(first|(refine ⟨_,_,_,rfl,zwr _,zsr _, ?_,rfl⟩;(first|rfl))|(refine ⟨_,_,_,rfl,zwr _,aB ‹_›, ?_,rfl⟩;(first|rfl))|(refine ⟨_,_,_,rfl,zwf _,zsr _, ?_,rfl⟩;(first|rfl))|(refine ⟨_,_,_,rfl,zwf _,aB ‹_›, ?_,rfl⟩;(first|rfl))|(refine ⟨_,_,_,rfl,zwr _,zsr _, ?_,rfl⟩)|(refine ⟨_,_,_,rfl,zwf _,aB ‹_›, ?_,rfl⟩)))|refine ⟨⟨(i+1,id'),by simp only;omega,bA hid'⟩, ?_, ?_⟩;((dsimp only;rw [e]))|show Cn (.t _ _);exact Cn.t0|show Cn (.t _ _);exact .any (aJ ‹_›)|(show Cn (.t _ _);exact .any (aI (by (first|rfl|exact aL ‹_›|((simp only [St.pv,St.put,St.sst,St.setv,St.nil,St.var,aH]);(first|done|rfl))))))|(show Cn (.t _ _);refine .any (aI ?_);(simp only [St.pv,St.put,St.sst,St.setv,St.nil,St.var,aH]);(rw [dA ‹_›]);(first|done|rfl))|apply wZ;rfl|show Cn _;constructor|exact rfl|apply KR.mk;kernel_rfl|(apply hsh<;>(first|assumption|omega))|(show _=_;(first|rfl|simp))|(apply apV pk (f:=I1) [vY s[k].cols[i]] 8;(iterate 9 rfl);(focus ((repeat (first|exact aA _ _ _|assumption|refine (aC ‹_›).trans ?_));done));(first|omega|assumption|(focus (simp;done))|(focus (simp;omega))|(focus (simp at*;omega)));exact λ_=>rfl;exact λ_=>rfl;exact lB;(first|omega|assumption|(focus (simp;done))|(focus (simp;omega))|(focus (simp at*;omega)));(first|omega|assumption|(focus (simp;done))|(focus (simp;omega))|(focus (simp at*;omega)));rfl;intro id' hid')|(apply ap0 pk (f:=I1) [vY s[k].cols[i]] 8;(iterate 10 rfl);exact λ_=>rfl;exact λ_=>rfl;exact lB;(first|omega|assumption|(focus (simp;done))|(focus (simp;omega))|(focus (simp at*;omega)));(first|omega|assumption|(focus (simp;done))|(focus (simp;omega))|(focus (simp at*;omega)));rfl;intro id' hid')|apply wY;rfl|apply wI;rfl|apply gE;omega|apply gE;show 0<_;omega|apply gE;show 1<_;omega|omega|intros;omega|simp only [zql];omega|intros;simp only [zql];omega|intros;simp only;omega|intro h;omega|intro h;simp at h;done|intro h;simp at h;omega|(intro h;simp at h)|intro h)
theorem agP (s:Sc) (k:Nat) (h:k<s.length) (hc:s[k].cols.length<=1000):PF Tryz.prog 115 [(vi ((k:Nat))), .rp (scC s)] (.tup [.seq ((gJ s[k]).map I1),(vb (true))]):=λst=>
 eZ (sz:=1) (zU s k h hc st) λp st' h=>by
  obtain ⟨id,rfl,h3,rfl⟩:=h
  exact .inl ⟨id,3,(gJ s[k]).map I1,_,st,aA _ _ _,atJ, .tup (.cons (eH (by simp)) (.cons .refl .nil)),cY h3,rfl,rfl⟩
def jI (s:Sc) (k:Int):Option (List Int):=if 0<=k/\k<s.length then some (gJ s[k.toNat]!) else none
def nK (s:Sc):List Jn->List Int->List Int×Int
 |[],out=>(out,0)
 |j::js,out=>match jI s j.table with
  |none=>([],4)
  |some more=>if j.left<0\/j.left>=out.length\/j.right<0\/j.right>=more.length then ([],4) else if out[j.left.toNat]!≠more[j.right.toNat]! then ([],6) else nK s js (out++more)
def dC (s:Sc) (q:Qu):List Int×Int:=match jI s q.table with
 |none=>([],4)
 |some out=>if q.joins.length>4 then ([],2) else nK s q.joins out
theorem iD {s:Sc} (hc:∀t∈s,t.cols.length<=1000) {k:Int} {out:List Int} (h:jI s k=some out):out.length<=1000:=by
 unfold jI at h
 split at h
 ·rename_i q
  cases h
  unfold gJ
  rw [zql,getElem!_pos s k.toNat (by omega)]
  exact hc _ (zgm _)
 ·cases h
theorem rO {s:Sc} {k:Int} {out:List Int} (h:jI s k=some out):∃(i:Nat) (hi:i<s.length),k=(i:Int)/\out=gJ s[i]:=by
 unfold jI at h
 split at h
 ·rename_i q
  cases h
  exact ⟨k.toNat,by omega,by omega,by rw [getElem!_pos s k.toNat (by omega)]⟩
 ·cases h
theorem adT {s:Sc} {k:Int} (h:jI s k=none):¬(0<=k/\k<s.length):=λq=>by
 unfold jI at h
 rw [zp q] at h;cases h
def aDj (st:aD) (K:List Int×Int) (r:PV) (S:aD):Prop:=(∃id,r= .tup [.vec id 1 0 K.1.length,(vi (0))]/\K.2=0/\st id=none/\S=upd st id (some (.arr 3 (K.1.map I1))))\/(r= .tup [.val (.slice none 0 0),(vi (K.2))]/\K.1=[]/\StSub st S)
theorem avZ (s:Sc) (q:Qu) (hc:∀t∈s,t.cols.length<=1000) (st:aD):PC Tryz.prog 72 [.agg (scC s), .agg q.cells] st (aDj st (dC s q)):=by
 have hjm:(q.joins.map Jn.cells).length=q.joins.length:=zql _
 unfold dC
 cases hT:jI s q.table with
 |none=>
  have h1:=yU s q.table (adT hT)
  dsimp only
  refine pC Tryz.func72 rfl ?_
  (repeat' first|apply wDx pk;rfl;kernel_rfl;rfl;rfl|(apply Cn.cf;focus ((apply h1<;>(first|assumption|omega));done))|(apply cV;focus ((apply h1<;>(first|assumption|omega));done))|(show Cn (.e _ _ _ _);refine .any ?_;(first|(refine ⟨_,_,_,rfl,zwr _,zsr _, ?_,rfl⟩;(first|rfl))|(refine ⟨_,_,_,rfl,zwr _,aB ‹_›, ?_,rfl⟩;(first|rfl))|(refine ⟨_,_,_,rfl,zwf _,zsr _, ?_,rfl⟩;(first|rfl))|(refine ⟨_,_,_,rfl,zwf _,aB ‹_›, ?_,rfl⟩;(first|rfl))|(refine ⟨_,_,_,rfl,zwr _,zsr _, ?_,rfl⟩)|(refine ⟨_,_,_,rfl,zwf _,aB ‹_›, ?_,rfl⟩)))|show Cn (.r _ _ _);refine .rr ?_;(exact .inr ⟨rfl,rfl,zsr _⟩);done|show Cn (.r _ _ _);refine .any ⟨_,_, ?zs,rfl,zwr _, ?zh, ?zr⟩;(case zh=>(refine aF ?_ ‹_›;(repeat refine aF ?_ ‹_›);exact zsr _));(case zr=>(exact .inr ⟨rfl,rfl,zsr _⟩))|apply wZ;rfl|show Cn _;constructor|exact rfl|apply KR.mk;kernel_rfl|apply ncA;rfl;rfl;rfl;rotate_left;rfl;rfl|apply ldR pk;rfl;rfl;rotate_left;rfl;(focus ((repeat (first|exact aA _ _ _|assumption|refine (aC ‹_›).trans ?_));done));rfl;rfl|apply stR pk;rfl;rfl;(focus ((repeat (first|exact aA _ _ _|assumption|refine (aC ‹_›).trans ?_));done));rfl;rfl|apply aQ 2;rfl;rfl|apply wY;rfl|omega|intros;omega|simp only [zql];omega|intros;simp only [zql];omega|intros;simp only;omega|intro h;omega|intro h;simp at h;done|intro h;simp at h;omega|(intro h;simp at h)|intro h)
 |some out=>
  have hol:=iD hc hT
  obtain ⟨k,hk,hkq,hout⟩:=rO hT
  have h1:=zU s k hk (hc _ (zgm hk)) st
  rw [<-hkq,<-hout] at h1
  dsimp only
  by_cases h4:q.joins.length>4
  ·rw [zp h4]
   refine pC Tryz.func72 rfl ?_
   (repeat' first|apply wDx pk;rfl;kernel_rfl;rfl;rfl|(show Cn (.e _ _ _ _);refine .any ?_;(first|(refine ⟨_,_,_,rfl,zwr _,zsr _, ?_,rfl⟩;(first|rfl))|(refine ⟨_,_,_,rfl,zwr _,aB ‹_›, ?_,rfl⟩;(first|rfl))|(refine ⟨_,_,_,rfl,zwf _,zsr _, ?_,rfl⟩;(first|rfl))|(refine ⟨_,_,_,rfl,zwf _,aB ‹_›, ?_,rfl⟩;(first|rfl))|(refine ⟨_,_,_,rfl,zwr _,zsr _, ?_,rfl⟩)|(refine ⟨_,_,_,rfl,zwf _,aB ‹_›, ?_,rfl⟩)))|show Cn (.r _ _ _);refine .rr ?_;(exact .inr ⟨rfl,rfl,aB hid⟩);done|show Cn (.r _ _ _);refine .any ⟨_,_, ?zs,rfl,zwr _, ?zh, ?zr⟩;(case zh=>(refine aF ?_ ‹_›;(repeat refine aF ?_ ‹_›);exact zsr _));(case zr=>(exact .inr ⟨rfl,rfl,aB hid⟩))|apply wZ;rfl|show Cn _;constructor|exact rfl|apply KR.mk;kernel_rfl|apply ncA;rfl;rfl;rfl;rotate_left;rfl;rfl|apply ldR pk;rfl;rfl;rotate_left;rfl;(focus ((repeat (first|exact aA _ _ _|assumption|refine (aC ‹_›).trans ?_));done));rfl;rfl|apply stR pk;rfl;rfl;(focus ((repeat (first|exact aA _ _ _|assumption|refine (aC ‹_›).trans ?_));done));rfl;rfl|apply aQ 2;rfl;rfl|((apply eE;rfl;rfl;exact h1;rfl;rfl;rfl;intro _ st' hR;obtain ⟨id,rfl,hid,rfl⟩:=hR))|omega|intros;omega|simp only [zql];omega|intros;simp only [zql];omega|intros;simp only;omega|intro h;omega|intro h;simp at h;done|intro h;simp at h;omega|(intro h;simp at h)|intro h)
  rw [zn h4]
  generalize hK:nK s q.joins out=K
  refine pC Tryz.func72 rfl ?_
  focus ((repeat' first|apply wDx pk;rfl;kernel_rfl;rfl;rfl|(show Cn (.e _ _ _ _);refine .any ?_;(first|(refine ⟨_,_,_,rfl,zwr _,zsr _, ?_,rfl⟩;(first|rfl))|(refine ⟨_,_,_,rfl,zwr _,aB ‹_›, ?_,rfl⟩;(first|rfl))|(refine ⟨_,_,_,rfl,zwf _,zsr _, ?_,rfl⟩;(first|rfl))|(refine ⟨_,_,_,rfl,zwf _,aB ‹_›, ?_,rfl⟩;(first|rfl))|(refine ⟨_,_,_,rfl,zwr _,zsr _, ?_,rfl⟩)|(refine ⟨_,_,_,rfl,zwf _,aB ‹_›, ?_,rfl⟩)))|apply wZ;rfl|show Cn _;constructor|exact rfl|apply KR.mk;kernel_rfl|apply ncA;rfl;rfl;rfl;rotate_left;rfl;rfl|apply ldR pk;rfl;rfl;rotate_left;rfl;(focus ((repeat (first|exact aA _ _ _|assumption|refine (aC ‹_›).trans ?_));done));rfl;rfl|apply stR pk;rfl;rfl;(focus ((repeat (first|exact aA _ _ _|assumption|refine (aC ‹_›).trans ?_));done));rfl;rfl|apply aQ 2;rfl;rfl|((apply eE;rfl;rfl;exact h1;rfl;rfl;rfl;intro _ st' hR;obtain ⟨id,rfl,hid,rfl⟩:=hR))|omega|intros;omega|simp only [zql];omega|intros;simp only [zql];omega|intros;simp only;omega|intro h;omega|intro h;simp at h;done|intro h;simp at h;omega|(intro h;simp at h)|intro h))
  refine aG (X:={x:Nat×List Int×Nat//x.1<=q.joins.length/\x.2.1.length<=1000*(x.1+1)/\nK s (q.joins.drop x.1) x.2.1=K/\st x.2.2=none}) (λi=>((((((St.nil 85 (upd st i.1.2.2 (some (.arr 3 (i.1.2.1.map I1))))).pv 6 (.fn 115 [.rp (scC s)])).pv 7 (.vec i.1.2.2 1 0 i.1.2.1.length)).pv 28 (.seq (q.joins.map Jn.cells))).pv 29 ((vi (((q.joins.map Jn.cells).length:Nat))))).pv 30 ((vi ((i.1.1:Nat)))))) (λi=>q.joins.length-i.1.1) ⟨(0,out,id),by simp,by simp only;omega,hK,hid⟩ ?_ (λi=> ?_)
  ·(repeat' first|show Cn (.t _ _);exact Cn.t0|show Cn (.t _ _);exact .any (aJ ‹_›)|(show Cn (.t _ _);exact .any (aI (by (first|rfl|exact aL ‹_›|((simp only [St.pv,St.put,St.sst,St.setv,St.nil,St.var,aH]);(first|done|rfl))))))|(show Cn (.t _ _);refine .any (aI ?_);(simp only [St.pv,St.put,St.sst,St.setv,St.nil,St.var,aH]);(rw [dA ‹_›]);(first|done|rfl))|show Cn _;constructor|exact rfl)
  clear hid h1 hK hout hkq hT hol
  obtain ⟨⟨i,out,id⟩,hi,hol,hK,hid⟩:=i
  simp only at hi hol hK hid
  dsimp only
  by_cases hend:q.joins.length<=i
  ·rw [List.drop_of_length_le hend] at hK
   subst hK
   (repeat' first|apply wDx pk;rfl;kernel_rfl;rfl;rfl|(show Cn (.e _ _ _ _);refine .any ?_;(first|(refine ⟨_,_,_,rfl,zwr _,zsr _, ?_,rfl⟩;(first|rfl))|(refine ⟨_,_,_,rfl,zwr _,aB ‹_›, ?_,rfl⟩;(first|rfl))|(refine ⟨_,_,_,rfl,zwf _,zsr _, ?_,rfl⟩;(first|rfl))|(refine ⟨_,_,_,rfl,zwf _,aB ‹_›, ?_,rfl⟩;(first|rfl))|(refine ⟨_,_,_,rfl,zwr _,zsr _, ?_,rfl⟩)|(refine ⟨_,_,_,rfl,zwf _,aB ‹_›, ?_,rfl⟩)))|show Cn (.r _ _ _);refine .rr ?_;(exact .inl ⟨id,rfl,rfl,hid,rfl⟩);done|show Cn (.r _ _ _);refine .any ⟨_,_, ?zs,rfl,zwr _, ?zh, ?zr⟩;(case zh=>(refine aF ?_ ‹_›;(repeat refine aF ?_ ‹_›);exact zsr _));(case zr=>(exact .inl ⟨id,rfl,rfl,hid,rfl⟩))|apply wZ;rfl|show Cn _;constructor|exact rfl|apply KR.mk;kernel_rfl|apply ncA;rfl;rfl;rfl;rotate_left;rfl;rfl|apply ldR pk;rfl;rfl;rotate_left;rfl;(focus ((repeat (first|exact aA _ _ _|assumption|refine (aC ‹_›).trans ?_));done));rfl;rfl|apply stR pk;rfl;rfl;(focus ((repeat (first|exact aA _ _ _|assumption|refine (aC ‹_›).trans ?_));done));rfl;rfl|omega|intros;omega|simp only [zql];omega|intros;simp only [zql];omega|intros;simp only;omega|intro h;omega|intro h;simp at h;done|intro h;simp at h;omega|(intro h;simp at h)|intro h)
  have hil:i<q.joins.length:=by omega
  rw [List.drop_eq_getElem_cons hil] at hK
  generalize hj:q.joins[i]=j at*
  have hrow:(q.joins.map Jn.cells)[i]?=some j.cells:=by simp [hil,hj]
  unfold nK at hK
  cases hm:jI s j.table with
  |none=>
   have h2:=yU s j.table (adT hm)
   rw [hm] at hK
   subst hK
   (repeat' first|apply wDx pk;rfl;kernel_rfl;rfl;rfl|(apply Cn.cf;focus ((apply h2<;>(first|assumption|omega));done))|(apply cV;focus ((apply h2<;>(first|assumption|omega));done))|(show Cn (.e _ _ _ _);refine .any ?_;(first|(refine ⟨_,_,_,rfl,zwr _,zsr _, ?_,rfl⟩;(first|rfl))|(refine ⟨_,_,_,rfl,zwr _,aB ‹_›, ?_,rfl⟩;(first|rfl))|(refine ⟨_,_,_,rfl,zwf _,zsr _, ?_,rfl⟩;(first|rfl))|(refine ⟨_,_,_,rfl,zwf _,aB ‹_›, ?_,rfl⟩;(first|rfl))|(refine ⟨_,_,_,rfl,zwr _,zsr _, ?_,rfl⟩)|(refine ⟨_,_,_,rfl,zwf _,aB ‹_›, ?_,rfl⟩)))|show Cn (.r _ _ _);refine .rr ?_;(exact .inr ⟨rfl,rfl,aB hid⟩);done|show Cn (.r _ _ _);refine .any ⟨_,_, ?zs,rfl,zwr _, ?zh, ?zr⟩;(case zh=>(refine aF ?_ ‹_›;(repeat refine aF ?_ ‹_›);exact zsr _));(case zr=>(exact .inr ⟨rfl,rfl,aB hid⟩))|apply wZ;rfl|show Cn _;constructor|exact rfl|apply KR.mk;kernel_rfl|apply bX pk;(iterate 6 rfl);rotate_left;rfl;(intro hw;rfl);(intro hw;apply hrow<;>omega);(intro _;rfl);rfl|apply ncA;rfl;rfl;rfl;rotate_left;rfl;rfl|apply ldR pk;rfl;rfl;rotate_left;rfl;(focus ((repeat (first|exact aA _ _ _|assumption|refine (aC ‹_›).trans ?_));done));rfl;rfl|apply stR pk;rfl;rfl;(focus ((repeat (first|exact aA _ _ _|assumption|refine (aC ‹_›).trans ?_));done));rfl;rfl|apply wY;rfl|apply wI;rfl|apply gE;omega|apply gE;show 0<_;omega|apply gE;show 1<_;omega|omega|intros;omega|simp only [zql];omega|intros;simp only [zql];omega|intros;simp only;omega|intro h;omega|intro h;simp at h;done|intro h;simp at h;omega|(intro h;simp at h)|intro h)
  |some more=>
   have hml:=iD hc hm
   obtain ⟨k2,hk2,hkq2,hout2⟩:=rO hm
   have h2:=agP s k2 hk2 (hc _ (zgm hk2))
   rw [<-hkq2,<-hout2] at h2
   have hmm:(more.map I1).length=more.length:=zql _
   rw [hm] at hK
   dsimp only at hK
   by_cases hb:j.left<0\/j.left>=out.length\/j.right<0\/j.right>=more.length
   ·rw [zp hb] at hK
    subst hK
    (repeat' first|apply wDx pk;rfl;kernel_rfl;rfl;rfl|(apply Cn.cf;focus ((apply h2<;>(first|assumption|omega));done))|(apply cV;focus ((apply h2<;>(first|assumption|omega));done))|(show Cn (.e _ _ _ _);refine .any ?_;(first|(refine ⟨_,_,_,rfl,zwr _,zsr _, ?_,rfl⟩;(first|rfl))|(refine ⟨_,_,_,rfl,zwr _,aB ‹_›, ?_,rfl⟩;(first|rfl))|(refine ⟨_,_,_,rfl,zwf _,zsr _, ?_,rfl⟩;(first|rfl))|(refine ⟨_,_,_,rfl,zwf _,aB ‹_›, ?_,rfl⟩;(first|rfl))|(refine ⟨_,_,_,rfl,zwr _,zsr _, ?_,rfl⟩)|(refine ⟨_,_,_,rfl,zwf _,aB ‹_›, ?_,rfl⟩)))|show Cn (.r _ _ _);refine .rr ?_;(exact .inr ⟨rfl,rfl,aB hid⟩);done|show Cn (.r _ _ _);refine .any ⟨_,_, ?zs,rfl,zwr _, ?zh, ?zr⟩;(case zh=>(refine aF ?_ ‹_›;(repeat refine aF ?_ ‹_›);exact zsr _));(case zr=>(exact .inr ⟨rfl,rfl,aB hid⟩))|apply wZ;rfl|show Cn _;constructor|exact rfl|apply KR.mk;kernel_rfl|apply bX pk;(iterate 6 rfl);rotate_left;rfl;(intro hw;rfl);(intro hw;apply hrow<;>omega);(intro _;rfl);rfl|apply ncA;rfl;rfl;rfl;rotate_left;rfl;rfl|apply ldR pk;rfl;rfl;rotate_left;rfl;(focus ((repeat (first|exact aA _ _ _|assumption|refine (aC ‹_›).trans ?_));done));rfl;rfl|apply stR pk;rfl;rfl;(focus ((repeat (first|exact aA _ _ _|assumption|refine (aC ‹_›).trans ?_));done));rfl;rfl|apply wY;rfl|apply wI;rfl|apply gE;omega|apply gE;show 0<_;omega|apply gE;show 1<_;omega|omega|intros;omega|simp only [zql];omega|intros;simp only [zql];omega|intros;simp only;omega|intro h;omega|intro h;simp at h;done|intro h;simp at h;omega|(intro h;simp at h)|intro h)
   rw [zn hb] at hK
   clear hj
   obtain ⟨tb,lf,rt⟩:=j
   simp only at hb hK hrow h2 hkq2
   obtain ⟨l,rfl⟩:∃l:Nat,lf=(l:Int):=⟨lf.toNat,by omega⟩
   obtain ⟨r,rfl⟩:∃r:Nat,rt=(r:Int):=⟨rt.toNat,by omega⟩
   rw [Int.toNat_natCast,Int.toNat_natCast] at hK
   have hl:l<out.length:=by omega
   have hr:r<more.length:=by omega
   rw [getElem!_pos out l hl,getElem!_pos more r hr] at hK
   have hget:out[l]?=some out[l]:=by simp [hl]
   by_cases hne:out[l]≠more[r]
   ·rw [zp hne] at hK
    subst hK
    (repeat' first|apply wD pk [] [4];kernel_rfl;rfl;rfl|apply wDx pk;rfl;kernel_rfl;rfl;rfl|(apply Cn.cf;focus ((apply h2<;>(first|assumption|omega));done))|(apply cV;focus ((apply h2<;>(first|assumption|omega));done))|(show Cn (.e _ _ _ _);refine .any ?_;(first|(refine ⟨_,_,_,rfl,zwr _,zsr _, ?_,rfl⟩;(first|rfl))|(refine ⟨_,_,_,rfl,zwr _,aB ‹_›, ?_,rfl⟩;(first|rfl))|(refine ⟨_,_,_,rfl,zwf _,zsr _, ?_,rfl⟩;(first|rfl))|(refine ⟨_,_,_,rfl,zwf _,aB ‹_›, ?_,rfl⟩;(first|rfl))|(refine ⟨_,_,_,rfl,zwr _,zsr _, ?_,rfl⟩)|(refine ⟨_,_,_,rfl,zwf _,aB ‹_›, ?_,rfl⟩)))|show Cn (.r _ _ _);refine .rr ?_;(exact .inr ⟨rfl,rfl,aB hid⟩);done|show Cn (.r _ _ _);refine .any ⟨_,_, ?zs,rfl,zwr _, ?zh, ?zr⟩;(case zh=>(refine aF ?_ ‹_›;(repeat refine aF ?_ ‹_›);exact zsr _));(case zr=>(exact .inr ⟨rfl,rfl,aB hid⟩))|apply wZ;rfl|show Cn _;constructor|exact rfl|apply KR.mk;kernel_rfl|apply bX pk;(iterate 6 rfl);rotate_left;rfl;(intro hw;rfl);(intro hw;apply hrow<;>omega);(intro _;rfl);rfl|apply ncA;rfl;rfl;rfl;rotate_left;rfl;rfl|apply ldR pk;rfl;rfl;rotate_left;rfl;(focus ((repeat (first|exact aA _ _ _|assumption|refine (aC ‹_›).trans ?_));done));rfl;rfl|apply stR pk;rfl;rfl;(focus ((repeat (first|exact aA _ _ _|assumption|refine (aC ‹_›).trans ?_));done));rfl;rfl|apply ldL pk I1.elem (a:=out[l]);rfl;rfl;rotate_left;rfl;(focus ((repeat (first|exact aA _ _ _|assumption|refine (aC ‹_›).trans ?_));done));(intro _;exact hget);rfl|(apply ixA pk;(iterate 5 rfl);rotate_left;rfl;(intro hw;(first|exact (show _=((l:Nat):Int) from by omega)|(simp [gw] at hw;first|exact (show _=((l:Nat):Int) from by omega)|refine (show _=((0:Nat):Int) from ?_);omega)|exact rfl));(intro hw;(first|omega|(focus (simp [gw] at hw;done))|simp [gw] at hw;omega|simp only [zqs];omega));rfl;(first|exact Nat.zero_add _|exact rfl))|apply ldA pk I1.elem;rfl;rfl;rotate_left;rfl;(focus ((repeat (first|exact aA _ _ _|assumption|refine (aC ‹_›).trans ?_));done));(intro hw;(first|omega|(focus (simp [gw] at hw;done))|simp [gw] at hw;omega|simp only [zqs];omega));rfl|apply stA pk I1.elem;rfl;rfl;rfl;(focus ((repeat (first|exact aA _ _ _|assumption|refine (aC ‹_›).trans ?_));done));(first|omega|simp only [zqs];omega);rfl|apply wY;rfl|apply wI;rfl|apply gE;omega|apply gE;show 0<_;omega|apply gE;show 1<_;omega|omega|intros;omega|simp only [zql];omega|intros;simp only [zql];omega|intros;simp only;omega|intro h;omega|intro h;simp at h;done|intro h;simp at h;omega|(intro h;simp at h)|intro h)
   ·rw [zn hne] at hK
    (repeat' first|apply wD pk [] [4];kernel_rfl;rfl;rfl|apply wDx pk;rfl;kernel_rfl;rfl;rfl|(apply Cn.cf;focus ((apply h2<;>(first|assumption|omega));done))|(apply cV;focus ((apply h2<;>(first|assumption|omega));done))|(show Cn (.e _ _ _ _);refine .any ?_;(first|(refine ⟨_,_,_,rfl,zwr _,zsr _, ?_,rfl⟩;(first|rfl))|(refine ⟨_,_,_,rfl,zwr _,aB ‹_›, ?_,rfl⟩;(first|rfl))|(refine ⟨_,_,_,rfl,zwf _,zsr _, ?_,rfl⟩;(first|rfl))|(refine ⟨_,_,_,rfl,zwf _,aB ‹_›, ?_,rfl⟩;(first|rfl))|(refine ⟨_,_,_,rfl,zwr _,zsr _, ?_,rfl⟩)|(refine ⟨_,_,_,rfl,zwf _,aB ‹_›, ?_,rfl⟩)))|(show Cn (.r _ _ _);refine .any ?_;(first|(refine ⟨_,_,_,rfl,zwr _,zsr _, ?_,rfl⟩;(first|rfl))|(refine ⟨_,_,_,rfl,zwr _,aB ‹_›, ?_,rfl⟩;(first|rfl))|(refine ⟨_,_,_,rfl,zwf _,zsr _, ?_,rfl⟩;(first|rfl))|(refine ⟨_,_,_,rfl,zwf _,aB ‹_›, ?_,rfl⟩;(first|rfl))|(refine ⟨_,_,_,rfl,zwr _,zsr _, ?_,rfl⟩)|(refine ⟨_,_,_,rfl,zwf _,aB ‹_›, ?_,rfl⟩)))|refine ⟨⟨(i+1,out++more,id'),by simp only;omega,by simp only [zla];omega,hK,bA hid'⟩, ?_, ?_⟩;((dsimp only))|show Cn (.t _ _);exact Cn.t0|show Cn (.t _ _);exact .any (aJ ‹_›)|(show Cn (.t _ _);exact .any (aI (by (first|rfl|exact aL ‹_›|((simp only [St.pv,St.put,St.sst,St.setv,St.nil,St.var,aH]);(first|done|rfl))))))|(show Cn (.t _ _);refine .any (aI ?_);(simp only [St.pv,St.put,St.sst,St.setv,St.nil,St.var,aH]);(rw [dA ‹_›]);(first|done|rfl))|apply wZ;rfl|show Cn _;constructor|exact rfl|apply KR.mk;kernel_rfl|apply bX pk;(iterate 6 rfl);rotate_left;rfl;(intro hw;rfl);(intro hw;apply hrow<;>omega);(intro _;rfl);rfl|(show _=_;(first|rfl|simp))|apply ncA;rfl;rfl;rfl;rotate_left;rfl;rfl|apply ldR pk;rfl;rfl;rotate_left;rfl;(focus ((repeat (first|exact aA _ _ _|assumption|refine (aC ‹_›).trans ?_));done));rfl;rfl|apply stR pk;rfl;rfl;(focus ((repeat (first|exact aA _ _ _|assumption|refine (aC ‹_›).trans ?_));done));rfl;rfl|apply ldL pk I1.elem (a:=out[l]);rfl;rfl;rotate_left;rfl;(focus ((repeat (first|exact aA _ _ _|assumption|refine (aC ‹_›).trans ?_));done));(intro _;exact hget);rfl|(apply apV pk (f:=I1) more 8;(iterate 9 rfl);(focus ((repeat (first|exact aA _ _ _|assumption|refine (aC ‹_›).trans ?_));done));(first|omega|assumption|(focus (simp;done))|(focus (simp;omega))|(focus (simp at*;omega)));exact λ_=>rfl;exact λ_=>rfl;exact lB;(first|omega|assumption|(focus (simp;done))|(focus (simp;omega))|(focus (simp at*;omega)));(first|omega|assumption|(focus (simp;done))|(focus (simp;omega))|(focus (simp at*;omega)));rfl;intro id' hid')|(apply ap0 pk (f:=I1) more 8;(iterate 10 rfl);exact λ_=>rfl;exact λ_=>rfl;exact lB;(first|omega|assumption|(focus (simp;done))|(focus (simp;omega))|(focus (simp at*;omega)));(first|omega|assumption|(focus (simp;done))|(focus (simp;omega))|(focus (simp at*;omega)));rfl;intro id' hid')|(apply ixA pk;(iterate 5 rfl);rotate_left;rfl;(intro hw;(first|exact (show _=((l:Nat):Int) from by omega)|(simp [gw] at hw;first|exact (show _=((l:Nat):Int) from by omega)|refine (show _=((0:Nat):Int) from ?_);omega)|exact rfl));(intro hw;(first|omega|(focus (simp [gw] at hw;done))|simp [gw] at hw;omega|simp only [zqs];omega));rfl;(first|exact Nat.zero_add _|exact rfl))|apply ldA pk I1.elem;rfl;rfl;rotate_left;rfl;(focus ((repeat (first|exact aA _ _ _|assumption|refine (aC ‹_›).trans ?_));done));(intro hw;(first|omega|(focus (simp [gw] at hw;done))|simp [gw] at hw;omega|simp only [zqs];omega));rfl|apply stA pk I1.elem;rfl;rfl;rfl;(focus ((repeat (first|exact aA _ _ _|assumption|refine (aC ‹_›).trans ?_));done));(first|omega|simp only [zqs];omega);rfl|apply wY;rfl|apply wI;rfl|apply gE;omega|apply gE;show 0<_;omega|apply gE;show 1<_;omega|omega|intros;omega|simp only [zql];omega|intros;simp only [zql];omega|intros;simp only;omega|intro h;omega|intro h;simp at h;done|intro h;simp at h;omega|(intro h;simp at h)|intro h)
end Go.Proofs.YtppdefkgmegipaaGreatDoor
