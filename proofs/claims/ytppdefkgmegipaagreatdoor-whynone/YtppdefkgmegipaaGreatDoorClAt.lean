import Derived.Test.YtppdefkgmegipaaGreatDoorClAs
import Derived.Test.YtppdefkgmegipaaGreatDoorClAe
import Derived.Test.YtppdefkgmegipaaGreatDoorClAc
import Derived.Test.YtppdefkgmegipaaGreatDoorClAg
set_option linter.unusedSimpArgs false
set_option linter.unusedVariables false
namespace Go.Proofs.YtppdefkgmegipaaGreatDoor
open Go Go.Abs T
attribute [local irreducible] Ev PWp
set_option maxRecDepth 10000
set_option maxHeartbeats 4000000
def gV (i:Nat) (ls:List Ln) (k:Nat):List Ln:=ls.mapIdx λj l=>if j<k then ⟨l.key,l.cells_,[⟨(i:Int)+1,(j:Int)+1⟩]⟩ else l
theorem nO (i:Nat) (ls:List Ln) (k:Nat):(gV i ls k).length=ls.length:=by unfold gV;simp
theorem azO (i:Nat) (ls:List Ln):gV i ls 0=ls:=by
 unfold gV
 exact List.ext_getElem (by simp) λj h1 h2=>by simp
theorem awR {i:Nat} {ls:List Ln} {k:Nat} (h:k<ls.length):(gV i ls k)[k]'(by rw [nO];exact h)=ls[k]:=by unfold gV;simp
theorem aqZ {i:Nat} {ls:List Ln} {k:Nat} (h:k<ls.length):gV i ls (k+1)=(gV i ls k).set k ⟨ls[k].key,ls[k].cells_,[⟨(i:Int)+1,(k:Int)+1⟩]⟩:=by
 unfold gV
 refine List.ext_getElem (by simp) λj h1 h2=> ?_
 rw [List.getElem_set]
 simp only [List.getElem_mapIdx]
 by_cases q:k=j
 ·subst q;simp
 ·rw [zn q]
  by_cases q2:j<k
  ·rw [zp q2,zp (by omega)]
  ·rw [zn q2,zn (by omega)]
def dZ (b:Bs):Bs:=b.mapIdx λi d=>⟨gV i d.lines d.lines.length⟩
theorem rL (b:Bs):(dZ b).length=b.length:=by unfold dZ;simp
theorem awA (b:Bs) {i:Nat} (h:i<b.length):(dZ b)[i]'(by rw [rL];exact h)=⟨gV i b[i].lines b[i].lines.length⟩:=by unfold dZ;simp
def acW (i:Nat) (ls:List Ln) (m:List (Dt×(Int×Int))):Nat->List (Dt×(Int×Int))
 |0=>m
 |k+1=>cX ⟨(i:Int)+1,(k:Int)+1⟩ ((i:Int),(ls[k]!).key) (acW i ls m k)
def kG (b:Bs):Nat->List (Dt×(Int×Int))
 |0=>[]
 |i+1=>acW i (b[i]!).lines (kG b i) (b[i]!).lines.length
def p2F (p:Int×Int):PV:= .agg (P2 p)
theorem aA5 {st:aD} {j i k:Nat} {m m' a c:Option AObj} (h1:k≠j) (h2:i≠j):upd (upd (upd (upd st j m) i a) k c) j m'=upd (upd (upd st j m') i a) k c:=by
 rw [dH (d:=k) h1,dH (d:=i) (e:=j) h2,aH]
theorem aaT {st:aD} {i j:Nat} {o:AObj} (h:upd st i (some o) j=none):j≠i:=λe=>by rw [e,aA] at h;cases h
theorem aiL (b:Bs) (hb:b.length<100000000000) (hl:∀i (h:i<b.length),b[i].lines.length<1000000000000) (st:aD):PC Tryz.prog 30 [.agg (bsC b)] st λr S=>∃id idm,r= .tup [.agg [.vec id 1 0 b.length], .mref idm]/\st id=none/\st idm=none/\id≠idm/\S=upd (upd st idm (some (.map (aY gU p2F (kG b b.length))))) id (some (.arr 52 ((dZ b).map Da.cells))):=by
 have hsl:=rL b
 refine pC Tryz.func30 rfl ?_
 focus ((repeat' first|(apply mkM (enc:=gU) (f:=p2F);rfl;intro idm hidm)|(show Cn (.r _ _ _);refine .any ⟨_,_,_,rfl,zwr _,zsr _, ?_,rfl⟩;try rfl)|apply wZ;rfl|show Cn _;constructor|exact rfl|apply KR.mk;kernel_rfl|omega|intros;omega|simp only [zql];omega|intros;simp only [zql];omega|intros;simp only;omega|intro h;omega|intro h;simp at h;done|intro h;simp at h;omega|(intro h;simp at h)|intro h))
 have hidm:st idm=none:=hidm
 refine agL 5 52 1 [] rfl rfl rfl (λid hid=> ?_)
 have hne:id≠idm:=λe=>by subst e;have:=(aA _ _ _).symm.trans hid;cases this
 have hid:st id=none:=(aC hne).symm.trans hid
 refine aG (X:={x:Nat×Nat//x.1<=b.length/\st x.2=none/\x.2≠idm}) (λi=>(((((((St.nil 59 (upd (upd st idm (some (.map (aY gU p2F (kG b i.1.1))))) i.1.2 (some (.arr 52 (((dZ b).take i.1.1).map Da.cells))))).var 2 27 ([.val (.slice none 0 0)])).pv 4 (.mref idm)).var 5 27 ([.vec i.1.2 1 0 i.1.1])).pv 13 (.seq (b.map Da.cells))).pv 14 ((vi ((b.length:Nat))))).pv 15 ((vi ((i.1.1:Nat)))))) (λi=>b.length-i.1.1) ⟨(0,id),by simp,hid,hne⟩ ?_ (λi=> ?_)
 ·dsimp only
  (repeat' first|show Cn (.t _ _);exact Cn.t0|show Cn (.t _ _);exact .any (aJ ‹_›)|(show Cn (.t _ _);exact .any (aI (by (first|rfl|exact aL ‹_›|((simp only [St.pv,St.put,St.sst,St.setv,St.nil,St.var,aH]);(first|done|rfl))))))|(show Cn (.t _ _);refine .any (aI ?_);(simp only [St.pv,St.put,St.sst,St.setv,St.nil,St.var,aH]);(rw [dA ‹_›]);(first|done|rfl))|show Cn _;constructor|exact rfl|rw [zql])
 obtain ⟨⟨i,id⟩,hi,hid,hne⟩:=i
 simp only at hi hid hne
 dsimp only
 have hlen:((dZ b).take i).length=i:=by rw [zlt];omega
 by_cases hend:b.length<=i
 ·have e:(dZ b).take i=dZ b:=ztl (by omega)
  obtain rfl:i=b.length:=by omega
  (repeat' first|apply wDx pk;rfl;kernel_rfl;rfl;rfl|show Cn (.r _ _ _);refine .rr ?_;(exact ⟨id,idm,rfl,hid,hidm,hne,by rw [e];rfl⟩);done|show Cn (.r _ _ _);refine .any ⟨_,_, ?zs,rfl,zwr _, ?zh, ?zr⟩;(case zh=>(refine aF ?_ ‹_›;(repeat refine aF ?_ ‹_›);exact zsr _));(case zr=>(exact ⟨id,idm,rfl,hid,hidm,hne,by rw [e];rfl⟩))|apply wZ;rfl|show Cn _;constructor|exact rfl|apply KR.mk;kernel_rfl|apply ncA;rfl;rfl;rfl;rotate_left;rfl;rfl|apply ldR pk;rfl;rfl;rotate_left;rfl;(focus ((repeat (first|exact aA _ _ _|assumption|refine (aC ‹_›).trans ?_));done));rfl;rfl|apply stR pk;rfl;rfl;(focus ((repeat (first|exact aA _ _ _|assumption|refine (aC ‹_›).trans ?_));done));rfl;rfl|omega|intros;omega|simp only [zql];omega|intros;simp only [zql];omega|intros;simp only;omega|intro h;omega|intro h;simp at h;done|intro h;simp at h;omega|(intro h;simp at h)|intro h)
 have h1:i<b.length:=by omega
 have hl1:=hl i h1
 have e:=alJ (by omega) (awA b h1)
 have hb!:b[i]! =b[i]:=getElem!_pos b i h1
 have ho:kG b (i+1)=acW i b[i].lines (kG b i) b[i].lines.length:=by rw [<-hb!];rfl
 focus ((repeat' first|apply wDx pk;rfl;kernel_rfl;rfl;rfl|(show Cn (.e _ _ _ _);refine .any ?_;(first|(refine ⟨_,_,_,rfl,zwr _,zsr _, ?_,rfl⟩;(first|rfl))|(refine ⟨_,_,_,rfl,zwr _,aB ‹_›, ?_,rfl⟩;(first|rfl))|(refine ⟨_,_,_,rfl,zwf _,zsr _, ?_,rfl⟩;(first|rfl))|(refine ⟨_,_,_,rfl,zwf _,aB ‹_›, ?_,rfl⟩;(first|rfl))|(refine ⟨_,_,_,rfl,zwr _,zsr _, ?_,rfl⟩)|(refine ⟨_,_,_,rfl,zwf _,aB ‹_›, ?_,rfl⟩)))|apply wZ;rfl|show Cn _;constructor|exact rfl|apply KR.mk;kernel_rfl|apply ncA;rfl;rfl;rfl;rotate_left;rfl;rfl|apply ldR pk;rfl;rfl;rotate_left;rfl;(focus ((repeat (first|exact aA _ _ _|assumption|refine (aC ‹_›).trans ?_));done));rfl;rfl|apply stR pk;rfl;rfl;(focus ((repeat (first|exact aA _ _ _|assumption|refine (aC ‹_›).trans ?_));done));rfl;rfl|((show Ev _ _ _ (⟨some 22,_,_,_,_,_⟩::_) _ _;apply eE;rfl;rfl;exact yT b[i].lines _ hl1;rfl;rfl;rfl;intro _ st' hR;obtain ⟨id2,rfl,hid2,rfl⟩:=hR))|apply wI;rfl|apply gE;omega|apply gE;show 0<_;omega|apply gE;show 1<_;omega|omega|intros;omega|simp only [zql];omega|intros;simp only [zql];omega|intros;simp only;omega|intro h;omega|intro h;simp at h;done|intro h;simp at h;omega|(intro h;simp at h)|intro h))
 generalize (dZ b).take i=M at*
 have hid2:upd (upd st idm (some (.map (aY gU p2F (kG b i))))) id (some (.arr 52 (M.map Da.cells))) id2=none:=hid2
 have n2:id2≠id:=λe=>by subst e;rw [aA] at hid2;cases hid2
 have hid3:=(aC n2).symm.trans hid2
 have n3:id2≠idm:=λe=>by subst e;rw [aA] at hid3;cases hid3
 have hid4:st id2=none:=(aC n3).symm.trans hid3
 refine aG (X:={x:Nat//x<=b[i].lines.length}) (λy=>(((((((((((St.nil 59 (upd (upd (upd st idm (some (.map (aY gU p2F (acW i b[i].lines (kG b i) y.1))))) id (some (.arr 52 (M.map Da.cells)))) id2 (some (.arr 48 ((gV i b[i].lines y.1).map Ln.cells))))).var 2 27 ([.val (.slice none 0 0)])).pv 4 (.mref idm)).var 5 27 ([.vec id 1 0 i])).pv 6 ((vi ((i:Nat))))).pv 8 (.vec id2 3 0 b[i].lines.length)).pv 13 (.seq (b.map Da.cells))).pv 14 ((vi ((b.length:Nat))))).pv 15 ((vi ((i:Nat))))).pv 24 ((vi ((b[i].lines.length:Nat))))).pv 25 ((vi ((y.1:Nat)))))) (λy=>b[i].lines.length-y.1) ⟨0,by omega⟩ ?_ (λy=> ?_)
 ·dsimp only
  (repeat' first|show Cn (.t _ _);exact Cn.t0|show Cn (.t _ _);exact .any (aJ ‹_›)|(show Cn (.t _ _);exact .any (aI (by (first|rfl|exact aL ‹_›|((simp only [St.pv,St.put,St.sst,St.setv,St.nil,St.var,aH]);(first|done|rfl))))))|(show Cn (.t _ _);refine .any (aI ?_);(simp only [St.pv,St.put,St.sst,St.setv,St.nil,St.var,aH]);(rw [dA ‹_›]);(first|done|rfl))|show Cn _;constructor|exact rfl|show StSub _ _;rw [azO];exact zsr _)
 obtain ⟨y,hy⟩:=y
 dsimp only
 by_cases hend2:b[i].lines.length<=y
 ·obtain rfl:y=b[i].lines.length:=by omega
  rw [<-ho]
  refine afL 8 rfl (aA _ _ _) abB (by rw [ztl (by rw [zql,nO];exact Nat.le_refl _)]) ((aH _ _ _ _).trans (aL ((aC n2).trans ((aC n3).trans hid4)))) ?_
  have hidS:upd st idm (some (.map (aY gU p2F (kG b (i+1))))) id=none:=(aC hne).trans hid
  (repeat' first|(show Cn (.e _ _ _ _);refine .any ?_;(first|(refine ⟨_,_,_,rfl,zwr _,zsr _, ?_,rfl⟩;(first|rfl))|(refine ⟨_,_,_,rfl,zwr _,aB ‹_›, ?_,rfl⟩;(first|rfl))|(refine ⟨_,_,_,rfl,zwf _,zsr _, ?_,rfl⟩;(first|rfl))|(refine ⟨_,_,_,rfl,zwf _,aB ‹_›, ?_,rfl⟩;(first|rfl))|(refine ⟨_,_,_,rfl,zwr _,zsr _, ?_,rfl⟩)|(refine ⟨_,_,_,rfl,zwf _,aB ‹_›, ?_,rfl⟩)))|(show Cn (.r _ _ _);refine .any ?_;(first|(refine ⟨_,_,_,rfl,zwr _,zsr _, ?_,rfl⟩;(first|rfl))|(refine ⟨_,_,_,rfl,zwr _,aB ‹_›, ?_,rfl⟩;(first|rfl))|(refine ⟨_,_,_,rfl,zwf _,zsr _, ?_,rfl⟩;(first|rfl))|(refine ⟨_,_,_,rfl,zwf _,aB ‹_›, ?_,rfl⟩;(first|rfl))|(refine ⟨_,_,_,rfl,zwr _,zsr _, ?_,rfl⟩)|(refine ⟨_,_,_,rfl,zwf _,aB ‹_›, ?_,rfl⟩)))|refine ⟨⟨(i+1,id'),by simp only;omega,bA (bA hid'),aaT (bA hid')⟩, ?_, ?_⟩;((dsimp only;try rw [e]))|show Cn (.t _ _);exact Cn.t0|show Cn (.t _ _);exact .any (aJ ‹_›)|(show Cn (.t _ _);exact .any (aI (by (first|rfl|exact aL ‹_›|((simp only [St.pv,St.put,St.sst,St.setv,St.nil,St.var,aH]);(first|done|rfl))))))|(show Cn (.t _ _);refine .any (aI ?_);(simp only [St.pv,St.put,St.sst,St.setv,St.nil,St.var,aH]);(rw [dA ‹_›]);(first|done|rfl))|apply wZ;rfl|show Cn _;constructor|exact rfl|apply KR.mk;kernel_rfl|(show _=_;(first|rfl|simp))|(apply apV pk (f:=Da.cells) [⟨gV i b[i].lines b[i].lines.length⟩] 24;(iterate 9 rfl);(focus ((repeat (first|exact aA _ _ _|assumption|refine (aC ‹_›).trans ?_));done));(first|omega|assumption|(focus (simp;done))|(focus (simp;omega))|(focus (simp at*;omega)));exact λ_=>rfl;exact λ_=>rfl;exact tY;(first|omega|assumption|(focus (simp;done))|(focus (simp;omega))|(focus (simp at*;omega)));(first|omega|assumption|(focus (simp;done))|(focus (simp;omega))|(focus (simp at*;omega)));rfl;intro id' hid')|(apply ap0 pk (f:=Da.cells) [⟨gV i b[i].lines b[i].lines.length⟩] 24;(iterate 10 rfl);exact λ_=>rfl;exact λ_=>rfl;exact tY;(first|omega|assumption|(focus (simp;done))|(focus (simp;omega))|(focus (simp at*;omega)));(first|omega|assumption|(focus (simp;done))|(focus (simp;omega))|(focus (simp at*;omega)));rfl;intro id' hid')|omega|intros;omega|simp only [zql];omega|intros;simp only [zql];omega|intros;simp only;omega|intro h;omega|intro h;simp at h;done|intro h;simp at h;omega|(intro h;simp at h)|intro h)
 have hy1:y<b[i].lines.length:=by omega
 have e2:=aqZ (i:=i) hy1
 have e3:acW i b[i].lines (kG b i) (y+1)=cX ⟨(i:Int)+1,(y:Int)+1⟩ ((i:Int),b[i].lines[y].key) (acW i b[i].lines (kG b i) y):=by rw [<-getElem!_pos b[i].lines y hy1];rfl
 have e4:(gV i b[i].lines y)[y]! =b[i].lines[y]:=by rw [getElem!_pos _ y (by rw [nO];exact hy1)];exact awR hy1
 have e5:=nO i b[i].lines y
 generalize gV i b[i].lines y=L at*
 have hsm:∀o,upd (upd (upd st idm (some (.map (aY gU p2F (acW i b[i].lines (kG b i) y))))) id (some (.arr 52 (M.map Da.cells)))) id2 o idm=some (.map (aY gU p2F (acW i b[i].lines (kG b i) y))):=λo=>(aC (Ne.symm n3)).trans ((aC (Ne.symm hne)).trans (aA _ _ _))
 have hgj:(L.map Ln.cells)[y]?=some (Ln.cells b[i].lines[y]):=by rw [List.getElem?_map,zgg (by omega),<-e4,getElem!_pos L y (by omega)];rfl
 have hgr:∀r,((L.map Ln.cells).set y r)[y]?=some r:=λr=>by rw [List.getElem?_set_self (by rw [zql];omega)]
 (repeat' first|apply wD pk [9] [7];kernel_rfl;rfl;rfl|apply wDx pk;rfl;kernel_rfl;rfl;rfl|(show Cn (.e _ _ _ _);refine .any ?_;(first|(refine ⟨_,_,_,rfl,zwr _,zsr _, ?_,rfl⟩;(first|rfl))|(refine ⟨_,_,_,rfl,zwr _,aB ‹_›, ?_,rfl⟩;(first|rfl))|(refine ⟨_,_,_,rfl,zwf _,zsr _, ?_,rfl⟩;(first|rfl))|(refine ⟨_,_,_,rfl,zwf _,aB ‹_›, ?_,rfl⟩;(first|rfl))|(refine ⟨_,_,_,rfl,zwr _,zsr _, ?_,rfl⟩)|(refine ⟨_,_,_,rfl,zwf _,aB ‹_›, ?_,rfl⟩)))|(show Cn (.r _ _ _);refine .any ?_;(first|(refine ⟨_,_,_,rfl,zwr _,zsr _, ?_,rfl⟩;(first|rfl))|(refine ⟨_,_,_,rfl,zwr _,aB ‹_›, ?_,rfl⟩;(first|rfl))|(refine ⟨_,_,_,rfl,zwf _,zsr _, ?_,rfl⟩;(first|rfl))|(refine ⟨_,_,_,rfl,zwf _,aB ‹_›, ?_,rfl⟩;(first|rfl))|(refine ⟨_,_,_,rfl,zwr _,zsr _, ?_,rfl⟩)|(refine ⟨_,_,_,rfl,zwf _,aB ‹_›, ?_,rfl⟩)))|refine ⟨⟨y+1,by omega⟩, ?_, ?_⟩;((dsimp only))|show Cn (.t _ _);exact Cn.t0|show Cn (.t _ _);exact .any (aJ ‹_›)|(show Cn (.t _ _);exact .any (aI (by (first|rfl|exact aL ‹_›|((simp only [St.pv,St.put,St.sst,St.setv,St.nil,St.var,aH]);(first|done|rfl))))))|(show Cn (.t _ _);refine .any (aI ?_);(simp only [St.pv,St.put,St.sst,St.setv,St.nil,St.var,aH]);(rw [dA ‹_›]);(first|done|rfl))|apply wZ;rfl|show Cn _;constructor|exact rfl|apply KR.mk;kernel_rfl|apply ncA;rfl;rfl;rfl;rotate_left;rfl;rfl|apply ldR pk;rfl;rfl;rotate_left;rfl;(focus ((repeat (first|exact aA _ _ _|assumption|refine (aC ‹_›).trans ?_));done));rfl;rfl|apply stR pk;rfl;rfl;(focus ((repeat (first|exact aA _ _ _|assumption|refine (aC ‹_›).trans ?_));done));rfl;rfl|(apply ixA pk;(iterate 5 rfl);rotate_left;rfl;(intro hw;(first|exact (show _=((y:Nat):Int) from by omega)|(simp [gw] at hw;first|exact (show _=((y:Nat):Int) from by omega)|refine (show _=((0:Nat):Int) from ?_);omega)|exact rfl));(intro hw;(first|omega|(focus (simp [gw] at hw;done))|simp [gw] at hw;omega|simp only [zqs];omega));rfl;(first|exact Nat.zero_add _|exact rfl))|apply ldA pk Ln.elem;rfl;rfl;rotate_left;rfl;(focus ((repeat (first|exact aA _ _ _|assumption|refine (aC ‹_›).trans ?_));done));(intro hw;(first|omega|(focus (simp [gw] at hw;done))|simp [gw] at hw;omega|simp only [zqs];omega));rfl|apply stA pk Ln.elem;rfl;rfl;rfl;(focus ((repeat (first|exact aA _ _ _|assumption|refine (aC ‹_›).trans ?_));done));(first|omega|simp only [zqs];omega);rfl|apply stX pk;rfl;rfl;exact aA _ _ _;rfl;exact hgj;rfl;rfl|apply ldX pk;rfl;rfl;rotate_left;rfl;exact aA _ _ _;rfl;exact hgr _;rfl;rfl|apply muA pk acX (f:=p2F) (k:=(⟨(i:Int)+1,(y:Int)+1⟩:Dt)) (v:=((i:Int),b[i].lines[y].key));exact .inr rfl;(iterate 5 rfl);exact (aC (Ne.symm n3)).trans (hsm _);rfl|omega|intros;omega|simp only [zql];omega|intros;simp only [zql];omega|intros;simp only;omega|intro h;omega|intro h;simp at h;done|intro h;simp at h;omega|(intro h;simp at h)|intro h)
 rename_i h;revert h
 show StSub _ (upd (upd (upd (upd (upd st idm _) id _) id2 _) id2 _) idm _)
 rw [aH,aA5 n3 hne,e2,e3,List.map_set]
 exact zsr _
theorem aqF (b:Bs) (hb:b.length<100000000000) (hl:∀i (h:i<b.length),b[i].lines.length<1000000000000) (st:aD):PC Tryz.prog 30 [.agg (bsC b)] st λr S=>∃idm,r= .tup [.agg (bsC (dZ b)), .mref idm]/\st idm=none/\S=upd st idm (some (.map (aY gU p2F (kG b b.length)))):=
 eZ (sz:=1) (aiL b hb hl st) λp st' ⟨id,idm,h1,h2,h3,h4,h5⟩=>by
  subst h1 h5
  exact .inl ⟨id,52,(dZ b).map Da.cells, .tup [.agg (bsC (dZ b)), .mref idm],upd st idm (some (.map (aY gU p2F (kG b b.length)))),aA _ _ _,akL, .tup (.cons (.agg (.cons (eH (rL b)) .nil)) (.cons .refl .nil)),cY ((aC h4).trans h2),idm,rfl,h3,rfl⟩
theorem aoM (fid:FuncId) (caps:List PV) (f:It->Bool) (l:List It) (hl:l.length<4611686018427387904) (hf:∀p∈l,PF Tryz.prog fid ([.agg p.cells]++caps) (vb (f p))):PF Tryz.prog 59 [.seq (l.map It.cells), .fn fid caps] (vi (bT f l)):=by
 refine pF Tryz.func59 rfl (λst=> ?_)
 focus ((repeat' first|(show Cn (.r _ _ _);refine .any ⟨_,_,_,rfl,zwr _,zsr _, ?_,rfl⟩;try rfl)|apply wZ;rfl|show Cn _;constructor|exact rfl|apply KR.mk;kernel_rfl|omega|intros;omega|simp only [zql];omega|intros;simp only [zql];omega|intros;simp only;omega|intro h;omega|intro h;simp at h;done|intro h;simp at h;omega|(intro h;simp at h)|intro h))
 refine aG (X:={x:Nat//x<=l.length/\∀j (h:j<x) (h2:j<l.length),f l[j]=false}) (λi=>(((((St.nil 19 st).pv 0 (.seq (l.map It.cells))).pv 1 (.fn fid caps)).pv 7 ((vi ((((l.map It.cells)).length:Nat))))).pv 8 ((vi ((i.1:Nat)))))) (λi=>l.length-i.1) ⟨0,by omega,by omega⟩ ?_ (λi=> ?_)
 ·(repeat' first|show Cn _;constructor|exact rfl)
 obtain ⟨i,hi,hinv⟩:=i
 dsimp only
 by_cases hend:l.length<=i
 ·(repeat' first|(show Cn (.r _ _ _);refine .any ⟨_,_,_,rfl,zwr _,zsr _, ?_,rfl⟩;try first|rfl|(unfold bT;rw [eP hend hinv]);done)|apply wZ;rfl|show Cn _;constructor|exact rfl|apply KR.mk;kernel_rfl|show (_:PV)=_;(unfold bT;rw [eP hend hinv]);done|omega|intros;omega|simp only [zql];omega|intros;simp only [zql];omega|intros;simp only;omega|intro h;omega|intro h;simp at h;done|intro h;simp at h;omega|(intro h;simp at h)|intro h)
 have hil:i<l.length:=by omega
 have hf:=hf l[i] (zgm hil)
 cases hx:f l[i] with
 |true=>
  rw [hx] at hf
  have e:bT f l=((i:Nat):Int):=by unfold bT;rw [gQ hil hx hinv]
  (repeat' first|(apply Cn.cf;focus ((apply hf<;>(first|assumption|omega));done))|(apply cV;focus ((apply hf<;>(first|assumption|omega));done))|(show Cn (.r _ _ _);refine .any ⟨_,_,_,rfl,zwr _,zsr _, ?_,rfl⟩;try first|rfl|(rw [e]);done)|apply wZ;rfl|show Cn _;constructor|exact rfl|apply KR.mk;kernel_rfl|show (_:PV)=_;(rw [e]);done|apply wY;rfl|apply wI;rfl|apply gE;omega|apply gE;show 0<_;omega|apply gE;show 1<_;omega|omega|intros;omega|simp only [zql];omega|intros;simp only [zql];omega|intros;simp only;omega|intro h;omega|intro h;simp at h;done|intro h;simp at h;omega|(intro h;simp at h)|intro h)
 |false=>
  rw [hx] at hf
  (repeat' first|(apply Cn.cf;focus ((apply hf<;>(first|assumption|omega));done))|(apply cV;focus ((apply hf<;>(first|assumption|omega));done))|(show Cn (.r _ _ _);refine .any ⟨_,_,_,rfl,zwr _,zsr _, ?_,rfl⟩;try rfl)|(refine ⟨⟨i+1,hil,λj h1 h2=>(by rcases zls.1 h1 with q|q;exact hinv j q h2;subst q;exact hx)⟩, ?_, ?_⟩)|apply wZ;rfl|show Cn _;constructor|exact rfl|apply KR.mk;kernel_rfl|apply wY;rfl|apply wI;rfl|apply gE;omega|apply gE;show 0<_;omega|apply gE;show 1<_;omega|omega|intros;omega|simp only [zql];omega|intros;simp only [zql];omega|intros;simp only;omega|intro h;omega|intro h;simp at h;done|intro h;simp at h;omega|(intro h;simp at h)|intro h)
theorem akB (x:It) (r:List Vl) (hx:x.row.length<4611686018427387904) (hr:r.length<4611686018427387904):PF Tryz.prog 60 ([.agg x.cells]++[.rp [.seq (r.map Vl.cells)]]) (vb (decide (x.row=r))):=by
 have hs:=lV x.row r hx hr
 refine pF Tryz.func60 rfl (λst=> ?_)
 (repeat' first|(show Cn (.r _ _ _);refine .any ⟨_,_,_,rfl,zwr _,zsr _, ?_,rfl⟩;try rfl)|apply wZ;rfl|show Cn _;constructor|exact rfl|apply KR.mk;kernel_rfl|(apply hs<;>(first|assumption|omega))|apply wY;rfl|omega|intros;omega|simp only [zql];omega|intros;simp only [zql];omega|intros;simp only;omega|intro h;omega|intro h;simp at h;done|intro h;simp at h;omega|(intro h;simp at h)|intro h)
def It.zero :It:=⟨[],0,[]⟩
def iJ (K:List It×Int) (r:List Vl):It×Int:=if K.2≠0 then (It.zero,K.2) else match K.1.findIdx? (λx=>decide (x.row=r)) with|some k=>(K.1[k]!,0)|none=>(It.zero,4)
theorem aAu (e:Int):Wk (.tup [.agg [.val (.slice none 0 0),(vi (0)), .val (.slice none 0 0)],(vi (e))]) (.tup [.agg It.zero.cells,(vi (e))]):=Wk.tup (.cons (.agg (.cons Wk.nil (.cons (zwr _) (.cons Wk.nil .nil)))) (WkL.refl _))
theorem rW {s:Sc} {b:Bs} {q:Qu} (hA:AnsH s b q.all) (r:List Vl) (hr:r.length<4611686018427387904):PF Tryz.prog 29 [.agg (scC s), .agg (bsC b), .agg q.cells, .seq (r.map Vl.cells)] (.tup [.agg (iJ (bR s b q.all) r).1.cells,(vi ((iJ (bR s b q.all) r).2))]):=by
 have ha:=sY hA
 obtain ⟨hl,hx⟩:=vS hA
 unfold iJ
 generalize bR s b q.all=K at*
 have eq:q.all.cells=[(vi (q.table)), .seq (q.joins.map Jn.cells), .seq (q.where_.map X.Ex.cells), .seq (q.group.map X.Ex.cells), .seq (q.outs.map Ou.cells), .seq (q.order.map I1),(vi (-1))]:=rfl
 rw [eq] at ha
 by_cases h0:K.2≠0
 ·rw [zp h0]
  refine pF Tryz.func29 rfl (λst=> ?_)
  (repeat' first|exact Cn.any ⟨_,_,_,rfl,aAu _,zsr _,rfl,rfl⟩|(show Cn (.r _ _ _);refine .any ⟨_,_,_,rfl,zwr _,zsr _, ?_,rfl⟩;try rfl)|apply wZ;rfl|show Cn _;constructor|exact rfl|apply KR.mk;kernel_rfl|(apply ha<;>(first|assumption|omega))|apply wY;rfl|omega|intros;omega|simp only [zql];omega|intros;simp only [zql];omega|intros;simp only;omega|intro h;omega|intro h;simp at h;done|intro h;simp at h;omega|(intro h;simp at h)|intro h)
 rw [zn h0]
 have h0:=zdn h0
 have hi:=aoM 60 [.rp [.seq (r.map Vl.cells)]] (λx=>decide (x.row=r)) K.1 (by omega) (λp hp=>akB p r (by have:=(hx p hp).1;omega) hr)
 unfold bT at hi
 cases hf:K.1.findIdx? (λx=>decide (x.row=r)) with
 |none=>
  rw [hf] at hi
  dsimp only at hi⊢
  refine pF Tryz.func29 rfl (λst=> ?_)
  (repeat' first|exact Cn.any ⟨_,_,_,rfl,aAu _,zsr _,rfl,rfl⟩|(show Cn (.r _ _ _);refine .any ⟨_,_,_,rfl,zwr _,zsr _, ?_,rfl⟩;try rfl)|apply wZ;rfl|show Cn _;constructor|exact rfl|apply KR.mk;kernel_rfl|((first|apply ha|apply hi)<;>(first|assumption|omega))|apply aQ 7;rfl;rfl|apply wY;rfl|omega|intros;omega|simp only [zql];omega|intros;simp only [zql];omega|intros;simp only;omega|intro h;omega|intro h;simp at h;done|intro h;simp at h;omega|(intro h;simp at h)|intro h)
 |some k=>
  rw [hf] at hi
  dsimp only at hi⊢
  obtain ⟨hk,_,_⟩:=List.findIdx?_eq_some_iff_getElem.1 hf
  rw [getElem!_pos K.1 k hk]
  refine pF Tryz.func29 rfl (λst=> ?_)
  (repeat' first|(show Cn (.r _ _ _);refine .any ⟨_,_,_,rfl,zwr _,zsr _, ?_,rfl⟩;try rfl)|apply wZ;rfl|show Cn _;constructor|exact rfl|apply KR.mk;kernel_rfl|((first|apply ha|apply hi)<;>(first|assumption|omega))|apply aQ 7;rfl;rfl|apply wY;rfl|apply wI;rfl|apply gE;omega|apply gE;show 0<_;omega|apply gE;show 1<_;omega|omega|intros;omega|simp only [zql];omega|intros;simp only [zql];omega|intros;simp only;omega|intro h;omega|intro h;simp at h;done|intro h;simp at h;omega|(intro h;simp at h)|intro h)
theorem tZ :Tryz.prog.bytesOf 66=16:=by kernel_rfl
theorem ayB :Tryz.prog.cellsOf 66=2:=by kernel_rfl
def uX (b:Bs) (d:Dt):Int×Int:=(dK d (kG b b.length)).getD (0,0)
theorem axK {b:Bs} {d:Dt} (h:dK d (kG b b.length)=none):uX b d=(0,0):=by unfold uX;rw [h];rfl
theorem anL {b:Bs} {d:Dt} {v:Int×Int} (h:dK d (kG b b.length)=some v):uX b d=v:=by unfold uX;rw [h];rfl
def iG (s:Sc) (b:Bs) (q:Qu) (r:List Vl):List (Int×Int)×Int:=if (iJ (bR s b q.all) r).2≠0 then ([],(iJ (bR s b q.all) r).2) else ((iJ (bR s (dZ b) q.all) r).1.by_.map (uX b),(iJ (bR s (dZ b) q.all) r).2)
theorem adC {st:aD} {i j:Nat} {a m:Option AObj} (h1:st i=none) (h2:st j=none):StSub st (upd (upd (upd st j m) i a) i none):=λz=>by
 by_cases h:st z=none
 ·exact .inl h
 ·right
  rw [aC (λe=>h (by rw [e];exact h1)),aC (λe=>h (by rw [e];exact h1)),aC (λe=>h (by rw [e];exact h2))]
theorem anJ {s:Sc} {b:Bs} {q:Qu} (hA:AnsH s b q.all) (hB:AnsH s (dZ b) q.all) (r:List Vl) (hr:r.length<4611686018427387904) (hb:b.length<100000000000) (hl:∀i (h:i<b.length),b[i].lines.length<1000000000000) (hby:(iJ (bR s (dZ b) q.all) r).1.by_.length<1000000000) (he:(iJ (bR s b q.all) r).2=0) (st:aD):PC Tryz.prog 12 [.agg (scC s), .agg (bsC b), .agg q.cells, .seq (r.map Vl.cells)] st λR S=>∃id,R= .tup [.vec id 2 0 (iG s b q r).1.length,(vi ((iG s b q r).2))]/\st id=none/\S id=some (.arr 66 ((iG s b q r).1.map P2))/\StSub st (upd S id none):=by
 have h1:=rW hA r hr
 have h2:=rW hB r hr
 have hm:=aqF b hb hl
 unfold iG
 rw [zn (by rw [he];simp)]
 rw [he] at h1
 generalize iJ (bR s b q.all) r=K1 at*
 generalize iJ (bR s (dZ b) q.all) r=K2 at*
 refine pC Tryz.func12 rfl ?_
 focus ((repeat' first|(show Cn (.e _ _ _ _);refine .any ?_;(first|(refine ⟨_,_,_,rfl,zwr _,zsr _, ?_,rfl⟩;(first|rfl))|(refine ⟨_,_,_,rfl,zwr _,aB ‹_›, ?_,rfl⟩;(first|rfl))|(refine ⟨_,_,_,rfl,zwf _,zsr _, ?_,rfl⟩;(first|rfl))|(refine ⟨_,_,_,rfl,zwf _,aB ‹_›, ?_,rfl⟩;(first|rfl))|(refine ⟨_,_,_,rfl,zwr _,zsr _, ?_,rfl⟩)|(refine ⟨_,_,_,rfl,zwf _,aB ‹_›, ?_,rfl⟩)))|(show Cn (.r _ _ _);refine .any ?_;(first|(refine ⟨_,_,_,rfl,zwr _,zsr _, ?_,rfl⟩;(first|rfl))|(refine ⟨_,_,_,rfl,zwr _,aB ‹_›, ?_,rfl⟩;(first|rfl))|(refine ⟨_,_,_,rfl,zwf _,zsr _, ?_,rfl⟩;(first|rfl))|(refine ⟨_,_,_,rfl,zwf _,aB ‹_›, ?_,rfl⟩;(first|rfl))|(refine ⟨_,_,_,rfl,zwr _,zsr _, ?_,rfl⟩)|(refine ⟨_,_,_,rfl,zwf _,aB ‹_›, ?_,rfl⟩)))|apply wZ;rfl|show Cn _;constructor|exact rfl|apply KR.mk;kernel_rfl|((first|apply h1|apply h2)<;>(first|assumption|omega))|((apply eE;rfl;rfl;exact hm _;rfl;rfl;rfl;intro _ st' hR;obtain ⟨idm,rfl,hidm,rfl⟩:=hR))|apply wY;rfl|omega|intros;omega|simp only [zql];omega|intros;simp only [zql];omega|intros;simp only;omega|exfalso;omega|intro h;omega|intro h;simp at h;done|intro h;simp at h;omega|(intro h;simp at h)|intro h))
 refine dU 16 66 2 rfl rfl rfl (λid hid=> ?_)
 have hne:=aaT hid
 have hid:=bA hid
 refine aG (X:={x:Nat×Nat//x.1<=K2.1.by_.length/\st x.2=none/\x.2≠idm}) (λi=>(((((((St.nil 59 (upd (upd st idm (some (.map (aY gU p2F (kG b b.length))))) i.1.2 (some (.arr 66 (((K2.1.by_.map (uX b)).take i.1.1).map P2))))).pv 13 (.mref idm)).pv 15 ((vi (K2.2)))).pv 16 (.vec i.1.2 2 0 i.1.1)).pv 44 (.seq (K2.1.by_.map Dt.cells))).pv 45 ((vi ((K2.1.by_.length:Nat))))).pv 46 ((vi ((i.1.1:Nat)))))) (λi=>K2.1.by_.length-i.1.1) ⟨(0,id),by simp,hid,hne⟩ ?_ (λi=> ?_)
 ·dsimp only
  (repeat' first|show Cn (.t _ _);exact Cn.t0|show Cn (.t _ _);exact .any (aJ ‹_›)|(show Cn (.t _ _);exact .any (aI (by (first|rfl|exact aL ‹_›|((simp only [St.pv,St.put,St.sst,St.setv,St.nil,St.var,aH]);(first|done|rfl))))))|(show Cn (.t _ _);refine .any (aI ?_);(simp only [St.pv,St.put,St.sst,St.setv,St.nil,St.var,aH]);(rw [dA ‹_›]);(first|done|rfl))|show Cn _;constructor|exact rfl|rw [zql])
 obtain ⟨⟨i,id⟩,hi,hid,hne⟩:=i
 simp only at hi hid hne
 dsimp only
 by_cases hend:K2.1.by_.length<=i
 ·obtain rfl:i=K2.1.by_.length:=by omega
  rw [ztl (by rw [zql];exact Nat.le_refl _)]
  (repeat' first|apply wDx pk;rfl;kernel_rfl;rfl;rfl|(show Cn (.e _ _ _ _);refine .any ?_;(first|(refine ⟨_,_,_,rfl,zwr _,zsr _, ?_,rfl⟩;(first|rfl))|(refine ⟨_,_,_,rfl,zwr _,aB ‹_›, ?_,rfl⟩;(first|rfl))|(refine ⟨_,_,_,rfl,zwf _,zsr _, ?_,rfl⟩;(first|rfl))|(refine ⟨_,_,_,rfl,zwf _,aB ‹_›, ?_,rfl⟩;(first|rfl))|(refine ⟨_,_,_,rfl,zwr _,zsr _, ?_,rfl⟩)|(refine ⟨_,_,_,rfl,zwf _,aB ‹_›, ?_,rfl⟩)))|show Cn (.r _ _ _);refine .rr ?_;(exact ⟨id,by rw [zql],hid,aA _ _ _,adC hid hidm⟩);done|show Cn (.r _ _ _);refine .any ⟨_,_, ?zs,rfl,zwr _, ?zh, ?zr⟩;(case zh=>(refine aF ?_ ‹_›;(repeat refine aF ?_ ‹_›);exact zsr _));(case zr=>(exact ⟨id,by rw [zql],hid,aA _ _ _,adC hid hidm⟩))|apply wZ;rfl|show Cn _;constructor|exact rfl|apply KR.mk;kernel_rfl|apply ncA;rfl;rfl;rfl;rotate_left;rfl;rfl|apply ldR pk;rfl;rfl;rotate_left;rfl;(focus ((repeat (first|exact aA _ _ _|assumption|refine (aC ‹_›).trans ?_));done));rfl;rfl|apply stR pk;rfl;rfl;(focus ((repeat (first|exact aA _ _ _|assumption|refine (aC ‹_›).trans ?_));done));rfl;rfl|omega|intros;omega|simp only [zql];omega|intros;simp only [zql];omega|intros;simp only;omega|intro h;omega|intro h;simp at h;done|intro h;simp at h;omega|(intro h;simp at h)|intro h)
 have hil:i<K2.1.by_.length:=by omega
 have e:(K2.1.by_.map (uX b)).take (i+1)=(K2.1.by_.map (uX b)).take i++[uX b K2.1.by_[i]]:=by rw [List.take_succ_eq_append_getElem (by rw [zql];exact hil)];simp
 have hln:((K2.1.by_.map (uX b)).take i).length=i:=by rw [zlt,zql];omega
 generalize (K2.1.by_.map (uX b)).take i=G at*
 have hidS:upd st idm (some (.map (aY gU p2F (kG b b.length)))) id=none:=(aC hne).trans hid
 cases hg:dK K2.1.by_[i] (kG b b.length) with
 |none=>
  rw [axK hg] at e
  (repeat' first|apply aCz pk acX (f:=p2F);(iterate 5 rfl);rotate_left;rfl;exact (aC (Ne.symm hne)).trans (aA _ _ _);rfl;exact hg|(show Cn (.e _ _ _ _);refine .any ?_;(first|(refine ⟨_,_,_,rfl,zwr _,zsr _, ?_,rfl⟩;(first|rfl))|(refine ⟨_,_,_,rfl,zwr _,aB ‹_›, ?_,rfl⟩;(first|rfl))|(refine ⟨_,_,_,rfl,zwf _,zsr _, ?_,rfl⟩;(first|rfl))|(refine ⟨_,_,_,rfl,zwf _,aB ‹_›, ?_,rfl⟩;(first|rfl))|(refine ⟨_,_,_,rfl,zwr _,zsr _, ?_,rfl⟩)|(refine ⟨_,_,_,rfl,zwf _,aB ‹_›, ?_,rfl⟩)))|(show Cn (.r _ _ _);refine .any ?_;(first|(refine ⟨_,_,_,rfl,zwr _,zsr _, ?_,rfl⟩;(first|rfl))|(refine ⟨_,_,_,rfl,zwr _,aB ‹_›, ?_,rfl⟩;(first|rfl))|(refine ⟨_,_,_,rfl,zwf _,zsr _, ?_,rfl⟩;(first|rfl))|(refine ⟨_,_,_,rfl,zwf _,aB ‹_›, ?_,rfl⟩;(first|rfl))|(refine ⟨_,_,_,rfl,zwr _,zsr _, ?_,rfl⟩)|(refine ⟨_,_,_,rfl,zwf _,aB ‹_›, ?_,rfl⟩)))|refine ⟨⟨(i+1,id'),by simp only;omega,bA (bA hid'),aaT (bA hid')⟩, ?_, ?_⟩;((dsimp only;rw [e]))|show Cn (.t _ _);exact Cn.t0|show Cn (.t _ _);exact .any (aJ ‹_›)|(show Cn (.t _ _);exact .any (aI (by (first|rfl|exact aL ‹_›|((simp only [St.pv,St.put,St.sst,St.setv,St.nil,St.var,aH]);(first|done|rfl))))))|(show Cn (.t _ _);refine .any (aI ?_);(simp only [St.pv,St.put,St.sst,St.setv,St.nil,St.var,aH]);(rw [dA ‹_›]);(first|done|rfl))|apply wZ;rfl|show Cn _;constructor|exact rfl|apply KR.mk;kernel_rfl|(show _=_;(first|rfl|simp))|(apply apV pk (f:=P2) [(0,0)] 16;(iterate 9 rfl);(focus ((repeat (first|exact aA _ _ _|assumption|refine (aC ‹_›).trans ?_));done));(first|omega|assumption|(focus (simp;done))|(focus (simp;omega))|(focus (simp at*;omega)));exact λ_=>rfl;exact λ_=>rfl;exact tZ;(first|omega|assumption|(focus (simp;done))|(focus (simp;omega))|(focus (simp at*;omega)));(first|omega|assumption|(focus (simp;done))|(focus (simp;omega))|(focus (simp at*;omega)));rfl;intro id' hid')|(apply ap0 pk (f:=P2) [(0,0)] 16;(iterate 10 rfl);exact λ_=>rfl;exact λ_=>rfl;exact tZ;(first|omega|assumption|(focus (simp;done))|(focus (simp;omega))|(focus (simp at*;omega)));(first|omega|assumption|(focus (simp;done))|(focus (simp;omega))|(focus (simp at*;omega)));rfl;intro id' hid')|apply wI;rfl|apply gE;omega|apply gE;show 0<_;omega|apply gE;show 1<_;omega|omega|intros;omega|simp only [zql];omega|intros;simp only [zql];omega|intros;simp only;omega|intro h;omega|intro h;simp at h;done|intro h;simp at h;omega|(intro h;simp at h)|intro h)
 |some v=>
  rw [anL hg] at e
  (repeat' first|apply aCz pk acX (f:=p2F);(iterate 5 rfl);rotate_left;rfl;exact (aC (Ne.symm hne)).trans (aA _ _ _);rfl;exact hg|(show Cn (.e _ _ _ _);refine .any ?_;(first|(refine ⟨_,_,_,rfl,zwr _,zsr _, ?_,rfl⟩;(first|rfl))|(refine ⟨_,_,_,rfl,zwr _,aB ‹_›, ?_,rfl⟩;(first|rfl))|(refine ⟨_,_,_,rfl,zwf _,zsr _, ?_,rfl⟩;(first|rfl))|(refine ⟨_,_,_,rfl,zwf _,aB ‹_›, ?_,rfl⟩;(first|rfl))|(refine ⟨_,_,_,rfl,zwr _,zsr _, ?_,rfl⟩)|(refine ⟨_,_,_,rfl,zwf _,aB ‹_›, ?_,rfl⟩)))|(show Cn (.r _ _ _);refine .any ?_;(first|(refine ⟨_,_,_,rfl,zwr _,zsr _, ?_,rfl⟩;(first|rfl))|(refine ⟨_,_,_,rfl,zwr _,aB ‹_›, ?_,rfl⟩;(first|rfl))|(refine ⟨_,_,_,rfl,zwf _,zsr _, ?_,rfl⟩;(first|rfl))|(refine ⟨_,_,_,rfl,zwf _,aB ‹_›, ?_,rfl⟩;(first|rfl))|(refine ⟨_,_,_,rfl,zwr _,zsr _, ?_,rfl⟩)|(refine ⟨_,_,_,rfl,zwf _,aB ‹_›, ?_,rfl⟩)))|refine ⟨⟨(i+1,id'),by simp only;omega,bA (bA hid'),aaT (bA hid')⟩, ?_, ?_⟩;((dsimp only;rw [e]))|show Cn (.t _ _);exact Cn.t0|show Cn (.t _ _);exact .any (aJ ‹_›)|(show Cn (.t _ _);exact .any (aI (by (first|rfl|exact aL ‹_›|((simp only [St.pv,St.put,St.sst,St.setv,St.nil,St.var,aH]);(first|done|rfl))))))|(show Cn (.t _ _);refine .any (aI ?_);(simp only [St.pv,St.put,St.sst,St.setv,St.nil,St.var,aH]);(rw [dA ‹_›]);(first|done|rfl))|apply wZ;rfl|show Cn _;constructor|exact rfl|apply KR.mk;kernel_rfl|(show _=_;(first|rfl|simp))|(apply apV pk (f:=P2) [v] 16;(iterate 9 rfl);(focus ((repeat (first|exact aA _ _ _|assumption|refine (aC ‹_›).trans ?_));done));(first|omega|assumption|(focus (simp;done))|(focus (simp;omega))|(focus (simp at*;omega)));exact λ_=>rfl;exact λ_=>rfl;exact tZ;(first|omega|assumption|(focus (simp;done))|(focus (simp;omega))|(focus (simp at*;omega)));(first|omega|assumption|(focus (simp;done))|(focus (simp;omega))|(focus (simp at*;omega)));rfl;intro id' hid')|(apply ap0 pk (f:=P2) [v] 16;(iterate 10 rfl);exact λ_=>rfl;exact λ_=>rfl;exact tZ;(first|omega|assumption|(focus (simp;done))|(focus (simp;omega))|(focus (simp at*;omega)));(first|omega|assumption|(focus (simp;done))|(focus (simp;omega))|(focus (simp at*;omega)));rfl;intro id' hid')|apply wI;rfl|apply gE;omega|apply gE;show 0<_;omega|apply gE;show 1<_;omega|omega|intros;omega|simp only [zql];omega|intros;simp only [zql];omega|intros;simp only;omega|intro h;omega|intro h;simp at h;done|intro h;simp at h;omega|(intro h;simp at h)|intro h)
def acH (K:List (Int×Int)×Int):PV:= .tup [.seq (K.1.map P2),(vi (K.2))]
structure WhyH (s:Sc) (b:Bs) (q:Qu) (r:List Vl):Prop where
 hA:AnsH s b q.all
 hB:AnsH s (dZ b) q.all
 hr:r.length<4611686018427387904
 b11:b.length<100000000000
 l:∀i (h:i<b.length),b[i].lines.length<100000000000
 by_:(iJ (bR s (dZ b) q.all) r).1.by_.length<1000000
theorem nH {s:Sc} {b:Bs} {q:Qu} {r:List Vl} (h:WhyH s b q r):PF Tryz.prog 12 [.agg (scC s), .agg (bsC b), .agg q.cells, .seq (r.map Vl.cells)] (acH (iG s b q r)):=by
 by_cases he:(iJ (bR s b q.all) r).2=0
 ·exact λst=>eZ (sz:=2) (anJ h.hA h.hB r h.hr h.b11 (λi q=>Nat.lt_trans (h.l i q) (by decide)) (Nat.lt_trans h.by_ (by decide)) he st) λp st' ⟨id,h1,h2,h3,h4⟩=>by
   subst h1
   exact .inl ⟨id,66,(iG s b q r).1.map P2,_,st,h3,ayB, .tup (.cons (eH rfl) (.cons .refl .nil)),h4,rfl,rfl⟩
 ·have h1:=rW h.hA r h.hr
  unfold iG acH
  rw [zp he]
  generalize iJ (bR s b q.all) r=K1 at*
  refine pF Tryz.func12 rfl (λst=> ?_)
  (repeat' first|exact Cn.any ⟨_,_,_,rfl,Wk.tup (.cons Wk.nil (WkL.refl _)),zsr _,rfl,rfl⟩|(show Cn (.r _ _ _);refine .any ⟨_,_,_,rfl,zwr _,zsr _, ?_,rfl⟩;try rfl)|apply wZ;rfl|show Cn _;constructor|exact rfl|apply KR.mk;kernel_rfl|(apply h1<;>(first|assumption|omega))|apply wY;rfl|omega|intros;omega|simp only [zql];omega|intros;simp only [zql];omega|intros;simp only;omega|exfalso;omega|intro h;omega|intro h;simp at h;done|intro h;simp at h;omega|(intro h;simp at h)|intro h)
def ofL (b:Bs) (l:List (Int×Int)):List Dt:=(l.map λp=>((jD (aU b p.1) p.2).getD Ln.zero).by_).flatten
def anV (s:Sc) (b:Bs) (q:Qu) (r:List Vl):List Dt×Int:=if (iG s b q r).2≠0 then ([],(iG s b q r).2) else (oL (ofL b (iG s b q r).1),0)
theorem aBc {b:Bs} {l:List (Int×Int)} {i:Nat} (h:i<l.length):ofL b (l.take (i+1))=ofL b (l.take i)++((jD (aU b l[i].1) l[i].2).getD Ln.zero).by_:=by
 unfold ofL
 rw [List.take_succ_eq_append_getElem h,List.map_append,List.flatten_append];simp
theorem aBa (b:Bs) (l:List (Int×Int)) (i:Nat):(ofL b (l.take i)).length<=(ofL b l).length:=by
 have:=List.take_append_drop i l
 conv=>rhs;rw [<-this]
 unfold ofL
 rw [List.map_append,List.flatten_append,zla];omega
theorem aCV {s:Sc} {b:Bs} {q:Qu} {r:List Vl} (h:WhyH s b q r) (he:(iG s b q r).2=0) (ho:(ofL b (iG s b q r).1).length<1000000000) (hll:(iG s b q r).1.length<1000000000) (st:aD):PC Tryz.prog 14 [.agg (scC s), .agg (bsC b), .agg q.cells, .seq (r.map Vl.cells)] st λR S=>∃id rows,R= .tup [.vec id 2 0 (oL (ofL b (iG s b q r).1)).length,(vi (0))]/\st id=none/\S=upd st id (some (.arr 69 rows))/\rows.take (oL (ofL b (iG s b q r).1)).length=(oL (ofL b (iG s b q r).1)).map Dt.cells:=by
 have hl:=nH h
 have hget:=λ(p:Int×Int)=>ayJ (jD (aU b p.1) p.2)▸avC b p.1 p.2 (λd hd=>by obtain ⟨j,hj,rfl⟩:=zgo hd;exact h.l j hj)
 unfold acH at hl
 rw [he] at hl
 generalize (iG s b q r).1=L at*
 refine pC Tryz.func14 rfl ?_
 focus ((repeat' first|apply wDx pk;rfl;kernel_rfl;rfl;rfl|(apply Cn.cf;focus ((apply hl<;>(first|assumption|omega));done))|(apply cV;focus ((apply hl<;>(first|assumption|omega));done))|(show Cn (.e _ _ _ _);refine .any ?_;(first|(refine ⟨_,_,_,rfl,zwr _,zsr _, ?_,rfl⟩;(first|rfl))|(refine ⟨_,_,_,rfl,zwr _,aB ‹_›, ?_,rfl⟩;(first|rfl))|(refine ⟨_,_,_,rfl,zwf _,zsr _, ?_,rfl⟩;(first|rfl))|(refine ⟨_,_,_,rfl,zwf _,aB ‹_›, ?_,rfl⟩;(first|rfl))|(refine ⟨_,_,_,rfl,zwr _,zsr _, ?_,rfl⟩)|(refine ⟨_,_,_,rfl,zwf _,aB ‹_›, ?_,rfl⟩)))|apply wZ;rfl|show Cn _;constructor|exact rfl|apply KR.mk;kernel_rfl|apply ncA;rfl;rfl;rfl;rotate_left;rfl;rfl|apply ldR pk;rfl;rfl;rotate_left;rfl;(focus ((repeat (first|exact aA _ _ _|assumption|refine (aC ‹_›).trans ?_));done));rfl;rfl|apply stR pk;rfl;rfl;(focus ((repeat (first|exact aA _ _ _|assumption|refine (aC ‹_›).trans ?_));done));rfl;rfl|apply wY;rfl|omega|intros;omega|simp only [zql];omega|intros;simp only [zql];omega|intros;simp only;omega|exfalso;omega|intro h;omega|intro h;simp at h;done|intro h;simp at h;omega|(intro h;simp at h)|intro h))
 refine dU 12 69 2 rfl rfl rfl (λid hid=> ?_)
 have hid:st id=none:=hid
 refine aG (X:={x:Nat×Nat//x.1<=L.length/\st x.2=none}) (λi=>((((((St.nil 52 (upd st i.1.2 (some (.arr 69 ((ofL b (L.take i.1.1)).map Dt.cells))))).var 5 27 ((bsC b))).pv 12 (.vec i.1.2 2 0 (ofL b (L.take i.1.1)).length)).pv 28 (.seq (L.map P2))).pv 29 ((vi ((L.length:Nat))))).pv 30 ((vi ((i.1.1:Nat)))))) (λi=>L.length-i.1.1) ⟨(0,id),by simp,hid⟩ ?_ (λi=> ?_)
 ·dsimp only
  (repeat' first|show Cn (.t _ _);exact Cn.t0|show Cn (.t _ _);exact .any (aJ ‹_›)|(show Cn (.t _ _);exact .any (aI (by (first|rfl|exact aL ‹_›|((simp only [St.pv,St.put,St.sst,St.setv,St.nil,St.var,aH]);(first|done|rfl))))))|(show Cn (.t _ _);refine .any (aI ?_);(simp only [St.pv,St.put,St.sst,St.setv,St.nil,St.var,aH]);(rw [dA ‹_›]);(first|done|rfl))|show Cn _;constructor|exact rfl|rw [zql])
 obtain ⟨⟨i,id⟩,hi,hid⟩:=i
 simp only at hi hid
 dsimp only
 by_cases hend:L.length<=i
 ·rw [ztl hend]
  generalize ofL b L=D at*
  have hs:=λid=>afE (gf:=33) (by kernel_rfl) amK D (st:=upd st id (some (.arr 69 (D.map Dt.cells)))) (id:=id) (n:=D.length) (aA _ _ _) rfl (by omega)
  have hcm:=λid (r:List Dt) (hr:r.length=D.length)=>tM r.toArray (st:=upd st id (some (.arr 69 (r.map Dt.cells)))) (id:=id) (n:=D.length) (by simpa using aA _ _ _) (by simpa using hr) (by omega)
  (repeat' first|apply wDx pk;rfl;kernel_rfl;rfl;rfl|(show Cn (.e _ _ _ _);refine .any ?_;(first|(refine ⟨_,_,_,rfl,zwr _,zsr _, ?_,rfl⟩;(first|rfl))|(refine ⟨_,_,_,rfl,zwr _,aB ‹_›, ?_,rfl⟩;(first|rfl))|(refine ⟨_,_,_,rfl,zwf _,zsr _, ?_,rfl⟩;(first|rfl))|(refine ⟨_,_,_,rfl,zwf _,aB ‹_›, ?_,rfl⟩;(first|rfl))|(refine ⟨_,_,_,rfl,zwr _,zsr _, ?_,rfl⟩)|(refine ⟨_,_,_,rfl,zwf _,aB ‹_›, ?_,rfl⟩)))|show Cn (.r _ _ _);refine .rr ?_;(exact ⟨id,rows,rfl,hid,rfl,h2⟩);done|show Cn (.r _ _ _);refine .any ⟨_,_, ?zs,rfl,zwr _, ?zh, ?zr⟩;(case zh=>(refine aF ?_ ‹_›;(repeat refine aF ?_ ‹_›);exact zsr _));(case zr=>(exact ⟨id,rows,rfl,hid,rfl,h2⟩))|apply wZ;rfl|show Cn _;constructor|exact rfl|apply KR.mk;kernel_rfl|apply ncA;rfl;rfl;rfl;rotate_left;rfl;rfl|apply ldR pk;rfl;rfl;rotate_left;rfl;(focus ((repeat (first|exact aA _ _ _|assumption|refine (aC ‹_›).trans ?_));done));rfl;rfl|apply stR pk;rfl;rfl;(focus ((repeat (first|exact aA _ _ _|assumption|refine (aC ‹_›).trans ?_));done));rfl;rfl|((apply eE;rfl;rfl;exact hs id;rfl;rfl;rfl;intro _ st' hR;obtain ⟨r,hR,hp,hw⟩:=hR;rw [aH] at hR;subst hR;have hrl:=hp.length_eq;have hE:=akN hp hw))|((apply eE;rfl;rfl;exact hcm id r hrl;rfl;rfl;rfl;intro _ st' hR;rw [hE] at hR;obtain ⟨rfl,rows,rfl,h1,h2⟩:=hR;rw [aH]))|omega|intros;omega|simp only [zql];omega|intros;simp only [zql];omega|intros;simp only;omega|intro h;omega|intro h;simp at h;done|intro h;simp at h;omega|(intro h;simp at h)|intro h)
 have hil:i<L.length:=by omega
 have e:=aBc (b:=b) hil
 have hg:=hget L[i]
 have hle:=aBa b L (i+1)
 rw [e,zla] at hle
 generalize ofL b (L.take i)=G at*
 generalize (jD (aU b L[i].1) L[i].2).isSome=is at*
 generalize (jD (aU b L[i].1) L[i].2).getD Ln.zero=X at*
 (repeat' first|(show Cn (.e _ _ _ _);refine .any ?_;(first|(refine ⟨_,_,_,rfl,zwr _,zsr _, ?_,rfl⟩;(first|rfl))|(refine ⟨_,_,_,rfl,zwr _,aB ‹_›, ?_,rfl⟩;(first|rfl))|(refine ⟨_,_,_,rfl,zwf _,zsr _, ?_,rfl⟩;(first|rfl))|(refine ⟨_,_,_,rfl,zwf _,aB ‹_›, ?_,rfl⟩;(first|rfl))|(refine ⟨_,_,_,rfl,zwr _,zsr _, ?_,rfl⟩)|(refine ⟨_,_,_,rfl,zwf _,aB ‹_›, ?_,rfl⟩)))|(show Cn (.r _ _ _);refine .any ?_;(first|(refine ⟨_,_,_,rfl,zwr _,zsr _, ?_,rfl⟩;(first|rfl))|(refine ⟨_,_,_,rfl,zwr _,aB ‹_›, ?_,rfl⟩;(first|rfl))|(refine ⟨_,_,_,rfl,zwf _,zsr _, ?_,rfl⟩;(first|rfl))|(refine ⟨_,_,_,rfl,zwf _,aB ‹_›, ?_,rfl⟩;(first|rfl))|(refine ⟨_,_,_,rfl,zwr _,zsr _, ?_,rfl⟩)|(refine ⟨_,_,_,rfl,zwf _,aB ‹_›, ?_,rfl⟩)))|refine ⟨⟨(i+1,id'),by simp only;omega,bA hid'⟩, ?_, ?_⟩;((dsimp only;rw [e]))|show Cn (.t _ _);exact Cn.t0|show Cn (.t _ _);exact .any (aJ ‹_›)|(show Cn (.t _ _);exact .any (aI (by (first|rfl|exact aL ‹_›|((simp only [St.pv,St.put,St.sst,St.setv,St.nil,St.var,aH]);(first|done|rfl))))))|(show Cn (.t _ _);refine .any (aI ?_);(simp only [St.pv,St.put,St.sst,St.setv,St.nil,St.var,aH]);(rw [dA ‹_›]);(first|done|rfl))|apply wZ;rfl|show Cn _;constructor|exact rfl|apply KR.mk;kernel_rfl|(apply hg<;>(first|assumption|omega))|(show _=_;(first|rfl|simp))|(apply apV pk (f:=Dt.cells) X.by_ 16;(iterate 9 rfl);(focus ((repeat (first|exact aA _ _ _|assumption|refine (aC ‹_›).trans ?_));done));(first|omega|assumption|(focus (simp;done))|(focus (simp;omega))|(focus (simp at*;omega)));exact λ_=>rfl;exact λ_=>rfl;exact lA;(first|omega|assumption|(focus (simp;done))|(focus (simp;omega))|(focus (simp at*;omega)));(first|omega|assumption|(focus (simp;done))|(focus (simp;omega))|(focus (simp at*;omega)));rfl;intro id' hid')|(apply ap0 pk (f:=Dt.cells) X.by_ 16;(iterate 10 rfl);exact λ_=>rfl;exact λ_=>rfl;exact lA;(first|omega|assumption|(focus (simp;done))|(focus (simp;omega))|(focus (simp at*;omega)));(first|omega|assumption|(focus (simp;done))|(focus (simp;omega))|(focus (simp at*;omega)));rfl;intro id' hid')|apply ahT pk 0;(iterate 5 rfl);(focus repeat' constructor);rfl;(intro _;rfl);(intro _;omega);rfl|apply ahT pk 1;(iterate 5 rfl);(focus repeat' constructor);rfl;(intro _;rfl);(intro _;omega);rfl|apply wY;rfl|apply wI;rfl|apply gE;omega|apply gE;show 0<_;omega|apply gE;show 1<_;omega|omega|intros;omega|simp only [zql];omega|intros;simp only [zql];omega|intros;simp only;omega|intro h;omega|intro h;simp at h;done|intro h;simp at h;omega|(intro h;simp at h)|intro h)
theorem kR {s:Sc} {b:Bs} {q:Qu} {r:List Vl} (h:WhyH s b q r) (ho:(ofL b (iG s b q r).1).length<1000000000) (hll:(iG s b q r).1.length<1000000000):PF Tryz.prog 14 [.agg (scC s), .agg (bsC b), .agg q.cells, .seq (r.map Vl.cells)] (.tup [.seq ((anV s b q r).1.map Dt.cells),(vi ((anV s b q r).2))]):=by
 by_cases he:(iG s b q r).2=0
 ·unfold anV
  rw [zn (by rw [he];simp)]
  exact λst=>eZ (sz:=2) (aCV h he ho hll st) λp st' hR=>by
   obtain ⟨id,rows,rfl,h3,rfl,h4⟩:=hR
   refine .inl ⟨id,69,rows,_,st,aA _ _ _,acF, .tup (.cons ?_ (.cons .refl .nil)),cY h3,rfl,rfl⟩
   dsimp only
   rw [<-h4]
   exact .vec
 ·have h1:=nH h
  unfold anV
  rw [zp he]
  unfold acH at h1
  generalize iG s b q r=K1 at*
  refine pF Tryz.func14 rfl (λst=> ?_)
  (repeat' first|exact Cn.any ⟨_,_,_,rfl,Wk.tup (.cons Wk.nil (WkL.refl _)),zsr _,rfl,rfl⟩|(show Cn (.r _ _ _);refine .any ⟨_,_,_,rfl,zwr _,zsr _, ?_,rfl⟩;try rfl)|apply wZ;rfl|show Cn _;constructor|exact rfl|apply KR.mk;kernel_rfl|(apply h1<;>(first|assumption|omega))|apply wY;rfl|omega|intros;omega|simp only [zql];omega|intros;simp only [zql];omega|intros;simp only;omega|exfalso;omega|intro h;omega|intro h;simp at h;done|intro h;simp at h;omega|(intro h;simp at h)|intro h)
end Go.Proofs.YtppdefkgmegipaaGreatDoor
