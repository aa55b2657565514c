import Derived.Test.YtppdefkgmegipaaGreatDoorClAj
import Derived.Test.YtppdefkgmegipaaGreatDoorClAi
import Derived.Test.YtppdefkgmegipaaGreatDoorAbsJ
set_option linter.unusedSimpArgs false
set_option linter.unusedVariables false
namespace Go.Proofs.YtppdefkgmegipaaGreatDoor
open Go Go.Abs
attribute [local irreducible] Ev PWp
set_option maxRecDepth 10000
set_option maxHeartbeats 4000000
def eN (xs:Array Dt):Nat->Nat
 |0=>0
 |1=>0
 |i+2=>eN xs (i+1)+if xs[i+1]! =xs[i]! then 0 else 1
theorem amB (xs:Array Dt) {k:Nat} (h:1<=k):eN xs (k+1)=eN xs k+if xs[k]! =xs[k-1]! then 0 else 1:=by
 obtain ⟨i,rfl⟩:∃i,k=i+1:=⟨k-1,by omega⟩
 rfl
theorem aAo (xs:Array Dt) (k:Nat):∀y,1<=k->eN xs (k+y)<=eN xs k+y
 |0,_=>Nat.le_refl _
 |y+1,h=>by
  have:=aAo xs k y h
  rw [show k+(y+1)=k+y+1 from rfl,amB xs (by omega)]
  split<;>omega
def eL (xs:Array Dt):Nat->List Dt
 |0=>[]
 |1=>[xs[0]!]
 |i+2=>eL xs (i+1)++if xs[i+1]! =xs[i]! then [] else [xs[i+1]!]
theorem alZ (xs:Array Dt) {k:Nat} (h:1<=k):eL xs (k+1)=eL xs k++if xs[k]! =xs[k-1]! then [] else [xs[k]!]:=by
 obtain ⟨i,rfl⟩:∃i,k=i+1:=⟨k-1,by omega⟩
 rfl
theorem asC (xs:Array Dt):∀k,1<=k->(eL xs k).length=1+eN xs k
 |1,_=>rfl
 |k+2,_=>by
  have ih:=asC xs (k+1) (by omega)
  rw [alZ xs (by omega),amB xs (by omega),zla,ih]
  split<;>simp<;>omega
def heA (xs:Array Dt) (n:Nat):List Dt:=xs.toList.take n
theorem aiF {xs:Array Dt} {k:Nat} (h:k<xs.size):heA xs (k+1)=heA xs k++[xs[k]!]:=by
 unfold heA
 rw [List.take_succ_eq_append_getElem (by simpa using h),getElem!_pos xs k h];simp
theorem aAa {xs:Array Dt} {k n:Nat} {v:Dt} (h:n<=k):heA (xs.setIfInBounds k v) n=heA xs n:=by
 unfold heA
 rw [Array.toList_setIfInBounds,List.take_set,List.set_eq_of_length_le (by simp;omega)]
theorem tM (xs:Array Dt) {st:aD} {id n:Nat} (hst:st id=some (.arr 69 (xs.toList.map Dt.cells))) (hn:xs.size=n) (h12:n<1000000000000):
  PC Tryz.prog 36 [.vec id 2 0 n] st λr S=>r= .vec id 2 0 (eL xs n).length/\∃rows,S=upd st id (some (.arr 69 rows))/\rows.length=n/\rows.take (eL xs n).length=(eL xs n).map Dt.cells:=by
 by_cases h0:n=0
 ·subst h0
  refine pC Tryz.func36 rfl ?_
  (repeat' first|apply wDx pk;rfl;kernel_rfl;rfl;rfl|show Cn (.r _ _ _);refine .rr ?_;(exact ⟨rfl,_,(aL hst).symm,by simp [hn],by simp [eL]⟩);done|show Cn (.r _ _ _);refine .any ⟨_,_, ?zs,rfl,zwr _, ?zh, ?zr⟩;(case zh=>(refine aF ?_ ‹_›;(repeat refine aF ?_ ‹_›);exact zsr _));(case zr=>(exact ⟨rfl,_,(aL hst).symm,by simp [hn],by simp [eL]⟩))|apply wZ;rfl|show Cn _;constructor|exact rfl|apply KR.mk;kernel_rfl|apply ncA;rfl;rfl;rfl;rotate_left;rfl;rfl|apply ldR pk;rfl;rfl;rotate_left;rfl;(focus ((repeat (first|exact aA _ _ _|assumption|refine (aC ‹_›).trans ?_));done));rfl;rfl|apply stR pk;rfl;rfl;(focus ((repeat (first|exact aA _ _ _|assumption|refine (aC ‹_›).trans ?_));done));rfl;rfl|omega|intros;omega|simp only [zql];omega|intros;simp only [zql];omega|intros;simp only;omega|intro h;omega|intro h;simp at h;done|intro h;simp at h;omega|(intro h;simp at h)|intro h)
 have e:(eL xs n).length=1+eN xs n:=asC xs n (by omega)
 rw [e]
 have h1:heA xs 1=eL xs 1:=by rw [aiF (by omega)];rfl
 by_cases h2:n<2
 ·obtain rfl:n=1:=by omega
  refine pC Tryz.func36 rfl ?_
  (repeat' first|apply wDx pk;rfl;kernel_rfl;rfl;rfl|show Cn (.r _ _ _);refine .rr ?_;(exact ⟨rfl,_,(aL hst).symm,by simp [hn],by rw [<-List.map_take];exact congrArg (List.map Dt.cells) h1⟩);done|show Cn (.r _ _ _);refine .any ⟨_,_, ?zs,rfl,zwr _, ?zh, ?zr⟩;(case zh=>(refine aF ?_ ‹_›;(repeat refine aF ?_ ‹_›);exact zsr _));(case zr=>(exact ⟨rfl,_,(aL hst).symm,by simp [hn],by rw [<-List.map_take];exact congrArg (List.map Dt.cells) h1⟩))|apply wZ;rfl|show Cn _;constructor|exact rfl|apply KR.mk;kernel_rfl|apply ncA;rfl;rfl;rfl;rotate_left;rfl;rfl|apply ldR pk;rfl;rfl;rotate_left;rfl;(focus ((repeat (first|exact aA _ _ _|assumption|refine (aC ‹_›).trans ?_));done));rfl;rfl|apply stR pk;rfl;rfl;(focus ((repeat (first|exact aA _ _ _|assumption|refine (aC ‹_›).trans ?_));done));rfl;rfl|omega|intros;omega|simp only [zql];omega|intros;simp only [zql];omega|intros;simp only;omega|intro h;omega|intro h;simp at h;done|intro h;simp at h;omega|(intro h;simp at h)|intro h)
 refine pC Tryz.func36 rfl ?_
 focus ((repeat' first|apply wDx pk;rfl;kernel_rfl;rfl;rfl|apply wZ;rfl|show Cn _;constructor|exact rfl|apply KR.mk;kernel_rfl|apply ncA;rfl;rfl;rfl;rotate_left;rfl;rfl|apply ldR pk;rfl;rfl;rotate_left;rfl;(focus ((repeat (first|exact aA _ _ _|assumption|refine (aC ‹_›).trans ?_));done));rfl;rfl|apply stR pk;rfl;rfl;(focus ((repeat (first|exact aA _ _ _|assumption|refine (aC ‹_›).trans ?_));done));rfl;rfl|omega|intros;omega|simp only [zql];omega|intros;simp only [zql];omega|intros;simp only;omega|intro h;omega|intro h;simp at h;done|intro h;simp at h;omega|(intro h;simp at h)|intro h))
 refine aG (X:={x:Nat//1<=x/\x<=n/\eN xs x+1=x/\heA xs x=eL xs x}) (λi=>(((St.nil 61 (st)).pv 0 (.vec id 2 0 n)).pv 3 ((vi ((i.1:Nat)))))) (λi=>n-i.1) ⟨1,by omega,by omega,rfl,h1⟩ ?_ (λi=> ?_)
 ·(repeat' first|show Cn (.t _ _);exact Cn.t0|show Cn (.t _ _);exact .any (aJ ‹_›)|(show Cn (.t _ _);exact .any (aI (by (first|rfl|exact aL ‹_›|((simp only [St.pv,St.put,St.sst,St.setv,St.nil,St.var,aH]);(first|done|rfl))))))|(show Cn (.t _ _);refine .any (aI ?_);(simp only [St.pv,St.put,St.sst,St.setv,St.nil,St.var,aH]);(rw [dA ‹_›]);(first|done|rfl))|show Cn _;constructor|exact rfl)
 obtain ⟨k,hk1,hk2,hk3,hk4⟩:=i
 dsimp only
 by_cases hend:n<=k
 ·obtain rfl:k=n:=by omega
  have e2:1+eN xs k=k:=by omega
  rw [e2]
  have e3:(xs.toList.map Dt.cells).take k=(eL xs k).map Dt.cells:=by rw [<-List.map_take];exact congrArg (List.map Dt.cells) hk4
  (repeat' first|apply wDx pk;rfl;kernel_rfl;rfl;rfl|show Cn (.r _ _ _);refine .rr ?_;(exact ⟨rfl,_,(aL hst).symm,by simp [hn],e3⟩);done|show Cn (.r _ _ _);refine .any ⟨_,_, ?zs,rfl,zwr _, ?zh, ?zr⟩;(case zh=>(refine aF ?_ ‹_›;(repeat refine aF ?_ ‹_›);exact zsr _));(case zr=>(exact ⟨rfl,_,(aL hst).symm,by simp [hn],e3⟩))|apply wZ;rfl|show Cn _;constructor|exact rfl|apply KR.mk;kernel_rfl|apply ncA;rfl;rfl;rfl;rotate_left;rfl;rfl|apply ldR pk;rfl;rfl;rotate_left;rfl;(focus ((repeat (first|exact aA _ _ _|assumption|refine (aC ‹_›).trans ?_));done));rfl;rfl|apply stR pk;rfl;rfl;(focus ((repeat (first|exact aA _ _ _|assumption|refine (aC ‹_›).trans ?_));done));rfl;rfl|omega|intros;omega|simp only [zql];omega|intros;simp only [zql];omega|intros;simp only;omega|intro h;omega|intro h;simp at h;done|intro h;simp at h;omega|(intro h;simp at h)|intro h)
 have hkn:k<n:=by omega
 have hu:=amB xs hk1
 have hL:=alZ xs hk1
 by_cases hd:¬xs[k]! =xs[k-1]!
 ·have hdd:¬(xs[k]!.dev=xs[k-1]!.dev/\xs[k]!.seq=xs[k-1]!.seq):=λh=>hd ((Dt.ext_iff _ _).2 h)
  rw [zn hd] at hu hL
  have hu2:eN xs (k+1)+1=k+1:=by omega
  have hL2:heA xs (k+1)=eL xs (k+1):=by rw [hL,<-hk4,aiF (by omega)]
  (repeat' first|apply wDx pk;rfl;kernel_rfl;rfl;rfl|(show Cn (.r _ _ _);refine .any ⟨_,_,_,rfl,zwr _,zsr _, ?_,rfl⟩;try rfl)|(refine ⟨⟨k+1,by omega,by omega,hu2,hL2⟩, ?_, ?_⟩)|show Cn (.t _ _);exact Cn.t0|show Cn (.t _ _);exact .any (aJ ‹_›)|(show Cn (.t _ _);exact .any (aI (by (first|rfl|exact aL ‹_›|((simp only [St.pv,St.put,St.sst,St.setv,St.nil,St.var,aH]);(first|done|rfl))))))|(show Cn (.t _ _);refine .any (aI ?_);(simp only [St.pv,St.put,St.sst,St.setv,St.nil,St.var,aH]);(rw [dA ‹_›]);(first|done|rfl))|apply wZ;rfl|show Cn _;constructor|exact rfl|apply KR.mk;kernel_rfl|apply ncA;rfl;rfl;rfl;rotate_left;rfl;rfl|apply ldR pk;rfl;rfl;rotate_left;rfl;(focus ((repeat (first|exact aA _ _ _|assumption|refine (aC ‹_›).trans ?_));done));rfl;rfl|apply stR pk;rfl;rfl;(focus ((repeat (first|exact aA _ _ _|assumption|refine (aC ‹_›).trans ?_));done));rfl;rfl|(apply ixA pk;(iterate 5 rfl);rotate_left;rfl;(intro hw;(first|exact (show _=((k:Nat):Int) from by omega)|exact (show _=((k-1:Nat):Int) from by omega)|(simp [gw] at hw;first|exact (show _=((k:Nat):Int) from by omega)|exact (show _=((k-1:Nat):Int) from by omega)|refine (show _=((0:Nat):Int) from ?_);omega)|exact rfl));(intro hw;(first|omega|(focus (simp [gw] at hw;done))|simp [gw] at hw;omega|simp only [zqs];omega));rfl;(first|exact Nat.zero_add _|exact rfl))|apply ldA pk Dt.elem;rfl;rfl;rotate_left;rfl;(focus ((repeat (first|exact aA _ _ _|assumption|refine (aC ‹_›).trans ?_));done));(intro hw;(first|omega|(focus (simp [gw] at hw;done))|simp [gw] at hw;omega|simp only [zqs];omega));rfl|apply stA pk Dt.elem;rfl;rfl;rfl;(focus ((repeat (first|exact aA _ _ _|assumption|refine (aC ‹_›).trans ?_));done));(first|omega|simp only [zqs];omega);rfl|omega|intros;omega|simp only [zql];omega|intros;simp only [zql];omega|intros;simp only;omega|intro h;omega|intro h;simp at h;done|intro h;simp at h;omega|(intro h;simp at h)|intro h)
 replace hd:=zdn hd
 obtain ⟨hd1,hd2⟩:=(Dt.ext_iff _ _).1 hd
 rw [zp hd] at hu hL
 rw [List.append_nil] at hL
 have hk5:heA xs (1+eN xs (k+1))=eL xs (k+1):=by rw [hL,<-hk4,show 1+eN xs (k+1)=k by omega]
 focus ((repeat' first|apply wDx pk;rfl;kernel_rfl;rfl;rfl|(show Cn (.r _ _ _);refine .any ⟨_,_,_,rfl,zwr _,zsr _, ?_,rfl⟩;try rfl)|apply wZ;rfl|show Cn _;constructor|exact rfl|apply KR.mk;kernel_rfl|apply ncA;rfl;rfl;rfl;rotate_left;rfl;rfl|apply ldR pk;rfl;rfl;rotate_left;rfl;(focus ((repeat (first|exact aA _ _ _|assumption|refine (aC ‹_›).trans ?_));done));rfl;rfl|apply stR pk;rfl;rfl;(focus ((repeat (first|exact aA _ _ _|assumption|refine (aC ‹_›).trans ?_));done));rfl;rfl|(apply ixA pk;(iterate 5 rfl);rotate_left;rfl;(intro hw;(first|exact (show _=((k:Nat):Int) from by omega)|exact (show _=((k-1:Nat):Int) from by omega)|(simp [gw] at hw;first|exact (show _=((k:Nat):Int) from by omega)|exact (show _=((k-1:Nat):Int) from by omega)|refine (show _=((0:Nat):Int) from ?_);omega)|exact rfl));(intro hw;(first|omega|(focus (simp [gw] at hw;done))|simp [gw] at hw;omega|simp only [zqs];omega));rfl;(first|exact Nat.zero_add _|exact rfl))|apply ldA pk Dt.elem;rfl;rfl;rotate_left;rfl;(focus ((repeat (first|exact aA _ _ _|assumption|refine (aC ‹_›).trans ?_));done));(intro hw;(first|omega|(focus (simp [gw] at hw;done))|simp [gw] at hw;omega|simp only [zqs];omega));rfl|apply stA pk Dt.elem;rfl;rfl;rfl;(focus ((repeat (first|exact aA _ _ _|assumption|refine (aC ‹_›).trans ?_));done));(first|omega|simp only [zqs];omega);rfl|apply lT pk k (n-k);(iterate 4 rfl);rotate_left;rfl;(intro _;exact ⟨_,bL rfl rfl,by omega⟩);(intro _;exact ⟨_,cC,by omega⟩);(intro _;omega);(intro _;omega);rfl|omega|intros;omega|simp only [zql];omega|intros;simp only [zql];omega|intros;simp only;omega|intro h;omega|intro h;simp at h;done|intro h;simp at h;omega|(intro h;simp at h)|intro h))
 refine aG (X:={x:Nat×Array Dt//1<=x.1/\x.1<=n-k/\x.2.size=n/\(∀j,k+x.1<=j+1->j<n->x.2[j]! =xs[j]!)/\heA x.2 (1+eN xs (k+x.1))=eL xs (k+x.1)}) (λy=>(((((St.nil 61 (upd st id (some (.arr 69 (y.1.2.toList.map Dt.cells))))).pv 0 (.vec id 2 0 n)).pv 3 ((vi (((1+eN xs (k+y.1.1):Nat):Int))))).pv 4 (.vec id 2 k (n-k))).pv 5 ((vi ((y.1.1:Nat)))))) (λy=>n-y.1.1) ⟨(1,xs),by omega,by omega,hn,λ_ _ _=>rfl,hk5⟩ ?_ (λy=> ?_)
 ·dsimp only
  (repeat' first|show Cn (.t _ _);exact Cn.t0|show Cn (.t _ _);exact .any (aJ ‹_›)|(show Cn (.t _ _);exact .any (aI (by (first|rfl|exact aL ‹_›|((simp only [St.pv,St.put,St.sst,St.setv,St.nil,St.var,aH]);(first|done|rfl))))))|(show Cn (.t _ _);refine .any (aI ?_);(simp only [St.pv,St.put,St.sst,St.setv,St.nil,St.var,aH]);(rw [dA ‹_›]);(first|done|rfl))|show Cn _;constructor|exact rfl|congr 2;omega)
 obtain ⟨⟨y,ys⟩,hy1,hy2,hys,hy,hyL⟩:=y
 simp only at hy1 hy2 hys hy hyL
 dsimp only
 have hle:=aAo xs (k+1) (y-1) (by omega)
 rw [show k+1+(y-1)=k+y by omega] at hle
 by_cases hend2:n-k<=y
 ·obtain rfl:y=n-k:=by omega
  rw [show k+(n-k)=n by omega] at hle hyL⊢
  have hr:(ys.toList.map Dt.cells).length=n:=by rw [zql,Array.length_toList,hys]
  have hpl:(bE (ys.toList.map Dt.cells) (1+eN xs n) (bM (n-(1+eN xs n)) 2)).length=n:=(fD (by rw [hr];simp only [bM,List.length_replicate];omega)).trans hr
  have hput:∀m,(bE (ys.toList.map Dt.cells) (1+eN xs n) (bM m 2)).take (1+eN xs n)=(eL xs n).map Dt.cells:=λm=>by
   unfold bE
   rw [List.append_assoc,List.take_append_of_le_length (by rw [zlt,hr];omega),List.take_take,Nat.min_self,<-List.map_take]
   exact congrArg (List.map Dt.cells) hyL
  have hyT:(ys.toList.map Dt.cells).take (1+eN xs n)=(eL xs n).map Dt.cells:=by rw [<-List.map_take];exact congrArg (List.map Dt.cells) hyL
  (repeat' first|apply wDx pk;rfl;kernel_rfl;rfl;rfl|show Cn (.r _ _ _);refine .rr ?_;(exact ⟨rfl,_,aH _ _ _ _,hpl,hput _⟩);done|show Cn (.r _ _ _);refine .any ⟨_,_, ?zs,rfl,zwr _, ?zh, ?zr⟩;(case zh=>(refine aF ?_ ‹_›;(repeat refine aF ?_ ‹_›);exact zsr _));(case zr=>(exact ⟨rfl,_,aH _ _ _ _,hpl,hput _⟩))|apply wZ;rfl|show Cn _;constructor|exact rfl|apply KR.mk;kernel_rfl|apply ncA;rfl;rfl;rfl;rotate_left;rfl;rfl|apply ldR pk;rfl;rfl;rotate_left;rfl;(focus ((repeat (first|exact aA _ _ _|assumption|refine (aC ‹_›).trans ?_));done));rfl;rfl|apply stR pk;rfl;rfl;(focus ((repeat (first|exact aA _ _ _|assumption|refine (aC ‹_›).trans ?_));done));rfl;rfl|(apply ixA pk;(iterate 5 rfl);rotate_left;rfl;(intro hw;(first|exact (show _=((k:Nat):Int) from by omega)|(simp [gw] at hw;first|exact (show _=((k:Nat):Int) from by omega)|refine (show _=((0:Nat):Int) from ?_);omega)|exact rfl));(intro hw;(first|omega|(focus (simp [gw] at hw;done))|simp [gw] at hw;omega|simp only [zqs];omega));rfl;(first|exact Nat.zero_add _|exact rfl))|apply ldA pk Dt.elem;rfl;rfl;rotate_left;rfl;(focus ((repeat (first|exact aA _ _ _|assumption|refine (aC ‹_›).trans ?_));done));(intro hw;(first|omega|(focus (simp [gw] at hw;done))|simp [gw] at hw;omega|simp only [zqs];omega));rfl|apply stA pk Dt.elem;rfl;rfl;rfl;(focus ((repeat (first|exact aA _ _ _|assumption|refine (aC ‹_›).trans ?_));done));(first|omega|simp only [zqs];omega);rfl|apply lT pk (1+eN xs n) (n-(1+eN xs n));(iterate 4 rfl);rotate_left;rfl;(intro _;exact ⟨_,bL rfl rfl,by omega⟩);(intro _;exact ⟨_,cC,by omega⟩);(intro _;omega);(intro _;omega);rfl|(refine aiH pk (id:=id) (off:=1+eN xs n) (len:=n-(1+eN xs n)) (rows:=ys.toList.map Dt.cells) rfl rfl rfl rfl rfl rfl rfl rfl (aA _ _ _) (by omega) (by omega) (by omega) rfl ?_)|apply afO pk (1+eN xs n);(iterate 4 rfl);rotate_left;rfl;(intro _;exact bL rfl rfl);(intro _;omega);(intro _;omega);rfl|omega|intros;omega|simp only [zql];omega|intros;simp only [zql];omega|intros;simp only;omega|intro h;omega|intro h;simp at h;done|intro h;simp at h;omega|(intro h;simp at h)|intro h)
 have hr1:=hy (k+y) (by omega) (by omega)
 have hr2:=hy (k+(y-1)) (by omega) (by omega)
 have hup:=amB xs (show 1<=k+y by omega)
 have hLp:=alZ xs (show 1<=k+y by omega)
 rw [show k+y-1=k+(y-1) by omega,show k+y+1=k+(y+1) from rfl] at hup hLp
 by_cases he:xs[k+y]! =xs[k+(y-1)]!
 ·rw [zp he] at hup hLp
  rw [List.append_nil] at hLp
  have hya:∀j,k+(y+1)<=j+1->j<n->ys[j]! =xs[j]!:=λj h1 h2=>hy j (by omega) h2
  have hyM:heA ys (1+eN xs (k+(y+1)))=eL xs (k+(y+1)):=by rw [hLp,hup,Nat.add_zero];exact hyL
  rw [<-hr1,<-hr2] at he
  obtain ⟨he1,he2⟩:=(Dt.ext_iff _ _).1 he
  (repeat' first|apply wDx pk;rfl;kernel_rfl;rfl;rfl|(show Cn (.r _ _ _);refine .any ⟨_,_,_,rfl,zwr _,zsr _, ?_,rfl⟩;try rfl)|refine ⟨⟨(y+1,ys),by simp only;omega,by simp only;omega,hys,hya,hyM⟩, ?_, ?_⟩;((dsimp only))|show Cn (.t _ _);exact Cn.t0|show Cn (.t _ _);exact .any (aJ ‹_›)|(show Cn (.t _ _);exact .any (aI (by (first|rfl|exact aL ‹_›|((simp only [St.pv,St.put,St.sst,St.setv,St.nil,St.var,aH]);(first|done|rfl))))))|(show Cn (.t _ _);refine .any (aI ?_);(simp only [St.pv,St.put,St.sst,St.setv,St.nil,St.var,aH]);(rw [dA ‹_›]);(first|done|rfl))|apply wZ;rfl|show Cn _;constructor|exact rfl|apply KR.mk;kernel_rfl|show _=_;(congr 2;omega)|apply ncA;rfl;rfl;rfl;rotate_left;rfl;rfl|apply ldR pk;rfl;rfl;rotate_left;rfl;(focus ((repeat (first|exact aA _ _ _|assumption|refine (aC ‹_›).trans ?_));done));rfl;rfl|apply stR pk;rfl;rfl;(focus ((repeat (first|exact aA _ _ _|assumption|refine (aC ‹_›).trans ?_));done));rfl;rfl|(apply ixA pk;(iterate 5 rfl);rotate_left;rfl;(intro hw;(first|exact (show _=((y:Nat):Int) from by omega)|exact (show _=((y-1:Nat):Int) from by omega)|(simp [gw] at hw;first|exact (show _=((y:Nat):Int) from by omega)|exact (show _=((y-1:Nat):Int) from by omega)|refine (show _=((0:Nat):Int) from ?_);omega)|exact rfl));(intro hw;(first|omega|(focus (simp [gw] at hw;done))|simp [gw] at hw;omega|simp only [zqs];omega));rfl;(first|exact Nat.zero_add _|exact rfl))|apply ldA pk Dt.elem;rfl;rfl;rotate_left;rfl;(focus ((repeat (first|exact aA _ _ _|assumption|refine (aC ‹_›).trans ?_));done));(intro hw;(first|omega|(focus (simp [gw] at hw;done))|simp [gw] at hw;omega|simp only [zqs];omega));rfl|apply stA pk Dt.elem;rfl;rfl;rfl;(focus ((repeat (first|exact aA _ _ _|assumption|refine (aC ‹_›).trans ?_));done));(first|omega|simp only [zqs];omega);rfl|omega|intros;omega|simp only [zql];omega|intros;simp only [zql];omega|intros;simp only;omega|intro h;omega|intro h;simp at h;done|intro h;simp at h;omega|(intro h;simp at h)|intro h)
 ·rw [zn he] at hup hLp
  have hya:∀j,k+(y+1)<=j+1->j<n->(ys.setIfInBounds (1+eN xs (k+y)) ys[k+y]!)[j]! =xs[j]!:=λj h1 h2=>by
   rw [getElem!_pos _ j (by rw [zqs];omega),Array.getElem_setIfInBounds_ne (by omega) (by omega),<-getElem!_pos ys j (by omega)]
   exact hy j (by omega) h2
  have hyM:heA (ys.setIfInBounds (1+eN xs (k+y)) ys[k+y]!) (1+eN xs (k+(y+1)))=eL xs (k+(y+1)):=by
   rw [hLp,hup,<-hyL,show 1+(eN xs (k+y)+1)=(1+eN xs (k+y))+1 by omega,aiF (by rw [zqs];omega),aAa (Nat.le_refl _),getElem!_pos _ _ (by rw [zqs];omega),Array.getElem_setIfInBounds_self,hr1]
  rw [<-hr1,<-hr2] at he
  have hee:¬(ys[k+y]!.dev=ys[k+(y-1)]!.dev/\ys[k+y]!.seq=ys[k+(y-1)]!.seq):=λh=>he ((Dt.ext_iff _ _).2 h)
  (repeat' first|apply wDx pk;rfl;kernel_rfl;rfl;rfl|(show Cn (.r _ _ _);refine .any ⟨_,_,_,rfl,zwr _,zsr _, ?_,rfl⟩;try rfl)|refine ⟨⟨(y+1,ys.setIfInBounds (1+eN xs (k+y)) ys[k+y]!),by simp only;omega,by simp only;omega,by rw [zqs];exact hys,hya,hyM⟩, ?_, ?_⟩;((dsimp only))|show Cn (.t _ _);exact Cn.t0|show Cn (.t _ _);exact .any (aJ ‹_›)|(show Cn (.t _ _);exact .any (aI (by (first|rfl|exact aL ‹_›|((simp only [St.pv,St.put,St.sst,St.setv,St.nil,St.var,aH]);(first|done|rfl))))))|(show Cn (.t _ _);refine .any (aI ?_);(simp only [St.pv,St.put,St.sst,St.setv,St.nil,St.var,aH]);(rw [dA ‹_›]);(first|done|rfl))|apply wZ;rfl|show Cn _;constructor|exact rfl|apply KR.mk;kernel_rfl|show _=_;(congr 2;omega)|apply ncA;rfl;rfl;rfl;rotate_left;rfl;rfl|apply ldR pk;rfl;rfl;rotate_left;rfl;(focus ((repeat (first|exact aA _ _ _|assumption|refine (aC ‹_›).trans ?_));done));rfl;rfl|apply stR pk;rfl;rfl;(focus ((repeat (first|exact aA _ _ _|assumption|refine (aC ‹_›).trans ?_));done));rfl;rfl|(apply ixA pk;(iterate 5 rfl);rotate_left;rfl;(intro hw;(first|exact (show _=((y:Nat):Int) from by omega)|exact (show _=((y-1:Nat):Int) from by omega)|exact (show _=((1+eN xs (k+y):Nat):Int) from by omega)|(simp [gw] at hw;first|exact (show _=((y:Nat):Int) from by omega)|exact (show _=((y-1:Nat):Int) from by omega)|exact (show _=((1+eN xs (k+y):Nat):Int) from by omega)|refine (show _=((0:Nat):Int) from ?_);omega)|exact rfl));(intro hw;(first|omega|(focus (simp [gw] at hw;done))|simp [gw] at hw;omega|simp only [zqs];omega));rfl;(first|exact Nat.zero_add _|exact rfl))|apply ldA pk Dt.elem;rfl;rfl;rotate_left;rfl;(focus ((repeat (first|exact aA _ _ _|assumption|refine (aC ‹_›).trans ?_));done));(intro hw;(first|omega|(focus (simp [gw] at hw;done))|simp [gw] at hw;omega|simp only [zqs];omega));rfl|apply stA pk Dt.elem;rfl;rfl;rfl;(focus ((repeat (first|exact aA _ _ _|assumption|refine (aC ‹_›).trans ?_));done));(first|omega|simp only [zqs];omega);rfl|omega|intros;omega|simp only [zql];omega|intros;simp only [zql];omega|intros;simp only;omega|intro h;omega|intro h;simp at h;done|intro h;simp at h;omega|(intro h;simp at h)|intro h)
theorem aAl {xs:Array Dt} (hs:∀i j,i<j->j<xs.size->ltD xs[j]! xs[i]! =false):∀k,k<=xs.size->(eL xs k).Pairwise (λa b=>ltD a b=true)/\(∀x∈eL xs k,1<=k/\ltD xs[k-1]! x=false)/\∀x,x∈eL xs k↔∃i<k,xs[i]! =x
 |0,_=>by simp [eL]
 |1,_=>by
  refine ⟨by simp [eL],by simp [eL,ltD],λx=> ?_⟩
  simp only [eL,zms]
  exact ⟨λe=>⟨0,by omega,e.symm⟩,λ⟨i,hi,e⟩=>by
   obtain rfl:i=0:=by omega
   exact e.symm⟩
 |k+2,hk=>by
  obtain ⟨h1,h2,h3⟩:=aAl hs (k+1) (by omega)
  have hle:=hs k (k+1) (by omega) (by omega)
  rw [alZ xs (by omega),show k+1-1=k from rfl,show k+2-1=k+1 from rfl]
  by_cases e:xs[k+1]! =xs[k]!
  ·rw [zp e,List.append_nil]
   refine ⟨h1,λx hx=>⟨by omega,by rw [e];exact (h2 x hx).2⟩,λx=> ?_⟩
   rw [h3]
   constructor
   ·rintro ⟨i,hi,q⟩;exact ⟨i,by omega,q⟩
   ·rintro ⟨i,hi,q⟩
    rcases zls.1 hi with q2|q2
    ·exact ⟨i,q2,q⟩
    ·subst q2;exact ⟨k,by omega,by rw [<-e];exact q⟩
  ·rw [zn e]
   refine ⟨List.pairwise_append.2 ⟨h1,by simp,λa ha b hb=> ?_⟩,λx hx=> ?_,λx=> ?_⟩
   ·obtain rfl:=zms.1 hb
    have:=(h2 a ha).2
    rw [show k+1-1=k from rfl] at this
    cases q:ltD a xs[k+1]! with
    |true=>rfl
    |false=>exact absurd (ltD_ord.eq hle (ltD_ord.neg q this)) e
   ·rcases zma.1 hx with q|q
    ·exact ⟨by omega,ltD_ord.neg (h2 x q).2 hle⟩
    ·obtain rfl:=zms.1 q;exact ⟨by omega,by simp [ltD]⟩
   ·rw [zma,h3,zms]
    constructor
    ·rintro (⟨i,hi,q⟩|q)
     ·exact ⟨i,by omega,q⟩
     ·exact ⟨k+1,by omega,q.symm⟩
    ·rintro ⟨i,hi,q⟩
     rcases zls.1 hi with q2|q2
     ·exact .inl ⟨i,q2,q⟩
     ·subst q2;exact .inr q.symm
theorem adY {st:aD} {id1 id2:Nat} {o:AObj} (h:upd st id1 (some o) id2=none):st id2=none:=by
 by_cases e:id2=id1
 ·subst e;rw [aA] at h;cases h
 ·rwa [aC e] at h
def sz2 {α:Type} (a b:List α) (i:Nat):Nat:=if i=0 then 0 else if i=1 then a.length else a.length+b.length
def aoK {α:Type} (a b:List α) (i:Nat):List α:=if i=0 then [] else if i=1 then a else a++b
theorem aqP (n:Nat) (hl:n<1000000000000) (st:aD):PC Tryz.prog 180 [.val (.slice none 0 0),(vi ((n:Nat)))] st λr S=>∃id,r= .vec id 2 0 0/\st id=none/\S=upd st id (some (.arr 69 [])):=by
 by_cases hn:n=0
 ·subst hn
  refine pC Tryz.func180 rfl ?_
  (repeat' first|((refine dU 4 69 2 rfl rfl rfl (λid hid=> ?_);refine pS ?_;exact Cn.any ⟨_,_,_,rfl,zwr _,zsr _,id,rfl,hid,rfl⟩))|apply wDx pk;rfl;kernel_rfl;rfl;rfl|apply wZ;rfl|show Cn _;constructor|exact rfl|apply KR.mk;kernel_rfl|apply ncA;rfl;rfl;rfl;rotate_left;rfl;rfl|apply ldR pk;rfl;rfl;rotate_left;rfl;(focus ((repeat (first|exact aA _ _ _|assumption|refine (aC ‹_›).trans ?_));done));rfl;rfl|apply stR pk;rfl;rfl;(focus ((repeat (first|exact aA _ _ _|assumption|refine (aC ‹_›).trans ?_));done));rfl;rfl|(apply azS pk;rfl;rfl;rfl;rotate_left;rfl;rfl;rotate_left)|omega|intros;omega|simp only [zql];omega|intros;simp only [zql];omega|intros;simp only;omega|intro h;omega|intro h;simp at h;done|intro h;simp at h;omega|(intro h;simp at h)|intro h)
 have hn0:0<n:=by omega
 refine pC Tryz.func180 rfl ?_
 (repeat' first|((refine alV 4 0 rfl (.inl (aA _ _ _)) acF (Nat.zero_le _) (by simp [bM];omega) (λid2 hid2=> ?_);refine pS ?_;exact Cn.any ⟨_,_,upd st id2 (some (.arr 69 [])),rfl,zwr _,oY hid1 rfl,id2,rfl,adY hid2,rfl⟩))|apply wDx pk;rfl;kernel_rfl;rfl;rfl|apply wZ;rfl|show Cn _;constructor|exact rfl|apply KR.mk;kernel_rfl|apply ncA;rfl;rfl;rfl;rotate_left;rfl;rfl|apply ldR pk;rfl;rfl;rotate_left;rfl;(focus ((repeat (first|exact aA _ _ _|assumption|refine (aC ‹_›).trans ?_));done));rfl;rfl|apply stR pk;rfl;rfl;(focus ((repeat (first|exact aA _ _ _|assumption|refine (aC ‹_›).trans ?_));done));rfl;rfl|(apply azS pk;rfl;rfl;rfl;rotate_left;rfl;rfl;rotate_left)|(apply slN pk;(iterate 5 rfl);rotate_left;rfl;rfl;rotate_left)|((refine apN pk (m:=n) 16 rfl rfl rfl rfl rfl rfl rfl rfl hn0 lA (by omega) (by omega) (by decide) rfl (λid1 hid1=> ?_)))|apply afO pk 0;(iterate 4 rfl);rotate_left;rfl;(intro _;exact bL rfl rfl);(intro _;omega);(intro _;omega);rfl|omega|intros;omega|simp only [zql];omega|intros;simp only [zql];omega|intros;simp only;omega|intro h;omega|intro h;simp at h;done|intro h;simp at h;omega|(intro h;simp at h)|intro h)
theorem aeN (a b:List Dt) (h:a.length+b.length<100000000000) (st:aD):PC Tryz.prog 132 [.seq [[.seq (a.map Dt.cells)],[.seq (b.map Dt.cells)]]] st λr S=>∃id,r= .vec id 2 0 (a.length+b.length)/\st id=none/\S=upd st id (some (.arr 69 ((a++b).map Dt.cells))):=by
 have hla:(a.map Dt.cells).length=a.length:=zql _
 have hlb:(b.map Dt.cells).length=b.length:=zql _
 have hg:=aqP (a.length+b.length) (by omega) st
 have z0:sz2 a b 0=0:=rfl
 have z1:sz2 a b 1=a.length:=rfl
 have z2:sz2 a b 2=a.length+b.length:=rfl
 have c0:([[PV.seq (a.map Dt.cells)],[PV.seq (b.map Dt.cells)]]:List (List PV))[0]?=some [PV.seq (a.map Dt.cells)]:=rfl
 have c1:([[PV.seq (a.map Dt.cells)],[PV.seq (b.map Dt.cells)]]:List (List PV))[1]?=some [PV.seq (b.map Dt.cells)]:=rfl
 refine pC Tryz.func132 rfl ?_
 focus ((repeat' first|apply wDx pk;rfl;kernel_rfl;rfl;rfl|(show Cn (.e _ _ _ _);refine .any ?_;(first|(refine ⟨_,_,_,rfl,zwr _,zsr _, ?_,rfl⟩;(first|rfl))|(refine ⟨_,_,_,rfl,zwr _,aB ‹_›, ?_,rfl⟩;(first|rfl))|(refine ⟨_,_,_,rfl,zwf _,zsr _, ?_,rfl⟩;(first|rfl))|(refine ⟨_,_,_,rfl,zwf _,aB ‹_›, ?_,rfl⟩;(first|rfl))|(refine ⟨_,_,_,rfl,zwr _,zsr _, ?_,rfl⟩)|(refine ⟨_,_,_,rfl,zwf _,aB ‹_›, ?_,rfl⟩)))|apply wZ;rfl|show Cn _;constructor|exact rfl|apply KR.mk;kernel_rfl|apply ncA;rfl;rfl;rfl;rotate_left;rfl;rfl|apply ldR pk;rfl;rfl;rotate_left;rfl;(focus ((repeat (first|exact aA _ _ _|assumption|refine (aC ‹_›).trans ?_));done));rfl;rfl|apply stR pk;rfl;rfl;(focus ((repeat (first|exact aA _ _ _|assumption|refine (aC ‹_›).trans ?_));done));rfl;rfl|omega|intros;omega|simp only [zql];omega|intros;simp only [zql];omega|intros;simp only;omega|intro h;omega|intro h;simp at h;done|intro h;simp at h;omega|(intro h;simp at h)|intro h))
 refine aG (X:={x:Nat//x<=2}) (λi=>((((((St.nil 36 st).pv 0 (.seq [[.seq (a.map Dt.cells)],[.seq (b.map Dt.cells)]])).pv 3 ((vi ((sz2 a b i.1:Nat))))).pv 9 (.seq [[.seq (a.map Dt.cells)],[.seq (b.map Dt.cells)]])).pv 10 ((vi ((2:Nat))))).pv 11 ((vi ((i.1:Nat)))))) (λi=>2-i.1) ⟨0,by omega⟩ ?_ (λi=> ?_)
 ·(repeat' first|show Cn _;constructor|exact rfl)
 obtain ⟨i,hi⟩:=i
 dsimp only
 rcases (show i=0\/i=1\/i=2 by omega) with rfl|rfl|rfl
 ·(repeat' first|(show Cn (.e _ _ _ _);refine .any ?_;(first|(refine ⟨_,_,_,rfl,zwr _,zsr _, ?_,rfl⟩;(first|rfl))|(refine ⟨_,_,_,rfl,zwr _,aB ‹_›, ?_,rfl⟩;(first|rfl))|(refine ⟨_,_,_,rfl,zwf _,zsr _, ?_,rfl⟩;(first|rfl))|(refine ⟨_,_,_,rfl,zwf _,aB ‹_›, ?_,rfl⟩;(first|rfl))|(refine ⟨_,_,_,rfl,zwr _,zsr _, ?_,rfl⟩)|(refine ⟨_,_,_,rfl,zwf _,aB ‹_›, ?_,rfl⟩)))|(show Cn (.r _ _ _);refine .any ?_;(first|(refine ⟨_,_,_,rfl,zwr _,zsr _, ?_,rfl⟩;(first|rfl))|(refine ⟨_,_,_,rfl,zwr _,aB ‹_›, ?_,rfl⟩;(first|rfl))|(refine ⟨_,_,_,rfl,zwf _,zsr _, ?_,rfl⟩;(first|rfl))|(refine ⟨_,_,_,rfl,zwf _,aB ‹_›, ?_,rfl⟩;(first|rfl))|(refine ⟨_,_,_,rfl,zwr _,zsr _, ?_,rfl⟩)|(refine ⟨_,_,_,rfl,zwf _,aB ‹_›, ?_,rfl⟩)))|refine ⟨⟨1,by omega⟩, ?_, ?_⟩;((dsimp only [sz2]))|apply wZ;rfl|show Cn _;constructor|exact rfl|apply KR.mk;kernel_rfl|apply bX pk;(iterate 6 rfl);rotate_left;rfl;(intro hw;rfl);(intro hw;apply c0<;>omega);(intro _;rfl);rfl|(show _=_;(first|rfl|simp;done|simp;omega))|apply wI;rfl|apply gE;omega|apply gE;show 0<_;omega|apply gE;show 1<_;omega|omega|intros;omega|simp only [zql];omega|intros;simp only [zql];omega|intros;simp only;omega|intro h;omega|intro h;simp at h;done|intro h;simp at h;omega|(intro h;simp at h)|intro h)
 ·(repeat' first|(show Cn (.e _ _ _ _);refine .any ?_;(first|(refine ⟨_,_,_,rfl,zwr _,zsr _, ?_,rfl⟩;(first|rfl))|(refine ⟨_,_,_,rfl,zwr _,aB ‹_›, ?_,rfl⟩;(first|rfl))|(refine ⟨_,_,_,rfl,zwf _,zsr _, ?_,rfl⟩;(first|rfl))|(refine ⟨_,_,_,rfl,zwf _,aB ‹_›, ?_,rfl⟩;(first|rfl))|(refine ⟨_,_,_,rfl,zwr _,zsr _, ?_,rfl⟩)|(refine ⟨_,_,_,rfl,zwf _,aB ‹_›, ?_,rfl⟩)))|(show Cn (.r _ _ _);refine .any ?_;(first|(refine ⟨_,_,_,rfl,zwr _,zsr _, ?_,rfl⟩;(first|rfl))|(refine ⟨_,_,_,rfl,zwr _,aB ‹_›, ?_,rfl⟩;(first|rfl))|(refine ⟨_,_,_,rfl,zwf _,zsr _, ?_,rfl⟩;(first|rfl))|(refine ⟨_,_,_,rfl,zwf _,aB ‹_›, ?_,rfl⟩;(first|rfl))|(refine ⟨_,_,_,rfl,zwr _,zsr _, ?_,rfl⟩)|(refine ⟨_,_,_,rfl,zwf _,aB ‹_›, ?_,rfl⟩)))|refine ⟨⟨2,by omega⟩, ?_, ?_⟩;((dsimp only [sz2]))|apply wZ;rfl|show Cn _;constructor|exact rfl|apply KR.mk;kernel_rfl|apply bX pk;(iterate 6 rfl);rotate_left;rfl;(intro hw;rfl);(intro hw;apply c1<;>omega);(intro _;rfl);rfl|(show _=_;(first|rfl|simp;done|simp;omega))|apply wI;rfl|apply gE;omega|apply gE;show 0<_;omega|apply gE;show 1<_;omega|omega|intros;omega|simp only [zql];omega|intros;simp only [zql];omega|intros;simp only;omega|intro h;omega|intro h;simp at h;done|intro h;simp at h;omega|(intro h;simp at h)|intro h)
 ·rw [z2]
  focus ((repeat' first|apply wDx pk;rfl;kernel_rfl;rfl;rfl|(show Cn (.e _ _ _ _);refine .any ?_;(first|(refine ⟨_,_,_,rfl,zwr _,zsr _, ?_,rfl⟩;(first|rfl))|(refine ⟨_,_,_,rfl,zwr _,aB ‹_›, ?_,rfl⟩;(first|rfl))|(refine ⟨_,_,_,rfl,zwf _,zsr _, ?_,rfl⟩;(first|rfl))|(refine ⟨_,_,_,rfl,zwf _,aB ‹_›, ?_,rfl⟩;(first|rfl))|(refine ⟨_,_,_,rfl,zwr _,zsr _, ?_,rfl⟩)|(refine ⟨_,_,_,rfl,zwf _,aB ‹_›, ?_,rfl⟩)))|apply wZ;rfl|show Cn _;constructor|exact rfl|apply KR.mk;kernel_rfl|apply ncA;rfl;rfl;rfl;rotate_left;rfl;rfl|apply ldR pk;rfl;rfl;rotate_left;rfl;(focus ((repeat (first|exact aA _ _ _|assumption|refine (aC ‹_›).trans ?_));done));rfl;rfl|apply stR pk;rfl;rfl;(focus ((repeat (first|exact aA _ _ _|assumption|refine (aC ‹_›).trans ?_));done));rfl;rfl|((apply eE;rfl;rfl;exact hg;rfl;rfl;rfl;intro _ st' hR;obtain ⟨id,rfl,hid,rfl⟩:=hR))|omega|intros;omega|simp only [zql];omega|intros;simp only [zql];omega|intros;simp only;omega|intro h;omega|intro h;simp at h;done|intro h;simp at h;omega|(intro h;simp at h)|intro h))
  refine aG (X:={x:Nat×Nat//x.1<=2/\st x.2=none}) (λy=>(((((St.nil 36 (upd st y.1.2 (some (.arr 69 ((aoK a b y.1.1).map Dt.cells))))).pv 6 (.vec y.1.2 2 0 (sz2 a b y.1.1))).pv 25 (.seq [[.seq (a.map Dt.cells)],[.seq (b.map Dt.cells)]])).pv 26 ((vi ((2:Nat))))).pv 27 ((vi ((y.1.1:Nat)))))) (λy=>2-y.1.1) ⟨(0,id),by simp,hid⟩ ?_ (λy=> ?_)
  ·dsimp only
   (repeat' first|show Cn (.t _ _);exact Cn.t0|show Cn (.t _ _);exact .any (aJ ‹_›)|(show Cn (.t _ _);exact .any (aI (by (first|rfl|exact aL ‹_›|((simp only [St.pv,St.put,St.sst,St.setv,St.nil,St.var,aH]);(first|done|rfl))))))|(show Cn (.t _ _);refine .any (aI ?_);(simp only [St.pv,St.put,St.sst,St.setv,St.nil,St.var,aH]);(rw [dA ‹_›]);(first|done|rfl))|show Cn _;constructor|exact rfl)
  obtain ⟨⟨y,id⟩,hy,hid⟩:=y
  simp only at hy hid
  dsimp only
  rcases (show y=0\/y=1\/y=2 by omega) with rfl|rfl|rfl
  ·show PWp _ _ _ _
   (repeat' first|(show Cn (.e _ _ _ _);refine .any ?_;(first|(refine ⟨_,_,_,rfl,zwr _,zsr _, ?_,rfl⟩;(first|rfl))|(refine ⟨_,_,_,rfl,zwr _,aB ‹_›, ?_,rfl⟩;(first|rfl))|(refine ⟨_,_,_,rfl,zwf _,zsr _, ?_,rfl⟩;(first|rfl))|(refine ⟨_,_,_,rfl,zwf _,aB ‹_›, ?_,rfl⟩;(first|rfl))|(refine ⟨_,_,_,rfl,zwr _,zsr _, ?_,rfl⟩)|(refine ⟨_,_,_,rfl,zwf _,aB ‹_›, ?_,rfl⟩)))|(show Cn (.r _ _ _);refine .any ?_;(first|(refine ⟨_,_,_,rfl,zwr _,zsr _, ?_,rfl⟩;(first|rfl))|(refine ⟨_,_,_,rfl,zwr _,aB ‹_›, ?_,rfl⟩;(first|rfl))|(refine ⟨_,_,_,rfl,zwf _,zsr _, ?_,rfl⟩;(first|rfl))|(refine ⟨_,_,_,rfl,zwf _,aB ‹_›, ?_,rfl⟩;(first|rfl))|(refine ⟨_,_,_,rfl,zwr _,zsr _, ?_,rfl⟩)|(refine ⟨_,_,_,rfl,zwf _,aB ‹_›, ?_,rfl⟩)))|refine ⟨⟨(1,id'),by simp only;omega,bA hid'⟩, ?_, ?_⟩;((dsimp only [sz2,aoK]))|show Cn (.t _ _);exact Cn.t0|show Cn (.t _ _);exact .any (aJ ‹_›)|(show Cn (.t _ _);exact .any (aI (by (first|rfl|exact aL ‹_›|((simp only [St.pv,St.put,St.sst,St.setv,St.nil,St.var,aH]);(first|done|rfl))))))|(show Cn (.t _ _);refine .any (aI ?_);(simp only [St.pv,St.put,St.sst,St.setv,St.nil,St.var,aH]);(rw [dA ‹_›]);(first|done|rfl))|apply wZ;rfl|show Cn _;constructor|exact rfl|apply KR.mk;kernel_rfl|apply bX pk;(iterate 6 rfl);rotate_left;rfl;(intro hw;rfl);(intro hw;apply c0<;>omega);(intro _;rfl);rfl|(show _=_;(first|rfl|simp))|(apply apV pk (f:=Dt.cells) a 16;(iterate 9 rfl);(focus ((repeat (first|exact aA _ _ _|assumption|refine (aC ‹_›).trans ?_));done));(first|omega|assumption|(focus (simp;done))|(focus (simp;omega))|(focus (simp at*;omega)));exact λ_=>rfl;exact λ_=>rfl;exact lA;(first|omega|assumption|(focus (simp;done))|(focus (simp;omega))|(focus (simp at*;omega)));(first|omega|assumption|(focus (simp;done))|(focus (simp;omega))|(focus (simp at*;omega)));rfl;intro id' hid')|(apply ap0 pk (f:=Dt.cells) a 16;(iterate 10 rfl);exact λ_=>rfl;exact λ_=>rfl;exact lA;(first|omega|assumption|(focus (simp;done))|(focus (simp;omega))|(focus (simp at*;omega)));(first|omega|assumption|(focus (simp;done))|(focus (simp;omega))|(focus (simp at*;omega)));rfl;intro id' hid')|apply wI;rfl|apply gE;omega|apply gE;show 0<_;omega|apply gE;show 1<_;omega|omega|intros;omega|simp only [zql];omega|intros;simp only [zql];omega|intros;simp only;omega|intro h;omega|intro h;simp at h;done|intro h;simp at h;omega|(intro h;simp at h)|intro h)
  ·show PWp _ _ _ _
   (repeat' first|(show Cn (.e _ _ _ _);refine .any ?_;(first|(refine ⟨_,_,_,rfl,zwr _,zsr _, ?_,rfl⟩;(first|rfl))|(refine ⟨_,_,_,rfl,zwr _,aB ‹_›, ?_,rfl⟩;(first|rfl))|(refine ⟨_,_,_,rfl,zwf _,zsr _, ?_,rfl⟩;(first|rfl))|(refine ⟨_,_,_,rfl,zwf _,aB ‹_›, ?_,rfl⟩;(first|rfl))|(refine ⟨_,_,_,rfl,zwr _,zsr _, ?_,rfl⟩)|(refine ⟨_,_,_,rfl,zwf _,aB ‹_›, ?_,rfl⟩)))|(show Cn (.r _ _ _);refine .any ?_;(first|(refine ⟨_,_,_,rfl,zwr _,zsr _, ?_,rfl⟩;(first|rfl))|(refine ⟨_,_,_,rfl,zwr _,aB ‹_›, ?_,rfl⟩;(first|rfl))|(refine ⟨_,_,_,rfl,zwf _,zsr _, ?_,rfl⟩;(first|rfl))|(refine ⟨_,_,_,rfl,zwf _,aB ‹_›, ?_,rfl⟩;(first|rfl))|(refine ⟨_,_,_,rfl,zwr _,zsr _, ?_,rfl⟩)|(refine ⟨_,_,_,rfl,zwf _,aB ‹_›, ?_,rfl⟩)))|refine ⟨⟨(2,id'),by simp only;omega,bA hid'⟩, ?_, ?_⟩;((dsimp only [sz2,aoK]))|show Cn (.t _ _);exact Cn.t0|show Cn (.t _ _);exact .any (aJ ‹_›)|(show Cn (.t _ _);exact .any (aI (by (first|rfl|exact aL ‹_›|((simp only [St.pv,St.put,St.sst,St.setv,St.nil,St.var,aH]);(first|done|rfl))))))|(show Cn (.t _ _);refine .any (aI ?_);(simp only [St.pv,St.put,St.sst,St.setv,St.nil,St.var,aH]);(rw [dA ‹_›]);(first|done|rfl))|apply wZ;rfl|show Cn _;constructor|exact rfl|apply KR.mk;kernel_rfl|apply bX pk;(iterate 6 rfl);rotate_left;rfl;(intro hw;rfl);(intro hw;apply c1<;>omega);(intro _;rfl);rfl|(show _=_;(first|rfl|simp))|(apply apV pk (f:=Dt.cells) b 16;(iterate 9 rfl);(focus ((repeat (first|exact aA _ _ _|assumption|refine (aC ‹_›).trans ?_));done));(first|omega|assumption|(focus (simp;done))|(focus (simp;omega))|(focus (simp at*;omega)));exact λ_=>rfl;exact λ_=>rfl;exact lA;(first|omega|assumption|(focus (simp;done))|(focus (simp;omega))|(focus (simp at*;omega)));(first|omega|assumption|(focus (simp;done))|(focus (simp;omega))|(focus (simp at*;omega)));rfl;intro id' hid')|(apply ap0 pk (f:=Dt.cells) b 16;(iterate 10 rfl);exact λ_=>rfl;exact λ_=>rfl;exact lA;(first|omega|assumption|(focus (simp;done))|(focus (simp;omega))|(focus (simp at*;omega)));(first|omega|assumption|(focus (simp;done))|(focus (simp;omega))|(focus (simp at*;omega)));rfl;intro id' hid')|apply wI;rfl|apply gE;omega|apply gE;show 0<_;omega|apply gE;show 1<_;omega|omega|intros;omega|simp only [zql];omega|intros;simp only [zql];omega|intros;simp only;omega|intro h;omega|intro h;simp at h;done|intro h;simp at h;omega|(intro h;simp at h)|intro h)
  ·(repeat' first|apply wDx pk;rfl;kernel_rfl;rfl;rfl|(show Cn (.e _ _ _ _);refine .any ?_;(first|(refine ⟨_,_,_,rfl,zwr _,zsr _, ?_,rfl⟩;(first|rfl))|(refine ⟨_,_,_,rfl,zwr _,aB ‹_›, ?_,rfl⟩;(first|rfl))|(refine ⟨_,_,_,rfl,zwf _,zsr _, ?_,rfl⟩;(first|rfl))|(refine ⟨_,_,_,rfl,zwf _,aB ‹_›, ?_,rfl⟩;(first|rfl))|(refine ⟨_,_,_,rfl,zwr _,zsr _, ?_,rfl⟩)|(refine ⟨_,_,_,rfl,zwf _,aB ‹_›, ?_,rfl⟩)))|show Cn (.r _ _ _);refine .rr ?_;(exact ⟨id,rfl,hid,rfl⟩);done|show Cn (.r _ _ _);refine .any ⟨_,_, ?zs,rfl,zwr _, ?zh, ?zr⟩;(case zh=>(refine aF ?_ ‹_›;(repeat refine aF ?_ ‹_›);exact zsr _));(case zr=>(exact ⟨id,rfl,hid,rfl⟩))|apply wZ;rfl|show Cn _;constructor|exact rfl|apply KR.mk;kernel_rfl|apply ncA;rfl;rfl;rfl;rotate_left;rfl;rfl|apply ldR pk;rfl;rfl;rotate_left;rfl;(focus ((repeat (first|exact aA _ _ _|assumption|refine (aC ‹_›).trans ?_));done));rfl;rfl|apply stR pk;rfl;rfl;(focus ((repeat (first|exact aA _ _ _|assumption|refine (aC ‹_›).trans ?_));done));rfl;rfl|omega|intros;omega|simp only [zql];omega|intros;simp only [zql];omega|intros;simp only;omega|intro h;omega|intro h;simp at h;done|intro h;simp at h;omega|(intro h;simp at h)|intro h)
end Go.Proofs.YtppdefkgmegipaaGreatDoor
