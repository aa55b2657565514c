import Derived.Test.YtppdefkgmegipaaGreatDoorClAk
import Derived.Test.YtppdefkgmegipaaGreatDoorAbsJ
import Derived.Test.YtppdefkgmegipaaGreatDoorAbsG
import Derived.Test.YtppdefkgmegipaaGreatDoorClAj
import Derived.Test.YtppdefkgmegipaaGreatDoorAbsL
import Derived.Test.YtppdefkgmegipaaGreatDoorAbsK
set_option linter.unusedSimpArgs false
set_option linter.unusedVariables false
namespace Go.Proofs.YtppdefkgmegipaaGreatDoor
open Go Go.Abs
attribute [local irreducible] Ev PWp
set_option maxRecDepth 10000
set_option maxHeartbeats 4000000
theorem aqG (n:Nat) (hl:n<1000000000000) (st:aD):PC Tryz.prog 178 [.val (.slice none 0 0),(vi ((n:Nat)))] st λr S=>∃id,r= .vec id 3 0 0/\st id=none/\S=upd st id (some (.arr 54 [])):=by
 by_cases hn:n=0
 ·subst hn
  refine pC Tryz.func178 rfl ?_
  (repeat' first|((refine dU 4 54 3 rfl rfl rfl (λid hid=> ?_);refine pS ?_;exact Cn.any ⟨_,_,_,rfl,zwr _,zsr _,id,rfl,hid,rfl⟩))|apply wDx pk;rfl;kernel_rfl;rfl;rfl|apply wZ;rfl|show Cn _;constructor|exact rfl|apply KR.mk;kernel_rfl|apply ncA;rfl;rfl;rfl;rotate_left;rfl;rfl|apply ldR pk;rfl;rfl;rotate_left;rfl;(focus ((repeat (first|exact aA _ _ _|assumption|refine (aC ‹_›).trans ?_));done));rfl;rfl|apply stR pk;rfl;rfl;(focus ((repeat (first|exact aA _ _ _|assumption|refine (aC ‹_›).trans ?_));done));rfl;rfl|(apply azS pk;rfl;rfl;rfl;rotate_left;rfl;rfl;rotate_left)|omega|intros;omega|simp only [zql];omega|intros;simp only [zql];omega|intros;simp only;omega|intro h;omega|intro h;simp at h;done|intro h;simp at h;omega|(intro h;simp at h)|intro h)
 have hn0:0<n:=by omega
 refine pC Tryz.func178 rfl ?_
 (repeat' first|((refine alV 4 0 rfl (.inl (aA _ _ _)) jH (Nat.zero_le _) (by simp [bM];omega) (λid2 hid2=> ?_);refine pS ?_;exact Cn.any ⟨_,_,upd st id2 (some (.arr 54 [])),rfl,zwr _,oY hid1 rfl,id2,rfl,adY hid2,rfl⟩))|apply wDx pk;rfl;kernel_rfl;rfl;rfl|apply wZ;rfl|show Cn _;constructor|exact rfl|apply KR.mk;kernel_rfl|apply ncA;rfl;rfl;rfl;rotate_left;rfl;rfl|apply ldR pk;rfl;rfl;rotate_left;rfl;(focus ((repeat (first|exact aA _ _ _|assumption|refine (aC ‹_›).trans ?_));done));rfl;rfl|apply stR pk;rfl;rfl;(focus ((repeat (first|exact aA _ _ _|assumption|refine (aC ‹_›).trans ?_));done));rfl;rfl|(apply azS pk;rfl;rfl;rfl;rotate_left;rfl;rfl;rotate_left)|(apply slN pk;(iterate 5 rfl);rotate_left;rfl;rfl;rotate_left)|((refine apN pk (m:=n) 32 rfl rfl rfl rfl rfl rfl rfl rfl hn0 iA (by omega) (by omega) (by decide) rfl (λid1 hid1=> ?_)))|apply afO pk 0;(iterate 4 rfl);rotate_left;rfl;(intro _;exact bL rfl rfl);(intro _;omega);(intro _;omega);rfl|omega|intros;omega|simp only [zql];omega|intros;simp only [zql];omega|intros;simp only;omega|intro h;omega|intro h;simp at h;done|intro h;simp at h;omega|(intro h;simp at h)|intro h)
theorem aeX (a b:List Vl) (h:a.length+b.length<100000000000) (st:aD):PC Tryz.prog 126 [.seq [[.seq (a.map Vl.cells)],[.seq (b.map Vl.cells)]]] st λr S=>∃id,r= .vec id 3 0 (a.length+b.length)/\st id=none/\S=upd st id (some (.arr 54 ((a++b).map Vl.cells))):=by
 have hla:(a.map Vl.cells).length=a.length:=zql _
 have hlb:(b.map Vl.cells).length=b.length:=zql _
 have hg:=aqG (a.length+b.length) (by omega) st
 have z0:sz2 a b 0=0:=rfl
 have z1:sz2 a b 1=a.length:=rfl
 have z2:sz2 a b 2=a.length+b.length:=rfl
 have c0:([[PV.seq (a.map Vl.cells)],[PV.seq (b.map Vl.cells)]]:List (List PV))[0]?=some [PV.seq (a.map Vl.cells)]:=rfl
 have c1:([[PV.seq (a.map Vl.cells)],[PV.seq (b.map Vl.cells)]]:List (List PV))[1]?=some [PV.seq (b.map Vl.cells)]:=rfl
 refine pC Tryz.func126 rfl ?_
 focus ((repeat' first|apply wDx pk;rfl;kernel_rfl;rfl;rfl|(show Cn (.e _ _ _ _);refine .any ?_;(first|(refine ⟨_,_,_,rfl,zwr _,zsr _, ?_,rfl⟩;(first|rfl))|(refine ⟨_,_,_,rfl,zwr _,aB ‹_›, ?_,rfl⟩;(first|rfl))|(refine ⟨_,_,_,rfl,zwf _,zsr _, ?_,rfl⟩;(first|rfl))|(refine ⟨_,_,_,rfl,zwf _,aB ‹_›, ?_,rfl⟩;(first|rfl))|(refine ⟨_,_,_,rfl,zwr _,zsr _, ?_,rfl⟩)|(refine ⟨_,_,_,rfl,zwf _,aB ‹_›, ?_,rfl⟩)))|apply wZ;rfl|show Cn _;constructor|exact rfl|apply KR.mk;kernel_rfl|apply ncA;rfl;rfl;rfl;rotate_left;rfl;rfl|apply ldR pk;rfl;rfl;rotate_left;rfl;(focus ((repeat (first|exact aA _ _ _|assumption|refine (aC ‹_›).trans ?_));done));rfl;rfl|apply stR pk;rfl;rfl;(focus ((repeat (first|exact aA _ _ _|assumption|refine (aC ‹_›).trans ?_));done));rfl;rfl|omega|intros;omega|simp only [zql];omega|intros;simp only [zql];omega|intros;simp only;omega|intro h;omega|intro h;simp at h;done|intro h;simp at h;omega|(intro h;simp at h)|intro h))
 refine aG (X:={x:Nat//x<=2}) (λi=>((((((St.nil 36 st).pv 0 (.seq [[.seq (a.map Vl.cells)],[.seq (b.map Vl.cells)]])).pv 3 ((vi ((sz2 a b i.1:Nat))))).pv 9 (.seq [[.seq (a.map Vl.cells)],[.seq (b.map Vl.cells)]])).pv 10 ((vi ((2:Nat))))).pv 11 ((vi ((i.1:Nat)))))) (λi=>2-i.1) ⟨0,by omega⟩ ?_ (λi=> ?_)
 ·(repeat' first|show Cn _;constructor|exact rfl)
 obtain ⟨i,hi⟩:=i
 dsimp only
 rcases (show i=0\/i=1\/i=2 by omega) with rfl|rfl|rfl
 ·(repeat' first|(show Cn (.e _ _ _ _);refine .any ?_;(first|(refine ⟨_,_,_,rfl,zwr _,zsr _, ?_,rfl⟩;(first|rfl))|(refine ⟨_,_,_,rfl,zwr _,aB ‹_›, ?_,rfl⟩;(first|rfl))|(refine ⟨_,_,_,rfl,zwf _,zsr _, ?_,rfl⟩;(first|rfl))|(refine ⟨_,_,_,rfl,zwf _,aB ‹_›, ?_,rfl⟩;(first|rfl))|(refine ⟨_,_,_,rfl,zwr _,zsr _, ?_,rfl⟩)|(refine ⟨_,_,_,rfl,zwf _,aB ‹_›, ?_,rfl⟩)))|(show Cn (.r _ _ _);refine .any ?_;(first|(refine ⟨_,_,_,rfl,zwr _,zsr _, ?_,rfl⟩;(first|rfl))|(refine ⟨_,_,_,rfl,zwr _,aB ‹_›, ?_,rfl⟩;(first|rfl))|(refine ⟨_,_,_,rfl,zwf _,zsr _, ?_,rfl⟩;(first|rfl))|(refine ⟨_,_,_,rfl,zwf _,aB ‹_›, ?_,rfl⟩;(first|rfl))|(refine ⟨_,_,_,rfl,zwr _,zsr _, ?_,rfl⟩)|(refine ⟨_,_,_,rfl,zwf _,aB ‹_›, ?_,rfl⟩)))|refine ⟨⟨1,by omega⟩, ?_, ?_⟩;((dsimp only [sz2]))|apply wZ;rfl|show Cn _;constructor|exact rfl|apply KR.mk;kernel_rfl|apply bX pk;(iterate 6 rfl);rotate_left;rfl;(intro hw;rfl);(intro hw;apply c0<;>omega);(intro _;rfl);rfl|(show _=_;(first|rfl|simp;done|simp;omega))|apply wI;rfl|apply gE;omega|apply gE;show 0<_;omega|apply gE;show 1<_;omega|omega|intros;omega|simp only [zql];omega|intros;simp only [zql];omega|intros;simp only;omega|intro h;omega|intro h;simp at h;done|intro h;simp at h;omega|(intro h;simp at h)|intro h)
 ·(repeat' first|(show Cn (.e _ _ _ _);refine .any ?_;(first|(refine ⟨_,_,_,rfl,zwr _,zsr _, ?_,rfl⟩;(first|rfl))|(refine ⟨_,_,_,rfl,zwr _,aB ‹_›, ?_,rfl⟩;(first|rfl))|(refine ⟨_,_,_,rfl,zwf _,zsr _, ?_,rfl⟩;(first|rfl))|(refine ⟨_,_,_,rfl,zwf _,aB ‹_›, ?_,rfl⟩;(first|rfl))|(refine ⟨_,_,_,rfl,zwr _,zsr _, ?_,rfl⟩)|(refine ⟨_,_,_,rfl,zwf _,aB ‹_›, ?_,rfl⟩)))|(show Cn (.r _ _ _);refine .any ?_;(first|(refine ⟨_,_,_,rfl,zwr _,zsr _, ?_,rfl⟩;(first|rfl))|(refine ⟨_,_,_,rfl,zwr _,aB ‹_›, ?_,rfl⟩;(first|rfl))|(refine ⟨_,_,_,rfl,zwf _,zsr _, ?_,rfl⟩;(first|rfl))|(refine ⟨_,_,_,rfl,zwf _,aB ‹_›, ?_,rfl⟩;(first|rfl))|(refine ⟨_,_,_,rfl,zwr _,zsr _, ?_,rfl⟩)|(refine ⟨_,_,_,rfl,zwf _,aB ‹_›, ?_,rfl⟩)))|refine ⟨⟨2,by omega⟩, ?_, ?_⟩;((dsimp only [sz2]))|apply wZ;rfl|show Cn _;constructor|exact rfl|apply KR.mk;kernel_rfl|apply bX pk;(iterate 6 rfl);rotate_left;rfl;(intro hw;rfl);(intro hw;apply c1<;>omega);(intro _;rfl);rfl|(show _=_;(first|rfl|simp;done|simp;omega))|apply wI;rfl|apply gE;omega|apply gE;show 0<_;omega|apply gE;show 1<_;omega|omega|intros;omega|simp only [zql];omega|intros;simp only [zql];omega|intros;simp only;omega|intro h;omega|intro h;simp at h;done|intro h;simp at h;omega|(intro h;simp at h)|intro h)
 ·rw [z2]
  focus ((repeat' first|apply wDx pk;rfl;kernel_rfl;rfl;rfl|(show Cn (.e _ _ _ _);refine .any ?_;(first|(refine ⟨_,_,_,rfl,zwr _,zsr _, ?_,rfl⟩;(first|rfl))|(refine ⟨_,_,_,rfl,zwr _,aB ‹_›, ?_,rfl⟩;(first|rfl))|(refine ⟨_,_,_,rfl,zwf _,zsr _, ?_,rfl⟩;(first|rfl))|(refine ⟨_,_,_,rfl,zwf _,aB ‹_›, ?_,rfl⟩;(first|rfl))|(refine ⟨_,_,_,rfl,zwr _,zsr _, ?_,rfl⟩)|(refine ⟨_,_,_,rfl,zwf _,aB ‹_›, ?_,rfl⟩)))|apply wZ;rfl|show Cn _;constructor|exact rfl|apply KR.mk;kernel_rfl|apply ncA;rfl;rfl;rfl;rotate_left;rfl;rfl|apply ldR pk;rfl;rfl;rotate_left;rfl;(focus ((repeat (first|exact aA _ _ _|assumption|refine (aC ‹_›).trans ?_));done));rfl;rfl|apply stR pk;rfl;rfl;(focus ((repeat (first|exact aA _ _ _|assumption|refine (aC ‹_›).trans ?_));done));rfl;rfl|((apply eE;rfl;rfl;exact hg;rfl;rfl;rfl;intro _ st' hR;obtain ⟨id,rfl,hid,rfl⟩:=hR))|omega|intros;omega|simp only [zql];omega|intros;simp only [zql];omega|intros;simp only;omega|intro h;omega|intro h;simp at h;done|intro h;simp at h;omega|(intro h;simp at h)|intro h))
  refine aG (X:={x:Nat×Nat//x.1<=2/\st x.2=none}) (λy=>(((((St.nil 36 (upd st y.1.2 (some (.arr 54 ((aoK a b y.1.1).map Vl.cells))))).pv 6 (.vec y.1.2 3 0 (sz2 a b y.1.1))).pv 25 (.seq [[.seq (a.map Vl.cells)],[.seq (b.map Vl.cells)]])).pv 26 ((vi ((2:Nat))))).pv 27 ((vi ((y.1.1:Nat)))))) (λy=>2-y.1.1) ⟨(0,id),by simp,hid⟩ ?_ (λy=> ?_)
  ·dsimp only
   (repeat' first|show Cn (.t _ _);exact Cn.t0|show Cn (.t _ _);exact .any (aJ ‹_›)|(show Cn (.t _ _);exact .any (aI (by (first|rfl|exact aL ‹_›|((simp only [St.pv,St.put,St.sst,St.setv,St.nil,St.var,aH]);(first|done|rfl))))))|(show Cn (.t _ _);refine .any (aI ?_);(simp only [St.pv,St.put,St.sst,St.setv,St.nil,St.var,aH]);(rw [dA ‹_›]);(first|done|rfl))|show Cn _;constructor|exact rfl)
  obtain ⟨⟨y,id⟩,hy,hid⟩:=y
  simp only at hy hid
  dsimp only
  rcases (show y=0\/y=1\/y=2 by omega) with rfl|rfl|rfl
  ·show PWp _ _ _ _
   (repeat' first|(show Cn (.e _ _ _ _);refine .any ?_;(first|(refine ⟨_,_,_,rfl,zwr _,zsr _, ?_,rfl⟩;(first|rfl))|(refine ⟨_,_,_,rfl,zwr _,aB ‹_›, ?_,rfl⟩;(first|rfl))|(refine ⟨_,_,_,rfl,zwf _,zsr _, ?_,rfl⟩;(first|rfl))|(refine ⟨_,_,_,rfl,zwf _,aB ‹_›, ?_,rfl⟩;(first|rfl))|(refine ⟨_,_,_,rfl,zwr _,zsr _, ?_,rfl⟩)|(refine ⟨_,_,_,rfl,zwf _,aB ‹_›, ?_,rfl⟩)))|(show Cn (.r _ _ _);refine .any ?_;(first|(refine ⟨_,_,_,rfl,zwr _,zsr _, ?_,rfl⟩;(first|rfl))|(refine ⟨_,_,_,rfl,zwr _,aB ‹_›, ?_,rfl⟩;(first|rfl))|(refine ⟨_,_,_,rfl,zwf _,zsr _, ?_,rfl⟩;(first|rfl))|(refine ⟨_,_,_,rfl,zwf _,aB ‹_›, ?_,rfl⟩;(first|rfl))|(refine ⟨_,_,_,rfl,zwr _,zsr _, ?_,rfl⟩)|(refine ⟨_,_,_,rfl,zwf _,aB ‹_›, ?_,rfl⟩)))|refine ⟨⟨(1,id'),by simp only;omega,bA hid'⟩, ?_, ?_⟩;((dsimp only [sz2,aoK]))|show Cn (.t _ _);exact Cn.t0|show Cn (.t _ _);exact .any (aJ ‹_›)|(show Cn (.t _ _);exact .any (aI (by (first|rfl|exact aL ‹_›|((simp only [St.pv,St.put,St.sst,St.setv,St.nil,St.var,aH]);(first|done|rfl))))))|(show Cn (.t _ _);refine .any (aI ?_);(simp only [St.pv,St.put,St.sst,St.setv,St.nil,St.var,aH]);(rw [dA ‹_›]);(first|done|rfl))|apply wZ;rfl|show Cn _;constructor|exact rfl|apply KR.mk;kernel_rfl|apply bX pk;(iterate 6 rfl);rotate_left;rfl;(intro hw;rfl);(intro hw;apply c0<;>omega);(intro _;rfl);rfl|(show _=_;(first|rfl|simp))|(apply apV pk (f:=Vl.cells) a 32;(iterate 9 rfl);(focus ((repeat (first|exact aA _ _ _|assumption|refine (aC ‹_›).trans ?_));done));(first|omega|assumption|(focus (simp;done))|(focus (simp;omega))|(focus (simp at*;omega)));exact λ_=>rfl;exact λ_=>rfl;exact iA;(first|omega|assumption|(focus (simp;done))|(focus (simp;omega))|(focus (simp at*;omega)));(first|omega|assumption|(focus (simp;done))|(focus (simp;omega))|(focus (simp at*;omega)));rfl;intro id' hid')|(apply ap0 pk (f:=Vl.cells) a 32;(iterate 10 rfl);exact λ_=>rfl;exact λ_=>rfl;exact iA;(first|omega|assumption|(focus (simp;done))|(focus (simp;omega))|(focus (simp at*;omega)));(first|omega|assumption|(focus (simp;done))|(focus (simp;omega))|(focus (simp at*;omega)));rfl;intro id' hid')|apply wI;rfl|apply gE;omega|apply gE;show 0<_;omega|apply gE;show 1<_;omega|omega|intros;omega|simp only [zql];omega|intros;simp only [zql];omega|intros;simp only;omega|intro h;omega|intro h;simp at h;done|intro h;simp at h;omega|(intro h;simp at h)|intro h)
  ·show PWp _ _ _ _
   (repeat' first|(show Cn (.e _ _ _ _);refine .any ?_;(first|(refine ⟨_,_,_,rfl,zwr _,zsr _, ?_,rfl⟩;(first|rfl))|(refine ⟨_,_,_,rfl,zwr _,aB ‹_›, ?_,rfl⟩;(first|rfl))|(refine ⟨_,_,_,rfl,zwf _,zsr _, ?_,rfl⟩;(first|rfl))|(refine ⟨_,_,_,rfl,zwf _,aB ‹_›, ?_,rfl⟩;(first|rfl))|(refine ⟨_,_,_,rfl,zwr _,zsr _, ?_,rfl⟩)|(refine ⟨_,_,_,rfl,zwf _,aB ‹_›, ?_,rfl⟩)))|(show Cn (.r _ _ _);refine .any ?_;(first|(refine ⟨_,_,_,rfl,zwr _,zsr _, ?_,rfl⟩;(first|rfl))|(refine ⟨_,_,_,rfl,zwr _,aB ‹_›, ?_,rfl⟩;(first|rfl))|(refine ⟨_,_,_,rfl,zwf _,zsr _, ?_,rfl⟩;(first|rfl))|(refine ⟨_,_,_,rfl,zwf _,aB ‹_›, ?_,rfl⟩;(first|rfl))|(refine ⟨_,_,_,rfl,zwr _,zsr _, ?_,rfl⟩)|(refine ⟨_,_,_,rfl,zwf _,aB ‹_›, ?_,rfl⟩)))|refine ⟨⟨(2,id'),by simp only;omega,bA hid'⟩, ?_, ?_⟩;((dsimp only [sz2,aoK]))|show Cn (.t _ _);exact Cn.t0|show Cn (.t _ _);exact .any (aJ ‹_›)|(show Cn (.t _ _);exact .any (aI (by (first|rfl|exact aL ‹_›|((simp only [St.pv,St.put,St.sst,St.setv,St.nil,St.var,aH]);(first|done|rfl))))))|(show Cn (.t _ _);refine .any (aI ?_);(simp only [St.pv,St.put,St.sst,St.setv,St.nil,St.var,aH]);(rw [dA ‹_›]);(first|done|rfl))|apply wZ;rfl|show Cn _;constructor|exact rfl|apply KR.mk;kernel_rfl|apply bX pk;(iterate 6 rfl);rotate_left;rfl;(intro hw;rfl);(intro hw;apply c1<;>omega);(intro _;rfl);rfl|(show _=_;(first|rfl|simp))|(apply apV pk (f:=Vl.cells) b 32;(iterate 9 rfl);(focus ((repeat (first|exact aA _ _ _|assumption|refine (aC ‹_›).trans ?_));done));(first|omega|assumption|(focus (simp;done))|(focus (simp;omega))|(focus (simp at*;omega)));exact λ_=>rfl;exact λ_=>rfl;exact iA;(first|omega|assumption|(focus (simp;done))|(focus (simp;omega))|(focus (simp at*;omega)));(first|omega|assumption|(focus (simp;done))|(focus (simp;omega))|(focus (simp at*;omega)));rfl;intro id' hid')|(apply ap0 pk (f:=Vl.cells) b 32;(iterate 10 rfl);exact λ_=>rfl;exact λ_=>rfl;exact iA;(first|omega|assumption|(focus (simp;done))|(focus (simp;omega))|(focus (simp at*;omega)));(first|omega|assumption|(focus (simp;done))|(focus (simp;omega))|(focus (simp at*;omega)));rfl;intro id' hid')|apply wI;rfl|apply gE;omega|apply gE;show 0<_;omega|apply gE;show 1<_;omega|omega|intros;omega|simp only [zql];omega|intros;simp only [zql];omega|intros;simp only;omega|intro h;omega|intro h;simp at h;done|intro h;simp at h;omega|(intro h;simp at h)|intro h)
  ·(repeat' first|apply wDx pk;rfl;kernel_rfl;rfl;rfl|(show Cn (.e _ _ _ _);refine .any ?_;(first|(refine ⟨_,_,_,rfl,zwr _,zsr _, ?_,rfl⟩;(first|rfl))|(refine ⟨_,_,_,rfl,zwr _,aB ‹_›, ?_,rfl⟩;(first|rfl))|(refine ⟨_,_,_,rfl,zwf _,zsr _, ?_,rfl⟩;(first|rfl))|(refine ⟨_,_,_,rfl,zwf _,aB ‹_›, ?_,rfl⟩;(first|rfl))|(refine ⟨_,_,_,rfl,zwr _,zsr _, ?_,rfl⟩)|(refine ⟨_,_,_,rfl,zwf _,aB ‹_›, ?_,rfl⟩)))|show Cn (.r _ _ _);refine .rr ?_;(exact ⟨id,rfl,hid,rfl⟩);done|show Cn (.r _ _ _);refine .any ⟨_,_, ?zs,rfl,zwr _, ?zh, ?zr⟩;(case zh=>(refine aF ?_ ‹_›;(repeat refine aF ?_ ‹_›);exact zsr _));(case zr=>(exact ⟨id,rfl,hid,rfl⟩))|apply wZ;rfl|show Cn _;constructor|exact rfl|apply KR.mk;kernel_rfl|apply ncA;rfl;rfl;rfl;rotate_left;rfl;rfl|apply ldR pk;rfl;rfl;rotate_left;rfl;(focus ((repeat (first|exact aA _ _ _|assumption|refine (aC ‹_›).trans ?_));done));rfl;rfl|apply stR pk;rfl;rfl;(focus ((repeat (first|exact aA _ _ _|assumption|refine (aC ‹_›).trans ?_));done));rfl;rfl|omega|intros;omega|simp only [zql];omega|intros;simp only [zql];omega|intros;simp only;omega|intro h;omega|intro h;simp at h;done|intro h;simp at h;omega|(intro h;simp at h)|intro h)
theorem apH (a b:Dt):PF Tryz.prog 133 [.agg a.cells, .agg b.cells] (vi (byD a b)):=by
 have h1:=dT a.dev b.dev
 have h2:=dT a.seq b.seq
 have h3:=qB [eG a.dev b.dev,eG a.seq b.seq] (by simp)
 unfold byD
 generalize eG a.dev b.dev=A at*
 generalize eG a.seq b.seq=B at*
 refine pF Tryz.func133 rfl (λst=> ?_)
 (repeat' first|(show Cn (.r _ _ _);refine .any ⟨_,_,_,rfl,zwr _,zsr _, ?_,rfl⟩;try rfl)|apply wZ;rfl|show Cn _;constructor|exact rfl|apply KR.mk;kernel_rfl|((first|apply h1|apply h2|apply h3)<;>(first|assumption|omega))|apply wY;rfl|omega|intros;omega|simp only [zql];omega|intros;simp only [zql];omega|intros;simp only;omega|intro h;omega|intro h;simp at h;done|intro h;simp at h;omega|(intro h;simp at h)|intro h)
theorem amK (a b:Dt):PF Tryz.prog 33 [.agg a.cells, .agg b.cells] (vi (byD a b)):=by
 have h1:=dT a.dev b.dev
 have h2:=dT a.seq b.seq
 have h3:=qB [eG a.dev b.dev,eG a.seq b.seq] (by simp)
 unfold byD
 generalize eG a.dev b.dev=A at*
 generalize eG a.seq b.seq=B at*
 refine pF Tryz.func33 rfl (λst=> ?_)
 (repeat' first|(show Cn (.r _ _ _);refine .any ⟨_,_,_,rfl,zwr _,zsr _, ?_,rfl⟩;try rfl)|apply wZ;rfl|show Cn _;constructor|exact rfl|apply KR.mk;kernel_rfl|((first|apply h1|apply h2|apply h3)<;>(first|assumption|omega))|apply wY;rfl|omega|intros;omega|simp only [zql];omega|intros;simp only [zql];omega|intros;simp only;omega|intro h;omega|intro h;simp at h;done|intro h;simp at h;omega|(intro h;simp at h)|intro h)
theorem afE {gf:FuncId} (hg:eD Tryz.prog gf=true) (hc:∀a b:Dt,PF Tryz.prog gf [.agg a.cells, .agg b.cells] (vi (byD a b))) (l:List Dt) {st:aD} {id n:Nat} (hst:st id=some (.arr 69 (l.map Dt.cells))) (hn:l.length=n) (h62:n<4611686018427387904):
  PC Tryz.prog 32 [.vec id 2 0 n, .fn gf []] st λ_ S=>∃r:List Dt,S=upd st id (some (.arr 69 (r.map Dt.cells)))/\r.Perm l/\r.Pairwise λx y=>ltD y x=false:=by
 have:=afS (P:=Tryz.prog) aC1 (by kernel_rfl) (k:=2) Tryz.isAgg69 Tryz.sizeOf69 (enc:=λx:Dt=>[.int .i64 x.dev, .int .i64 x.seq]) (λ_=>rfl) (λx v hv=>by simp only [zmc,List.not_mem_nil,or_false] at hv;rcases hv with rfl|rfl<;>rfl) (cmp:=byD)
  ⟨λx=>by simp only [ltOf,decide_eq_false_iff_not,uD];simp [ltD],λx y z h1 h2=>by simp only [ltOf,zde,uD] at*;simp only [ltD,zde] at*;omega,λx y z h1 h2=>by simp only [ltOf,decide_eq_false_iff_not,uD] at*;simp only [ltD,zde] at*;omega⟩ (gf:=gf) hg (λx y=>hc x y) (st:=st) (id:=id) (n:=n) (d:=l) (e:=69) (by kernel_rfl) hst hn h62
 refine ⟨this.1,λw g vs h1 h2=>(this.2 w g vs h1 h2).mono ?_⟩
 rintro e w' ⟨v,q,S,g',h3,⟨r,hS,hp,hw⟩,h4⟩
 exact ⟨v,q,S,g',h3,⟨r,hS,hp,hw.imp fun {a b} h=>by rw [uD] at h;simpa using h⟩,h4⟩
theorem akN {l r:List Dt} (hp:r.Perm l) (hs:r.Pairwise λa b=>ltD b a=false):eL r.toArray l.length=oL l:=by
 have hl:=hp.length_eq
 have hq:∀i j,i<j->j<r.toArray.size->ltD r.toArray[j]! r.toArray[i]! =false:=λi j hij hj=>by
  have hj:j<r.length:=by simpa using hj
  rw [getElem!_pos r.toArray i (by simp;omega),getElem!_pos r.toArray j (by simpa using hj)]
  have:=List.pairwise_iff_getElem.1 hs i j (by omega) hj hij
  simpa using this
 obtain ⟨h1,_,h3⟩:=aAl hq l.length (by simp [hl])
 refine ajD h1 λx=> ?_
 rw [h3,<-hp.mem_iff]
 constructor
 ·rintro ⟨i,hi,rfl⟩
  rw [getElem!_pos r.toArray i (by simp;omega)]
  simp
 ·intro hx
  obtain ⟨i,hi,rfl⟩:=zgo hx
  exact ⟨i,by omega,by rw [getElem!_pos r.toArray i (by simpa using hi)];simp⟩
theorem atX (a b:List Dt) (h:a.length+b.length<100000000000) (st:aD):PC Tryz.prog 82 [.seq (a.map Dt.cells), .seq (b.map Dt.cells)] st λr S=>∃id rows,r= .vec id 2 0 (jS a b).length/\st id=none/\S=upd st id (some (.arr 69 rows))/\rows.take (jS a b).length=(jS a b).map Dt.cells:=by
 have hcat:=aeN a b h st
 have hs:=λid=>afE (gf:=133) (by kernel_rfl) apH (a++b) (st:=upd st id (some (.arr 69 ((a++b).map Dt.cells)))) (id:=id) (n:=a.length+b.length) (aA _ _ _) (by simp) (by omega)
 have hcm:=λid (r:List Dt) (hr:r.length=a.length+b.length)=>tM r.toArray (st:=upd st id (some (.arr 69 (r.map Dt.cells)))) (id:=id) (n:=a.length+b.length) (by simpa using aA _ _ _) (by simpa using hr) (by omega)
 refine pC Tryz.func82 rfl ?_
 (repeat' first|apply wDx pk;rfl;kernel_rfl;rfl;rfl|(show Cn (.e _ _ _ _);refine .any ?_;(first|(refine ⟨_,_,_,rfl,zwr _,zsr _, ?_,rfl⟩;(first|rfl))|(refine ⟨_,_,_,rfl,zwr _,aB ‹_›, ?_,rfl⟩;(first|rfl))|(refine ⟨_,_,_,rfl,zwf _,zsr _, ?_,rfl⟩;(first|rfl))|(refine ⟨_,_,_,rfl,zwf _,aB ‹_›, ?_,rfl⟩;(first|rfl))|(refine ⟨_,_,_,rfl,zwr _,zsr _, ?_,rfl⟩)|(refine ⟨_,_,_,rfl,zwf _,aB ‹_›, ?_,rfl⟩)))|show Cn (.r _ _ _);refine .rr ?_;(exact ⟨id,rows,rfl,hid,rfl,h2⟩);done|show Cn (.r _ _ _);refine .any ⟨_,_, ?zs,rfl,zwr _, ?zh, ?zr⟩;(case zh=>(refine aF ?_ ‹_›;(repeat refine aF ?_ ‹_›);exact zsr _));(case zr=>(exact ⟨id,rows,rfl,hid,rfl,h2⟩))|apply wZ;rfl|show Cn _;constructor|exact rfl|apply KR.mk;kernel_rfl|apply ncA;rfl;rfl;rfl;rotate_left;rfl;rfl|apply ldR pk;rfl;rfl;rotate_left;rfl;(focus ((repeat (first|exact aA _ _ _|assumption|refine (aC ‹_›).trans ?_));done));rfl;rfl|apply stR pk;rfl;rfl;(focus ((repeat (first|exact aA _ _ _|assumption|refine (aC ‹_›).trans ?_));done));rfl;rfl|((apply eE;rfl;rfl;exact hcat;rfl;rfl;rfl;intro _ st' hR;obtain ⟨id,rfl,hid,rfl⟩:=hR))|((apply eE;rfl;rfl;exact hs id;rfl;rfl;rfl;intro _ st' hR;obtain ⟨r,hR,hp,hw⟩:=hR;rw [aH] at hR;subst hR;have hrl:=hp.length_eq;have hE:=akN hp hw;rw [zla] at hrl hE))|((apply eE;rfl;rfl;exact hcm id r hrl;rfl;rfl;rfl;intro _ st' hR;rw [hE] at hR;obtain ⟨rfl,rows,rfl,h1,h2⟩:=hR;rw [aH]))|omega|intros;omega|simp only [zql];omega|intros;simp only [zql];omega|intros;simp only;omega|intro h;omega|intro h;simp at h;done|intro h;simp at h;omega|(intro h;simp at h)|intro h)
theorem pG (a b:List Dt) (h:a.length+b.length<100000000000):PF Tryz.prog 82 [.seq (a.map Dt.cells), .seq (b.map Dt.cells)] (.seq ((jS a b).map Dt.cells)):=λst=>
 eZ (sz:=2) (atX a b h st) λp st' hR=>by
  obtain ⟨id,rows,rfl,h3,rfl,h4⟩:=hR
  refine .inl ⟨id,69,rows,_,st,aA _ _ _,acF, ?_,cY h3,rfl,rfl⟩
  rw [<-h4]
  exact .vec
theorem yJ (a b:List Vl) (h:a.length+b.length<100000000000):PF Tryz.prog 126 [.seq [[.seq (a.map Vl.cells)],[.seq (b.map Vl.cells)]]] (.seq ((a++b).map Vl.cells)):=λst=>
 eZ (sz:=3) (aeX a b h st) λp st' hR=>by
  obtain ⟨id,rfl,h3,rfl⟩:=hR
  exact .inl ⟨id,54,(a++b).map Vl.cells,_,st,aA _ _ _,jH,eH (by simp),cY h3,rfl,rfl⟩
structure Opn (J:List Wd->(Nat->Prop)->aD->Prop):Prop where
 new:∀{p E S e o},J p E S->S e=none->J p (λj=>E j\/j=e) (upd S e (some o))
 set:∀{p E S e o},J p E S->E e->J p E (upd S e (some o))
 del:∀{p E F S e},J p E S->E e->(∀j,F j↔E j/\j≠e)->J p F (upd S e none)
 ex:∀{p E S e},J p E S->E e->S e≠none
def xY (fid:FuncId) (caps:List PV) (xs:List Wd):Prop:=
 ∀{idl:Nat} {st:aD} {J:List Wd->(Nat->Prop)->aD->Prop},Opn J->J [] (λ_=>False) st->
  (∀p x E S,(p++[x])<+:xs->J p E S->PY Tryz.prog idl [.agg x.cells] S λr S'=>r=(vb (true))/\J (p++[x]) E S'/\∀e,E e->S' e=S e)->
  PC Tryz.prog fid (.yld idl::caps) st λ_ S=>J xs (λ_=>False) S
theorem amC {α:Type} {l:List α} {i:Nat} (h:i<l.length):(l.take i++[l[i]])<+:l:=by
 rw [<-List.take_succ_eq_append_getElem h];exact List.take_prefix _ _
theorem aBg {E F:Nat->Prop} (h:∀j,E j↔F j):E=F:=funext λj=>propext (h j)
theorem reE {J:List Wd->(Nat->Prop)->aD->Prop} {p:List Wd} {S:aD} {E F:Nat->Prop} (h:J p E S) (q:∀j,E j↔F j):J p F S:=aBg q▸h
def qV (l:Ln):Wd:=⟨l.cells_.map jK,l.by_⟩
def eV (b:Bs) (k:Nat):List Wd:=(aU b (k:Int)).map qV
def fK (l r:Nat) (x y:Wd):Option Wd:=if x.row[l]!.kind=0\/eM x.row[l]! y.row[r]! =false then none else some ⟨x.row++y.row,jS x.by_ y.by_⟩
def dS (l r:Nat) (xs ys:List Wd):List Wd:=xs.flatMap λx=>ys.filterMap (fK l r x)
theorem asT (l r:Nat) (p:List Wd) (x:Wd) (ys:List Wd):dS l r (p++[x]) ys=dS l r p ys++ys.filterMap (fK l r x):=by
 unfold dS;rw [List.flatMap_append];simp
theorem awH {l r:Nat} {p xs q ys:List Wd} {x y z:Wd} (h1:(p++[x])<+:xs) (h2:(q++[y])<+:ys) (h:fK l r x y=some z):(dS l r p ys++q.filterMap (fK l r x)++[z])<+:dS l r xs ys:=by
 obtain ⟨t,rfl⟩:=h1
 obtain ⟨u,rfl⟩:=h2
 refine ⟨u.filterMap (fK l r x)++dS l r t (q++[y]++u), ?_⟩
 unfold dS
 simp [List.flatMap_append,List.filterMap_append,h]
theorem aeL (l:List Wd):PF Tryz.prog 78 [.seq (l.map Wd.cells)] (.fn 127 [.rp [.seq (l.map Wd.cells)]]):=by
 refine pF Tryz.func78 rfl (λst=> ?_)
 (repeat' first|(show Cn (.r _ _ _);refine .any ⟨_,_,_,rfl,zwr _,zsr _, ?_,rfl⟩;try rfl)|apply wZ;rfl|show Cn _;constructor|exact rfl|apply KR.mk;kernel_rfl|apply aQ 1;rfl;rfl|omega|intros;omega|simp only [zql];omega|intros;simp only [zql];omega|intros;simp only;omega|intro h;omega|intro h;simp at h;done|intro h;simp at h;omega|(intro h;simp at h)|intro h)
theorem afD (l:List Wd) (hl:l.length<1000000000):xY 127 [.rp [.seq (l.map Wd.cells)]] l:=by
 intro idl st J hO h0 h1
 show PC Tryz.prog 127 [.yld idl, .rp [.seq (l.map Wd.cells)]] st _
 refine pC Tryz.func127 rfl ?_
 focus ((repeat' first|(show Cn (.r _ _ _);refine .any ⟨_,_,_,rfl,zwr _,zsr _, ?_,rfl⟩;try rfl)|apply wZ;rfl|show Cn _;constructor|exact rfl|apply KR.mk;kernel_rfl|omega|intros;omega|simp only [zql];omega|intros;simp only [zql];omega|intros;simp only;omega|intro h;omega|intro h;simp at h;done|intro h;simp at h;omega|(intro h;simp at h)|intro h))
 refine aG (X:={x:Nat×aD//x.1<=l.length/\J (l.take x.1) (λ_=>False) x.2}) (λi=>(((((St.nil 16 (i.1.2)).pv 0 (.yld idl)).pv 5 (.seq (l.map Wd.cells))).pv 6 ((vi (((l.map Wd.cells).length:Nat))))).pv 7 ((vi ((i.1.1:Nat)))))) (λi=>l.length-i.1.1) ⟨(0,st),by simp,h0⟩ ?_ (λi=> ?_)
 ·(repeat' first|show Cn (.t _ _);exact Cn.t0|show Cn (.t _ _);exact .any (aJ ‹_›)|(show Cn (.t _ _);exact .any (aI (by (first|rfl|exact aL ‹_›|((simp only [St.pv,St.put,St.sst,St.setv,St.nil,St.var,aH]);(first|done|rfl))))))|(show Cn (.t _ _);refine .any (aI ?_);(simp only [St.pv,St.put,St.sst,St.setv,St.nil,St.var,aH]);(rw [dA ‹_›]);(first|done|rfl))|show Cn _;constructor|exact rfl)
 obtain ⟨⟨i,S⟩,hi,hJ⟩:=i
 simp only at hi hJ
 dsimp only
 by_cases hend:l.length<=i
 ·have e:i=l.length:=by omega
  rw [e,List.take_length] at hJ
  (repeat' first|apply wDx pk;rfl;kernel_rfl;rfl;rfl|(show Cn (.e _ _ _ _);refine .any ?_;(first|(refine ⟨_,_,_,rfl,zwr _,zsr _, ?_,rfl⟩;(first|rfl))|(refine ⟨_,_,_,rfl,zwr _,aB ‹_›, ?_,rfl⟩;(first|rfl))|(refine ⟨_,_,_,rfl,zwf _,zsr _, ?_,rfl⟩;(first|rfl))|(refine ⟨_,_,_,rfl,zwf _,aB ‹_›, ?_,rfl⟩;(first|rfl))|(refine ⟨_,_,_,rfl,zwr _,zsr _, ?_,rfl⟩)|(refine ⟨_,_,_,rfl,zwf _,aB ‹_›, ?_,rfl⟩)))|show Cn (.r _ _ _);refine .rr ?_;(exact hJ);done|show Cn (.r _ _ _);refine .any ⟨_,_, ?zs,rfl,zwr _, ?zh, ?zr⟩;(case zh=>(refine aF ?_ ‹_›;(repeat refine aF ?_ ‹_›);exact zsr _));(case zr=>(exact hJ))|apply wZ;rfl|show Cn _;constructor|exact rfl|apply KR.mk;kernel_rfl|apply ncA;rfl;rfl;rfl;rotate_left;rfl;rfl|apply ldR pk;rfl;rfl;rotate_left;rfl;(focus ((repeat (first|exact aA _ _ _|assumption|refine (aC ‹_›).trans ?_));done));rfl;rfl|apply stR pk;rfl;rfl;(focus ((repeat (first|exact aA _ _ _|assumption|refine (aC ‹_›).trans ?_));done));rfl;rfl|omega|intros;omega|simp only [zql];omega|intros;simp only [zql];omega|intros;simp only;omega|intro h;omega|intro h;simp at h;done|intro h;simp at h;omega|(intro h;simp at h)|intro h)
 have hil:i<l.length:=by omega
 have hy:=h1 _ _ _ S (amC hil) hJ
 rw [<-List.take_succ_eq_append_getElem hil] at hy
 (repeat' first|(show Cn (.e _ _ _ _);refine .any ?_;(first|(refine ⟨_,_,_,rfl,zwr _,zsr _, ?_,rfl⟩;(first|rfl))|(refine ⟨_,_,_,rfl,zwr _,aB ‹_›, ?_,rfl⟩;(first|rfl))|(refine ⟨_,_,_,rfl,zwf _,zsr _, ?_,rfl⟩;(first|rfl))|(refine ⟨_,_,_,rfl,zwf _,aB ‹_›, ?_,rfl⟩;(first|rfl))|(refine ⟨_,_,_,rfl,zwr _,zsr _, ?_,rfl⟩)|(refine ⟨_,_,_,rfl,zwf _,aB ‹_›, ?_,rfl⟩)))|(show Cn (.r _ _ _);refine .any ?_;(first|(refine ⟨_,_,_,rfl,zwr _,zsr _, ?_,rfl⟩;(first|rfl))|(refine ⟨_,_,_,rfl,zwr _,aB ‹_›, ?_,rfl⟩;(first|rfl))|(refine ⟨_,_,_,rfl,zwf _,zsr _, ?_,rfl⟩;(first|rfl))|(refine ⟨_,_,_,rfl,zwf _,aB ‹_›, ?_,rfl⟩;(first|rfl))|(refine ⟨_,_,_,rfl,zwr _,zsr _, ?_,rfl⟩)|(refine ⟨_,_,_,rfl,zwf _,aB ‹_›, ?_,rfl⟩)))|(refine ⟨⟨(i+1,S'),by simp only;omega,hJ'⟩, ?_, ?_⟩)|apply wZ;rfl|show Cn _;constructor|exact rfl|apply KR.mk;kernel_rfl|(apply ahC;rfl;rfl;exact hy;rfl;rfl;rfl;rintro _ S' ⟨rfl,hJ',_⟩)|apply wI;rfl|apply gE;omega|apply gE;show 0<_;omega|apply gE;show 1<_;omega|omega|intros;omega|simp only [zql];omega|intros;simp only [zql];omega|intros;simp only;omega|intro h;omega|intro h;simp at h;done|intro h;simp at h;omega|(intro h;simp at h)|intro h)
theorem zQ (b:Bs) (k:Int):PF Tryz.prog 76 [.agg (bsC b),(vi (k))] (.fn 124 [.rp (bsC b), .rp [(vi (k))]]):=by
 refine pF Tryz.func76 rfl (λst=> ?_)
 (repeat' first|(show Cn (.r _ _ _);refine .any ⟨_,_,_,rfl,zwr _,zsr _, ?_,rfl⟩;try rfl)|apply wZ;rfl|show Cn _;constructor|exact rfl|apply KR.mk;kernel_rfl|apply aQ 2;rfl;rfl|apply aQ 3;rfl;rfl|omega|intros;omega|simp only [zql];omega|intros;simp only [zql];omega|intros;simp only;omega|intro h;omega|intro h;simp at h;done|intro h;simp at h;omega|(intro h;simp at h)|intro h)
theorem aoI {b:Bs} {k:Nat} (hk:k<b.length) (hl:b[k].lines.length<1000000000) (hc:∀l∈b[k].lines,l.cells_.length<1000000000000/\∀c∈l.cells_,aiE jK c):xY 124 [.rp (bsC b), .rp [(vi ((k:Nat)))]] (eV b k):=by
 unfold eV
 rw [lU hk]
 intro idl st J hO h0 h1
 show PC Tryz.prog 124 [.yld idl, .rp (bsC b), .rp [(vi ((k:Nat)))]] st _
 refine pC Tryz.func124 rfl ?_
 focus ((repeat' first|(show Cn (.e _ _ _ _);refine .any ?_;(first|(refine ⟨_,_,_,rfl,zwr _,zsr _, ?_,rfl⟩;(first|rfl))|(refine ⟨_,_,_,rfl,zwr _,aB ‹_›, ?_,rfl⟩;(first|rfl))|(refine ⟨_,_,_,rfl,zwf _,zsr _, ?_,rfl⟩;(first|rfl))|(refine ⟨_,_,_,rfl,zwf _,aB ‹_›, ?_,rfl⟩;(first|rfl))|(refine ⟨_,_,_,rfl,zwr _,zsr _, ?_,rfl⟩)|(refine ⟨_,_,_,rfl,zwf _,aB ‹_›, ?_,rfl⟩)))|(show Cn (.r _ _ _);refine .any ?_;(first|(refine ⟨_,_,_,rfl,zwr _,zsr _, ?_,rfl⟩;(first|rfl))|(refine ⟨_,_,_,rfl,zwr _,aB ‹_›, ?_,rfl⟩;(first|rfl))|(refine ⟨_,_,_,rfl,zwf _,zsr _, ?_,rfl⟩;(first|rfl))|(refine ⟨_,_,_,rfl,zwf _,aB ‹_›, ?_,rfl⟩;(first|rfl))|(refine ⟨_,_,_,rfl,zwr _,zsr _, ?_,rfl⟩)|(refine ⟨_,_,_,rfl,zwf _,aB ‹_›, ?_,rfl⟩)))|apply wZ;rfl|show Cn _;constructor|exact rfl|apply KR.mk;kernel_rfl|apply wI;rfl|apply gE;omega|apply gE;show 0<_;omega|apply gE;show 1<_;omega|omega|intros;omega|simp only [zql];omega|intros;simp only [zql];omega|intros;simp only;omega|intro h;omega|intro h;simp at h;done|intro h;simp at h;omega|(intro h;simp at h)|intro h))
 refine aG (X:={x:Nat×aD//x.1<=b[k].lines.length/\J ((b[k].lines.take x.1).map qV) (λ_=>False) x.2}) (λi=>(((((St.nil 26 (i.1.2)).pv 0 (.yld idl)).pv 11 (.seq (b[k].lines.map Ln.cells))).pv 12 ((vi (((b[k].lines.map Ln.cells).length:Nat))))).pv 13 ((vi ((i.1.1:Nat)))))) (λi=>b[k].lines.length-i.1.1) ⟨(0,st),by simp,h0⟩ ?_ (λi=> ?_)
 ·(repeat' first|show Cn (.t _ _);exact Cn.t0|show Cn (.t _ _);exact .any (aJ ‹_›)|(show Cn (.t _ _);exact .any (aI (by (first|rfl|exact aL ‹_›|((simp only [St.pv,St.put,St.sst,St.setv,St.nil,St.var,aH]);(first|done|rfl))))))|(show Cn (.t _ _);refine .any (aI ?_);(simp only [St.pv,St.put,St.sst,St.setv,St.nil,St.var,aH]);(rw [dA ‹_›]);(first|done|rfl))|show Cn _;constructor|exact rfl)
 obtain ⟨⟨i,S⟩,hi,hJ⟩:=i
 simp only at hi hJ
 dsimp only
 by_cases hend:b[k].lines.length<=i
 ·have e:i=b[k].lines.length:=by omega
  rw [e,List.take_length] at hJ
  (repeat' first|apply wDx pk;rfl;kernel_rfl;rfl;rfl|(show Cn (.e _ _ _ _);refine .any ?_;(first|(refine ⟨_,_,_,rfl,zwr _,zsr _, ?_,rfl⟩;(first|rfl))|(refine ⟨_,_,_,rfl,zwr _,aB ‹_›, ?_,rfl⟩;(first|rfl))|(refine ⟨_,_,_,rfl,zwf _,zsr _, ?_,rfl⟩;(first|rfl))|(refine ⟨_,_,_,rfl,zwf _,aB ‹_›, ?_,rfl⟩;(first|rfl))|(refine ⟨_,_,_,rfl,zwr _,zsr _, ?_,rfl⟩)|(refine ⟨_,_,_,rfl,zwf _,aB ‹_›, ?_,rfl⟩)))|show Cn (.r _ _ _);refine .rr ?_;(exact hJ);done|show Cn (.r _ _ _);refine .any ⟨_,_, ?zs,rfl,zwr _, ?zh, ?zr⟩;(case zh=>(refine aF ?_ ‹_›;(repeat refine aF ?_ ‹_›);exact zsr _));(case zr=>(exact hJ))|apply wZ;rfl|show Cn _;constructor|exact rfl|apply KR.mk;kernel_rfl|apply ncA;rfl;rfl;rfl;rotate_left;rfl;rfl|apply ldR pk;rfl;rfl;rotate_left;rfl;(focus ((repeat (first|exact aA _ _ _|assumption|refine (aC ‹_›).trans ?_));done));rfl;rfl|apply stR pk;rfl;rfl;(focus ((repeat (first|exact aA _ _ _|assumption|refine (aC ‹_›).trans ?_));done));rfl;rfl|omega|intros;omega|simp only [zql];omega|intros;simp only [zql];omega|intros;simp only;omega|intro h;omega|intro h;simp at h;done|intro h;simp at h;omega|(intro h;simp at h)|intro h)
 have hil:i<b[k].lines.length:=by omega
 have hpre:((b[k].lines.take i).map qV++[qV b[k].lines[i]])<+:b[k].lines.map qV:=by
  have:=amC (l:=b[k].lines.map qV) (i:=i) (by rw [zql];exact hil)
  rwa [<-List.map_take,List.getElem_map] at this
 have hy:=h1 _ _ _ S hpre hJ
 have hup:(b[k].lines.take i).map qV++[qV b[k].lines[i]]=(b[k].lines.take (i+1)).map qV:=by rw [List.take_succ_eq_append_getElem hil,List.map_append];rfl
 rw [hup] at hy
 obtain ⟨hc1,hc2⟩:=hc _ (zgm hil)
 have hr:=afU jK b[k].lines[i] hc1 hc2
 (repeat' first|apply wD pk [6] [];kernel_rfl;rfl;rfl|(show Cn (.e _ _ _ _);refine .any ?_;(first|(refine ⟨_,_,_,rfl,zwr _,zsr _, ?_,rfl⟩;(first|rfl))|(refine ⟨_,_,_,rfl,zwr _,aB ‹_›, ?_,rfl⟩;(first|rfl))|(refine ⟨_,_,_,rfl,zwf _,zsr _, ?_,rfl⟩;(first|rfl))|(refine ⟨_,_,_,rfl,zwf _,aB ‹_›, ?_,rfl⟩;(first|rfl))|(refine ⟨_,_,_,rfl,zwr _,zsr _, ?_,rfl⟩)|(refine ⟨_,_,_,rfl,zwf _,aB ‹_›, ?_,rfl⟩)))|(show Cn (.r _ _ _);refine .any ?_;(first|(refine ⟨_,_,_,rfl,zwr _,zsr _, ?_,rfl⟩;(first|rfl))|(refine ⟨_,_,_,rfl,zwr _,aB ‹_›, ?_,rfl⟩;(first|rfl))|(refine ⟨_,_,_,rfl,zwf _,zsr _, ?_,rfl⟩;(first|rfl))|(refine ⟨_,_,_,rfl,zwf _,aB ‹_›, ?_,rfl⟩;(first|rfl))|(refine ⟨_,_,_,rfl,zwr _,zsr _, ?_,rfl⟩)|(refine ⟨_,_,_,rfl,zwf _,aB ‹_›, ?_,rfl⟩)))|(refine ⟨⟨(i+1,S'),by simp only;omega,hJ'⟩, ?_, ?_⟩)|apply wZ;rfl|show Cn _;constructor|exact rfl|apply KR.mk;kernel_rfl|(apply hr<;>(first|assumption|omega))|(apply ahC;rfl;rfl;exact hy;rfl;rfl;rfl;rintro _ S' ⟨rfl,hJ',_⟩)|apply wY;rfl|apply wI;rfl|apply gE;omega|apply gE;show 0<_;omega|apply gE;show 1<_;omega|omega|intros;omega|simp only [zql];omega|intros;simp only [zql];omega|intros;simp only;omega|intro h;omega|intro h;simp at h;done|intro h;simp at h;omega|(intro h;simp at h)|intro h)
end Go.Proofs.YtppdefkgmegipaaGreatDoor
