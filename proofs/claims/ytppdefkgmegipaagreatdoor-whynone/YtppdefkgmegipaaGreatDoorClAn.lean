import Derived.Test.YtppdefkgmegipaaGreatDoorClAm
import Derived.Test.YtppdefkgmegipaaGreatDoorClAi
import Derived.Test.YtppdefkgmegipaaGreatDoorClAj
set_option linter.unusedSimpArgs false
set_option linter.unusedVariables false
namespace Go.Proofs.YtppdefkgmegipaaGreatDoor
open Go Go.Abs
attribute [local irreducible] Ev PWp
set_option maxRecDepth 10000
set_option maxHeartbeats 4000000
def fN (b:Bs) (q:Qu) (i:Nat):List Wd:=(q.joins.take i).foldl (λl j=>dS j.left.toNat j.right.toNat l (eV b j.table.toNat)) (eV b q.table.toNat)
def mP (b:Bs) (q:Qu):List Wd:=fN b q q.joins.length
theorem qT {b:Bs} {q:Qu} {i:Nat} (h:i<q.joins.length):fN b q (i+1)=dS q.joins[i].left.toNat q.joins[i].right.toNat (fN b q i) (eV b q.joins[i].table.toNat):=by
 unfold fN
 rw [List.take_succ_eq_append_getElem h,List.foldl_append];rfl
def LnR (b:Bs) (k:Int):Prop:=0<=k/\∃h:k.toNat<b.length,b[k.toNat].lines.length<20000/\∀l∈b[k.toNat].lines,l.cells_.length<1000000/\l.by_.length<1000000000/\∀c∈l.cells_,aiE jK c
structure WdOK (b:Bs) (q:Qu):Prop where
 jl:q.joins.length<1000
 tab:LnR b q.table
 jt:∀i (h:i<q.joins.length),LnR b q.joins[i].table/\0<=q.joins[i].left/\0<=q.joins[i].right/\(∀x∈fN b q i,q.joins[i].left<x.row.length)/\∀y∈eV b q.joins[i].table.toNat,q.joins[i].right<y.row.length
 len:∀i≤q.joins.length,(fN b q i).length<=20000
 sz:∀i≤q.joins.length,∀x∈fN b q i,x.row.length<1000000/\x.by_.length<1000000000
theorem LnR.goes {b:Bs} {k:Int} (h:LnR b k):xY 124 [.rp (bsC b), .rp [(vi (k))]] (eV b k.toNat):=by
 obtain ⟨h0,h1,h2,h3⟩:=h
 have e:((k.toNat:Nat):Int)=k:=by omega
 have:xY 124 [.rp (bsC b), .rp [(vi ((k.toNat:Nat)))]] (eV b k.toNat):=aoI h1 (by omega) λl hl=>⟨by have:=(h3 l hl).1;omega,(h3 l hl).2.2⟩
 rw [e] at this
 exact @this
theorem LnR.sz {b:Bs} {k:Int} (h:LnR b k):∀y∈eV b k.toNat,y.row.length<1000000/\y.by_.length<1000000000:=λy hy=>by
 obtain ⟨h0,h1,h2,h3⟩:=h
 unfold eV at hy
 rw [lU h1] at hy
 obtain ⟨l,hl,rfl⟩:=List.mem_map.1 hy
 obtain ⟨q1,q2,q3⟩:=h3 l hl
 exact ⟨by show (l.cells_.map jK).length<_;rw [zql];exact q1,q2⟩
theorem LnR.len {b:Bs} {k:Int} (h:LnR b k):(eV b k.toNat).length<20000:=by
 obtain ⟨h0,h1,h2,h3⟩:=h
 unfold eV
 rw [lU h1,zql];exact h2
theorem Qu.tab {q:Qu}:q.cells=[(vi (q.table)), .seq (q.joins.map Jn.cells), .seq (q.where_.map X.Ex.cells), .seq (q.group.map X.Ex.cells), .seq (q.outs.map Ou.cells), .seq (q.order.map I1),(vi (q.limit))]:=rfl
theorem azD {st S0:aD} (h:∀U:aD,(∀j,st j≠none->U j=S0 j)->StSub st U) {id:Nat} {a o:Option AObj} (hid:S0 id=none):StSub st (upd (upd S0 id a) id o):=h _ λj hj=>by
 have n:j≠id:=λq=>by
  rcases h S0 (λ_ _=>rfl) j with w|w
  ·exact hj w
  ·rw [q] at w;exact hj (by rw [q];exact w.trans hid)
 rw [aC n,aC n]
theorem atG {st S0:aD} (h:∀U:aD,(∀j,st j≠none->U j=S0 j)->StSub st U) {id:Nat} {o:Option AObj} (hid:st id=none):StSub st (upd S0 id o):=h _ λj hj=>aC λq=>hj (q▸hid)
theorem agU {b:Bs} {q:Qu} (hW:WdOK b q):PF Tryz.prog 46 [.agg (bsC b), .agg q.cells] (.tup [.seq ((mP b q).map Wd.cells),(vi (0))]):=by
 have hs0:=zQ b q.table
 have hc0:=aaW hW.tab.goes (by have:=hW.tab.len;omega)
 have hjl:=hW.jl
 refine pF Tryz.func46 rfl (λst=> ?_)
 focus ((repeat' first|(show Cn (.r _ _ _);refine .any ⟨_,_,_,rfl,zwr _,zsr _, ?_,rfl⟩;try rfl)|apply wZ;rfl|show Cn _;constructor|exact rfl|apply KR.mk;kernel_rfl|((first|apply hs0|apply hc0)<;>(first|assumption|omega))|apply wY;rfl|omega|intros;omega|simp only [zql];omega|intros;simp only [zql];omega|intros;simp only;omega|intro h;omega|intro h;simp at h;done|intro h;simp at h;omega|(intro h;simp at h)|intro h))
 refine aG (X:={x:Nat//x<=q.joins.length}) (λi=>((((((((St.nil 39 st).var 2 27 ((bsC b))).var 4 117 ([.val (.slice none 0 0)])).var 5 59 ([(vi (0))])).pv 6 (.seq ((fN b q i.1).map Wd.cells))).pv 17 (.seq (q.joins.map Jn.cells))).pv 18 ((vi (((q.joins.map Jn.cells).length:Nat))))).pv 19 ((vi ((i.1:Nat)))))) (λi=>q.joins.length-i.1) ⟨0,by omega⟩ ?_ (λi=> ?_)
 ·(repeat' first|show Cn _;constructor|exact rfl)
 obtain ⟨i,hi⟩:=i
 dsimp only
 by_cases hend:q.joins.length<=i
 ·have e:i=q.joins.length:=by omega
  subst e
  (repeat' first|(show Cn (.r _ _ _);refine .any ⟨_,_,_,rfl,zwr _,zsr _, ?_,rfl⟩;try rfl)|apply wZ;rfl|show Cn _;constructor|exact rfl|apply KR.mk;kernel_rfl|omega|intros;omega|simp only [zql];omega|intros;simp only [zql];omega|intros;simp only;omega|intro h;omega|intro h;simp at h;done|intro h;simp at h;omega|(intro h;simp at h)|intro h)
 have hil:i<q.joins.length:=by omega
 have hup:=qT (b:=b) hil
 obtain ⟨hT,hl0,hr0,hxl,hyl⟩:=hW.jt i hil
 have hszx:=hW.sz i (by omega)
 have hszy:=hT.sz
 have hlen0:=hW.len i (by omega)
 have hlen:=hW.len (i+1) (by omega)
 have hrow:(q.joins.map Jn.cells)[i]?=some q.joins[i].cells:=by simp [hil]
 generalize q.joins[i]=j at*
 obtain ⟨tb,lf,rt⟩:=j
 simp only at hup hT hl0 hr0 hxl hyl hszy hrow
 obtain ⟨l,rfl⟩:∃l:Nat,lf=(l:Int):=⟨lf.toNat,by omega⟩
 obtain ⟨r,rfl⟩:∃r:Nat,rt=(r:Int):=⟨rt.toNat,by omega⟩
 rw [Int.toNat_natCast,Int.toNat_natCast] at hup
 have hG:xY 125 [.rp [.fn 127 [.rp [.seq ((fN b q i).map Wd.cells)]]], .rp (bsC b), .rp (Jn.mk tb (l:Nat) (r:Nat)).cells] (dS l r (fN b q i) (eV b tb.toNat)):=acU (b:=b) (tb:=tb) (l:=l) (r:=r) (afD (fN b q i) (by omega)) hT.goes (λx hx=>⟨by have:=hxl x hx;omega,hszx x hx⟩) (λy hy=>⟨by have:=hyl y hy;omega,hszy y hy⟩)
 rw [<-hup] at hG
 clear hup
 generalize hzs:fN b q (i+1)=zs at*
 generalize hxs:fN b q i=xs at*
 have hv:=aeL xs
 have hjs:=acY b ⟨tb,l,r⟩ 127 [.rp [.seq (xs.map Wd.cells)]]
 focus ((repeat' first|apply wDx pk;rfl;kernel_rfl;rfl;rfl|(apply Cn.cf;focus (((first|apply hv|apply hjs)<;>(first|assumption|omega));done))|(apply cV;focus (((first|apply hv|apply hjs)<;>(first|assumption|omega));done))|(show Cn (.e _ _ _ _);refine .any ?_;(first|(refine ⟨_,_,_,rfl,zwr _,zsr _, ?_,rfl⟩;(first|rfl))|(refine ⟨_,_,_,rfl,zwr _,aB ‹_›, ?_,rfl⟩;(first|rfl))|(refine ⟨_,_,_,rfl,zwf _,zsr _, ?_,rfl⟩;(first|rfl))|(refine ⟨_,_,_,rfl,zwf _,aB ‹_›, ?_,rfl⟩;(first|rfl))|(refine ⟨_,_,_,rfl,zwr _,zsr _, ?_,rfl⟩)|(refine ⟨_,_,_,rfl,zwf _,aB ‹_›, ?_,rfl⟩)))|apply wZ;rfl|show Cn _;constructor|exact rfl|apply KR.mk;kernel_rfl|apply bX pk;(iterate 6 rfl);rotate_left;rfl;(intro hw;rfl);(intro hw;apply hrow<;>omega);(intro _;rfl);rfl|apply ncA;rfl;rfl;rfl;rotate_left;rfl;rfl|apply ldR pk;rfl;rfl;rotate_left;rfl;(focus ((repeat (first|exact aA _ _ _|assumption|refine (aC ‹_›).trans ?_));done));rfl;rfl|apply stR pk;rfl;rfl;(focus ((repeat (first|exact aA _ _ _|assumption|refine (aC ‹_›).trans ?_));done));rfl;rfl|apply wY;rfl|apply wI;rfl|apply gE;omega|apply gE;show 0<_;omega|apply gE;show 1<_;omega|omega|intros;omega|simp only [zql];omega|intros;simp only [zql];omega|intros;simp only;omega|intro h;omega|intro h;simp at h;done|intro h;simp at h;omega|(intro h;simp at h)|intro h))
 refine zY 9 rfl rfl λid2 h2=> ?_
 have h2:st id2=none:=h2
 refine pJ [(9, .ref id2 0)] rfl rfl ⟨rfl,trivial⟩ (λidl S=>∃a,oC a=zs/\S id2=some (.cells 117 [eO a])/\idl≠id2/\(∀y,a=some y->S y.1=some (.arr 121 (y.2.map Wd.cells))/\st y.1=none/\y.1≠idl)/\∀j,st j≠none->upd S idl none j=st j) ?_ ?_
 ·intro idl hidl
  have hidl:upd st id2 (some (.cells 117 [.val (.slice none 0 0)])) idl=none:=hidl
  have nl2:idl≠id2:=λe=>by rw [e,aA] at hidl;cases hidl
  have hsl:st idl=none:=by rwa [aC nl2] at hidl
  generalize hlp:AObj.loop _ _ _ _ _ _=lp
  have:=hG (idl:=idl) (st:=upd (upd st id2 (some (.cells 117 [.val (.slice none 0 0)]))) idl (some lp)) (J:=GaJ st lp idl id2) GaJ.opn ?_ ?_
  ·refine ⟨this.1,λw g vs h1 h2=>(this.2 w g vs h1 h2).mono ?_⟩
   rintro e w' ⟨v,q,S,g',h3,⟨k1,⟨a,a1,a2,a3⟩,k3,k4⟩,h4⟩
   exact ⟨v,q,S,g',h3,⟨k1,a,a1,a2,nl2,λy hy=>⟨(a3 y hy).1,(a3 y hy).2.1,(a3 y hy).2.2.1⟩,λj hj=>(aC (d:=idl) (t:=j) λq=>hj (q▸hsl)).trans (k3 j hj)⟩,h4⟩
  ·refine ⟨aA _ _ _,⟨none,rfl,(aC (Ne.symm nl2)).trans (aA _ _ _),λ_ q=>by cases q⟩,λj hj=> ?_,λ_ q=>q.elim⟩
   rw [aC (λq=>hj (by rw [q];exact hsl)),aC (λq=>hj (by rw [q];exact h2))]
  ·intro p x E S hp hJ
   have hpl:p.length+1<=20000:=by
    have:=hp.length_le
    rw [zla,List.length_singleton] at this;omega
   obtain ⟨a,a1,hbx,a3⟩:=hJ.acc
   have hbn:(oC a).length<=20000:=by rw [a1];omega
   have nb2:id2≠idl:=Ne.symm nl2
   have hfin:=λ(busy:AObj) (i:Nat) (S1:aD)=>hJ.grow (busy:=busy) (i:=i) (S1:=S1) (x:=x) nl2 h2 hsl a1 hbx
   have hloop:=hJ.loop
   rw [<-hlp] at hloop
   have hbb:∀o,upd S idl o id2=some (.cells 117 [eO a]):=λo=>(aC nb2).trans hbx
   refine alU (R:=λS'=>GaJ st lp idl id2 (p++[x]) E S'/\∀e,E e->S' e=S e) hloop (show 28<39 by decide) ?_
   show PWp _ _ _ (((St.nilR idl 39 S).pv 9 (.ref id2 0)).pv 28 (.agg x.cells))
   (repeat' first|(show Cn (.r _ _ _);refine .any ⟨_,_,_,rfl,zwr _,zsr _, ?_,rfl⟩;try rfl)|apply wZ;rfl|show Cn _;constructor|exact rfl|apply KR.mk;kernel_rfl|omega|intros;omega|simp only [zql];omega|intros;simp only [zql];omega|intros;simp only;omega|intro h;omega|intro h;simp at h;done|intro h;simp at h;omega|(intro h;simp at h)|intro h)
   refine ⟨rfl,hloop, ?_⟩
   cases a with
   |none=>
    have a1':p=[]:=a1.symm
    subst a1'
    (repeat' first|apply wDx pk;rfl;kernel_rfl;rfl;rfl|(show Cn (.r _ _ _);refine .any ⟨_,_,_,rfl,zwr _,zsr _, ?_,rfl⟩;try rfl)|apply wZ;rfl|show Cn _;constructor|exact rfl|apply KR.mk;kernel_rfl|apply ncA;rfl;rfl;rfl;rotate_left;rfl;rfl|apply ldR pk;rfl;rfl;rotate_left;rfl;(focus ((repeat (first|exact aA _ _ _|assumption|refine (aC ‹_›).trans ?_));done));rfl;rfl|apply stR pk;rfl;rfl;(focus ((repeat (first|exact aA _ _ _|assumption|refine (aC ‹_›).trans ?_));done));rfl;rfl|(apply apV pk (f:=Wd.cells) [x] 48;(iterate 9 rfl);(focus ((repeat (first|exact aA _ _ _|assumption|refine (aC ‹_›).trans ?_));done));(first|omega|assumption|(focus (simp;done))|(focus (simp;omega))|(focus (simp at*;omega)));exact λ_=>rfl;exact λ_=>rfl;exact jJ;(first|omega|assumption|(focus (simp;done))|(focus (simp;omega))|(focus (simp at*;omega)));(first|omega|assumption|(focus (simp;done))|(focus (simp;omega))|(focus (simp at*;omega)));rfl;intro id' hid')|(apply ap0 pk (f:=Wd.cells) [x] 48;(iterate 10 rfl);exact λ_=>rfl;exact λ_=>rfl;exact jJ;(first|omega|assumption|(focus (simp;done))|(focus (simp;omega))|(focus (simp at*;omega)));(first|omega|assumption|(focus (simp;done))|(focus (simp;omega))|(focus (simp at*;omega)));rfl;intro id' hid')|(apply ixA pk;(iterate 5 rfl);rotate_left;rfl;(intro hw;(first|exact (show _=((i:Nat):Int) from by omega)|(simp [gw] at hw;first|exact (show _=((i:Nat):Int) from by omega)|refine (show _=((0:Nat):Int) from ?_);omega)|exact rfl));(intro hw;(first|omega|(focus (simp [gw] at hw;done))|simp [gw] at hw;omega|simp only [zqs];omega));rfl;(first|exact Nat.zero_add _|exact rfl))|apply ldA pk Wd.elem;rfl;rfl;rotate_left;rfl;(focus ((repeat (first|exact aA _ _ _|assumption|refine (aC ‹_›).trans ?_));done));(intro hw;(first|omega|(focus (simp [gw] at hw;done))|simp [gw] at hw;omega|simp only [zqs];omega));rfl|apply stA pk Wd.elem;rfl;rfl;rfl;(focus ((repeat (first|exact aA _ _ _|assumption|refine (aC ‹_›).trans ?_));done));(first|omega|simp only [zqs];omega);rfl|apply ldR pk;rfl;rfl;rotate_left;rfl;exact hbb _;rfl;rfl|apply stR pk;rfl;rfl;exact (aC (λe=>Option.some_ne_none _ ((hbb _).symm.trans ((congrArg (upd S idl _) e).trans hid')))).trans (hbb _);rfl;rfl|omega|intros;omega|simp only [zql];omega|intros;simp only [zql];omega|intros;simp only;omega|intro h;omega|intro h;simp at h;done|intro h;simp at h;omega|(intro h;simp at h)|intro h)
    obtain ⟨g1,g2,g3⟩:=hfin _ id' _ hid' (.inl rfl)
    subst hlp
    exact ⟨rfl,_,zsr _,g1,g2,g3⟩
   |some z=>
    have a1':p=z.2:=a1.symm
    subst a1'
    obtain ⟨b1,b2,b3,b4,b5⟩:=a3 z rfl
    have hz3:∀o,upd S idl o z.1=some (.arr 121 (z.2.map Wd.cells)):=λo=>(aC b3).trans b1
    have n3z:id2≠z.1:=Ne.symm b4
    have hlz:z.2.length<=20000:=hbn
    (repeat' first|apply wDx pk;rfl;kernel_rfl;rfl;rfl|(show Cn (.r _ _ _);refine .any ⟨_,_,_,rfl,zwr _,zsr _, ?_,rfl⟩;try rfl)|apply wZ;rfl|show Cn _;constructor|exact rfl|apply KR.mk;kernel_rfl|apply ncA;rfl;rfl;rfl;rotate_left;rfl;rfl|apply ldR pk;rfl;rfl;rotate_left;rfl;(focus ((repeat (first|exact aA _ _ _|assumption|refine (aC ‹_›).trans ?_));done));rfl;rfl|apply stR pk;rfl;rfl;(focus ((repeat (first|exact aA _ _ _|assumption|refine (aC ‹_›).trans ?_));done));rfl;rfl|(apply ixA pk;(iterate 5 rfl);rotate_left;rfl;(intro hw;(first|exact (show _=((i:Nat):Int) from by omega)|(simp [gw] at hw;first|exact (show _=((i:Nat):Int) from by omega)|refine (show _=((0:Nat):Int) from ?_);omega)|exact rfl));(intro hw;(first|omega|(focus (simp [gw] at hw;done))|simp [gw] at hw;omega|simp only [zqs];omega));rfl;(first|exact Nat.zero_add _|exact rfl))|apply ldA pk Wd.elem;rfl;rfl;rotate_left;rfl;(focus ((repeat (first|exact aA _ _ _|assumption|refine (aC ‹_›).trans ?_));done));(intro hw;(first|omega|(focus (simp [gw] at hw;done))|simp [gw] at hw;omega|simp only [zqs];omega));rfl|apply stA pk Wd.elem;rfl;rfl;rfl;(focus ((repeat (first|exact aA _ _ _|assumption|refine (aC ‹_›).trans ?_));done));(first|omega|simp only [zqs];omega);rfl|apply ldR pk;rfl;rfl;rotate_left;rfl;exact hbb _;rfl;rfl|(apply apV pk (f:=Wd.cells) (xs:=z.2) [x] 48;(iterate 9 rfl);exact hz3 _;rfl;exact λ_=>rfl;exact λ_=>rfl;exact jJ;(simp only [zlc,List.length_nil];omega);(simp only [zlc,List.length_nil];omega);rfl;intro id' hid')|apply stR pk;rfl;rfl;exact (aC (λe=>Option.some_ne_none _ ((hbb _).symm.trans ((congrArg (upd S idl _) e).trans hid')))).trans ((aC n3z).trans (hbb _));rfl;rfl|omega|intros;omega|simp only [zql];omega|intros;simp only [zql];omega|intros;simp only;omega|intro h;omega|intro h;simp at h;done|intro h;simp at h;omega|(intro h;simp at h)|intro h)
    have hg:=hfin _ id' _ hid' (.inr ⟨z,rfl,rfl⟩)
    rw [show eO (some (id',z.2++[x]))= .vec id' 2 0 (z.2.length+[x].length) from by simp [eO]] at hg
    obtain ⟨g1,g2,g3⟩:=hg
    subst hlp
    exact ⟨rfl,_,zsr _,g1,g2,g3⟩
 ·rintro idl S hidl ⟨a,a1,hbx,nl2,a3,ho⟩
  have hbb:∀o,upd S idl o id2=some (.cells 117 [eO a]):=λo=>(aC (Ne.symm nl2)).trans hbx
  have hsub:∀U:aD,(∀j,st j≠none->U j=upd S idl none j)->StSub st U:=λU hU j=>by
   by_cases q:st j=none
   ·exact .inl q
   ·exact .inr ((hU j q).trans (ho j q)).symm
  cases a with
  |none=>
   have e:zs=[]:=a1.symm
   subst e
   (repeat' first|(show Cn (.e _ _ _ _);refine .any ?_;(first|(refine ⟨_,_,_,rfl,zwr _,zsr _, ?_,rfl⟩;(first|rfl))|(refine ⟨_,_,_,rfl,zwr _,aB ‹_›, ?_,rfl⟩;(first|rfl))|(refine ⟨_,_,_,rfl,zwf _,zsr _, ?_,rfl⟩;(first|rfl))|(refine ⟨_,_,_,rfl,zwf _,aB ‹_›, ?_,rfl⟩;(first|rfl))|(refine ⟨_,_,_,rfl,zwr _,zsr _, ?_,rfl⟩)|(refine ⟨_,_,_,rfl,zwf _,aB ‹_›, ?_,rfl⟩)))|(show Cn (.r _ _ _);refine .any ?_;(first|(refine ⟨_,_,_,rfl,zwr _,zsr _, ?_,rfl⟩;(first|rfl))|(refine ⟨_,_,_,rfl,zwr _,aB ‹_›, ?_,rfl⟩;(first|rfl))|(refine ⟨_,_,_,rfl,zwf _,zsr _, ?_,rfl⟩;(first|rfl))|(refine ⟨_,_,_,rfl,zwf _,aB ‹_›, ?_,rfl⟩;(first|rfl))|(refine ⟨_,_,_,rfl,zwr _,zsr _, ?_,rfl⟩)|(refine ⟨_,_,_,rfl,zwf _,aB ‹_›, ?_,rfl⟩)))|refine ⟨⟨i+1,hil⟩, ?_, ?_⟩;((dsimp only;rw [hzs]))|show Cn (.s _ (St.nil _ _));refine .any ?_;exact Sub.nil _ _ _ (azD hsub ‹_›) rfl|show Cn (.t _ _);exact Cn.t0|show Cn (.t _ _);exact .any (aJ ‹_›)|(show Cn (.t _ _);exact .any (aI (by (first|rfl|exact aL ‹_›|((simp only [St.pv,St.put,St.sst,St.setv,St.nil,St.var,aH]);(first|done|rfl))))))|(show Cn (.t _ _);refine .any (aI ?_);(simp only [St.pv,St.put,St.sst,St.setv,St.nil,St.var,aH]);(rw [dA ‹_›]);(first|done|rfl))|apply wZ;rfl|show Cn _;constructor|exact rfl|apply KR.mk;kernel_rfl|apply ldR pk;rfl;rfl;rotate_left;rfl;exact hbb _;rfl;rfl;apply wV 36 2 121;rfl;intro idz hidz;apply xD 36;rfl;exact aA _ _ _;exact uG;rfl|omega|intros;omega|simp only [zql];omega|intros;simp only [zql];omega|intros;simp only;omega|intro h;omega|intro h;simp at h;done|intro h;simp at h;omega|(intro h;simp at h)|intro h)
  |some z=>
   obtain ⟨b1,b2,b3⟩:=a3 z rfl
   have e:zs=z.2:=a1.symm
   subst e
   have hz:∀o,upd S idl o z.1=some (.arr 121 (z.2.map Wd.cells)):=λo=>(aC b3).trans b1
   (repeat' first|(show Cn (.e _ _ _ _);refine .any ?_;(first|(refine ⟨_,_,_,rfl,zwr _,zsr _, ?_,rfl⟩;(first|rfl))|(refine ⟨_,_,_,rfl,zwr _,aB ‹_›, ?_,rfl⟩;(first|rfl))|(refine ⟨_,_,_,rfl,zwf _,zsr _, ?_,rfl⟩;(first|rfl))|(refine ⟨_,_,_,rfl,zwf _,aB ‹_›, ?_,rfl⟩;(first|rfl))|(refine ⟨_,_,_,rfl,zwr _,zsr _, ?_,rfl⟩)|(refine ⟨_,_,_,rfl,zwf _,aB ‹_›, ?_,rfl⟩)))|(show Cn (.r _ _ _);refine .any ?_;(first|(refine ⟨_,_,_,rfl,zwr _,zsr _, ?_,rfl⟩;(first|rfl))|(refine ⟨_,_,_,rfl,zwr _,aB ‹_›, ?_,rfl⟩;(first|rfl))|(refine ⟨_,_,_,rfl,zwf _,zsr _, ?_,rfl⟩;(first|rfl))|(refine ⟨_,_,_,rfl,zwf _,aB ‹_›, ?_,rfl⟩;(first|rfl))|(refine ⟨_,_,_,rfl,zwr _,zsr _, ?_,rfl⟩)|(refine ⟨_,_,_,rfl,zwf _,aB ‹_›, ?_,rfl⟩)))|refine ⟨⟨i+1,hil⟩, ?_, ?_⟩;((dsimp only;rw [hzs]))|show Cn (.s _ (St.nil _ _));refine .any ?_;exact Sub.nil _ _ _ (atG hsub b2) rfl|show Cn (.t _ _);exact Cn.t0|show Cn (.t _ _);exact .any (aJ ‹_›)|(show Cn (.t _ _);exact .any (aI (by (first|rfl|exact aL ‹_›|((simp only [St.pv,St.put,St.sst,St.setv,St.nil,St.var,aH]);(first|done|rfl))))))|(show Cn (.t _ _);refine .any (aI ?_);(simp only [St.pv,St.put,St.sst,St.setv,St.nil,St.var,aH]);(rw [dA ‹_›]);(first|done|rfl))|apply wZ;rfl|show Cn _;constructor|exact rfl|apply KR.mk;kernel_rfl|apply ldR pk;rfl;rfl;rotate_left;rfl;exact hbb _;rfl;rfl;apply xD 36;rfl;exact hz _;exact uG;exact zql _|omega|intros;omega|simp only [zql];omega|intros;simp only [zql];omega|intros;simp only;omega|intro h;omega|intro h;simp at h;done|intro h;simp at h;omega|(intro h;simp at h)|intro h)
theorem awX {o:List Vl} {v x:Vl} (h:x∈xX o v):x∈o\/x=v:=by
 unfold xX at h
 split at h
 ·exact .inl h
 ·unfold cL at h
  rw [zma,zma,zms] at h
  rcases h with (h|h)|h
  ·exact .inl (List.mem_of_mem_take h)
  ·exact .inr h
  ·exact .inl (List.mem_of_mem_drop h)
theorem auQ {l:List Pt} {v:Vl} (h:v∈fO l):∃p∈l,p.val=v:=by
 have key:∀(l:List Pt) (o:List Vl),v∈l.foldl (λo p=>xX o p.val) o->v∈o\/∃p∈l,p.val=v:=λl=>by
  induction l with
  |nil=>exact λo h=> .inl h
  |cons p l ih=>
   intro o h
   rcases ih _ h with q|⟨p',q1,q2⟩
   ·rcases awX q with q|q
    ·exact .inl q
    ·exact .inr ⟨p,List.mem_cons_self,q.symm⟩
   ·exact .inr ⟨p',List.mem_cons_of_mem _ q1,q2⟩
 rcases key l [] h with q|q
 ·cases q
 ·exact q
theorem arR {v:Vl} (h:jP v=true):X.lim v.n:=by
 have:=(aBI h).1
 unfold X.lim;omega
theorem atH {c:Cl} (h:acN T.rightP c=true) (hl:c.parts.length<=1000):X.lim (jK c).n:=by
 have z:X.lim Vl.zero.n:=by unfold X.lim Vl.zero;decide
 unfold jK
 unfold acN at h
 split
 ·rename_i k
  rw [zp k,zba] at h
  exact arR h.1
 ·rename_i k0
  rw [zn k0] at h
  split
  ·rename_i k
   rw [zp k] at h
   unfold adJ
   cases e:(fO c.parts).getLast? with
   |none=>exact z
   |some v=>
    obtain ⟨p,hp,rfl⟩:=auQ (List.mem_of_getLast? e)
    obtain ⟨j,hj,rfl⟩:=zgo hp
    unfold uS vZ at h
    rw [zba,zal] at h
    have:=h.2 j (List.mem_range.2 hj)
    rw [getElem!_pos c.parts j hj,zba] at this
    unfold gW at this
    rw [zba,zba] at this
    exact arR this.1.1.2
  ·rename_i k1
   rw [zn k1] at h
   split
   ·rename_i k
    rw [zp k] at h
    unfold aeW
    split
    ·rename_i q
     unfold kW at q
     repeat' split at q
     all_goals first|exact absurd q (by decide)|skip
     unfold X.lim
     omega
    ·exact z
   ·split
    ·show X.lim ((yA (gS c).toArray:Nat):Int)
     have h1:(gS c).length=c.parts.length:=by unfold gS;simp
     have h2:yA (gS c).toArray<=(gS c).length+1:=by
      unfold yA
      split
      ·simp
      ·have:=avG (gS c).toArray 1 ((gS c).toArray.size-1) (by omega)
       rw [show 1+((gS c).toArray.size-1)=(gS c).toArray.size from by omega] at this
       simp only [List.size_toArray] at this⊢
       have:dN (gS c).toArray 1=0:=rfl
       omega
     unfold X.lim
     omega
    ·split
     ·unfold T.showP
      split
      ·exact z
      ·exact z
     ·exact z
def xT (e:X.Ex) (r:List Vl):Vl:=if (X.EvalR e r).2=0 then (X.EvalR e r).1 else Vl.zero
theorem aqJ {e:X.Ex} (hok:e.ok) {r:List Vl} (hr:X.rowOK r):PF Tryz.prog 85 [.agg e.cells, .seq (r.map Vl.cells)] (.agg (xT e r).cells):=by
 have h:=X.Eval_spec hok hr
 unfold xT
 generalize X.EvalR e r=R at*
 obtain ⟨k,n,v,of⟩:=e
 by_cases h0:R.2=0
 ·rw [zp h0]
  refine pF Tryz.func85 rfl (λst=> ?_)
  (repeat' first|(show Cn (.r _ _ _);refine .any ⟨_,_,_,rfl,zwr _,zsr _, ?_,rfl⟩;try rfl)|apply wZ;rfl|show Cn _;constructor|exact rfl|apply KR.mk;kernel_rfl|(apply h<;>(first|assumption|omega))|apply wY;rfl|omega|intros;omega|simp only [zql];omega|intros;simp only [zql];omega|intros;simp only;omega|intro h;omega|intro h;simp at h;done|intro h;simp at h;omega|(intro h;simp at h)|intro h)
 ·rw [zn h0]
  refine pF Tryz.func85 rfl (λst=> ?_)
  (repeat' first|(show Cn (.r _ _ _);refine .any ⟨_,_,_,rfl,zwr _,zsr _, ?_,rfl⟩;try rfl)|apply wZ;rfl|show Cn _;constructor|exact rfl|apply KR.mk;kernel_rfl|(apply h<;>(first|assumption|omega))|apply wY;rfl|omega|intros;omega|simp only [zql];omega|intros;simp only [zql];omega|intros;simp only;omega|intro h;omega|intro h;simp at h;done|intro h;simp at h;omega|(intro h;simp at h)|intro h)
def tC (e:X.Ex) (r:List Vl):Bool:=decide ((X.EvalR e r).2=0)&&(!decide ((X.EvalR e r).1.kind=2)&&X.oneV (X.EvalR e r).1)
def agB (e:X.Ex) (r:List Vl):Int:=if (X.EvalR e r).2=0/\(X.EvalR e r).1.kind=2 then 6 else (X.EvalR e r).2
theorem ahP {e:X.Ex} (hok:e.ok) {r:List Vl} (hr:X.rowOK r):PF Tryz.prog 79 [.agg e.cells, .seq (r.map Vl.cells)] (.tup [(vb (tC e r)),(vi (agB e r))]):=by
 have h:=X.Eval_spec hok hr
 unfold tC agB
 generalize X.EvalR e r=R at*
 obtain ⟨k,n,v,of⟩:=e
 have h1:=X.one_spec (k:=R.1.kind) (n:=R.1.n) (b:=R.1.s)
 by_cases h0:R.2=0/\R.1.kind=2
 ·rw [zp h0]
  obtain ⟨q1,q2⟩:=h0
  refine pF Tryz.func79 rfl (λst=> ?_)
  (repeat' first|(show Cn (.r _ _ _);refine .any ⟨_,_,_,rfl,zwr _,zsr _, ?_,rfl⟩;try first|rfl|(simp [q1,q2];done);done)|apply wZ;rfl|show Cn _;constructor|exact rfl|apply KR.mk;kernel_rfl|((first|apply h|apply h1)<;>(first|assumption|omega))|show (_:PV)=_;(simp [q1,q2];done);done|apply wY;rfl|omega|intros;omega|simp only [zql];omega|intros;simp only [zql];omega|intros;simp only;omega|intro h;omega|intro h;simp at h;done|intro h;simp at h;omega|(intro h;simp at h)|intro h)
 ·rw [zn h0]
  have hq:(decide (R.2=0)&&X.oneV R.1)=(decide (R.2=0)&&(!decide (R.1.kind=2)&&X.oneV R.1)):=by
   by_cases q:R.2=0
   ·have w:¬R.1.kind=2:=λw=>h0 ⟨q,w⟩
    simp [q,w]
   ·simp [q]
  refine pF Tryz.func79 rfl (λst=> ?_)
  (repeat' first|(show Cn (.r _ _ _);refine .any ⟨_,_,_,rfl,zwr _,zsr _, ?_,rfl⟩;try first|rfl|(exact congrArg (λz=>PV.tup [.val (.bool z),(vi (R.2))]) hq);done)|apply wZ;rfl|show Cn _;constructor|exact rfl|apply KR.mk;kernel_rfl|((first|apply h|apply h1)<;>(first|assumption|omega))|show (_:PV)=_;(exact congrArg (λz=>PV.tup [.val (.bool z),(vi (R.2))]) hq);done|apply wY;rfl|omega|intros;omega|simp only [zql];omega|intros;simp only [zql];omega|intros;simp only;omega|intro h;omega|intro h;simp at h;done|intro h;simp at h;omega|(intro h;simp at h)|intro h)
def lG (l:List X.Ex) (r:List Vl):Bool:=l.all λe=>tC e r
theorem ahF {e:X.Ex} {r:List Vl} (h:tC e r=true):agB e r=0:=by
 unfold tC at h
 simp only [zba,zde,Bool.not_eq_true',decide_eq_false_iff_not] at h
 unfold agB
 rw [zn (λq=>h.2.1 q.2)];exact h.1
theorem arG {l:List X.Ex} {i:Nat} (h:i<l.length):(l.map X.Ex.cells)[i]?=some l[i].cells:=by simp [h]
theorem agV {l:List X.Ex} (hl:l.length<4611686018427387904) (hok:∀e∈l,e.ok) {r:List Vl} (hr:X.rowOK r):PF Tryz.prog 47 [.seq (l.map X.Ex.cells), .seq (r.map Vl.cells)] (vb (lG l r)):=by
 refine pF Tryz.func47 rfl (λst=> ?_)
 focus ((repeat' first|(show Cn (.r _ _ _);refine .any ⟨_,_,_,rfl,zwr _,zsr _, ?_,rfl⟩;try rfl)|apply wZ;rfl|show Cn _;constructor|exact rfl|apply KR.mk;kernel_rfl|omega|intros;omega|simp only [zql];omega|intros;simp only [zql];omega|intros;simp only;omega|intro h;omega|intro h;simp at h;done|intro h;simp at h;omega|(intro h;simp at h)|intro h))
 refine aG (X:={x:Nat//x<=l.length/\∀j (h:j<l.length),j<x->tC l[j] r=true}) (λi=>(((((St.nil 28 st).pv 1 (.seq (r.map Vl.cells))).pv 9 (.seq (l.map X.Ex.cells))).pv 10 ((vi (((l.map X.Ex.cells).length:Nat))))).pv 11 ((vi ((i.1:Nat)))))) (λi=>l.length-i.1) ⟨0,by omega,by omega⟩ ?_ (λi=> ?_)
 ·(repeat' first|show Cn _;constructor|exact rfl)
 obtain ⟨i,hi,hI⟩:=i
 dsimp only
 by_cases hend:l.length<=i
 ·have e:lG l r=true:=by
   unfold lG
   rw [zal]
   intro x hx
   obtain ⟨j,hj,rfl⟩:=zgo hx
   exact hI j hj (by omega)
  (repeat' first|(show Cn (.r _ _ _);refine .any ⟨_,_,_,rfl,zwr _,zsr _, ?_,rfl⟩;try first|rfl|(rw [e]);done)|apply wZ;rfl|show Cn _;constructor|exact rfl|apply KR.mk;kernel_rfl|show (_:PV)=_;(rw [e]);done|omega|intros;omega|simp only [zql];omega|intros;simp only [zql];omega|intros;simp only;omega|intro h;omega|intro h;simp at h;done|intro h;simp at h;omega|(intro h;simp at h)|intro h)
 have hil:i<l.length:=by omega
 have hH:=ahP (hok _ (zgm hil)) hr
 have hrow:=arG hil
 cases hb:tC l[i] r with
 |true=>
  have hz:=ahF hb
  have hup:∀j (h:j<l.length),j<i+1->tC l[j] r=true:=λj hj hji=>by
   rcases zls.1 hji with q|q
   ·exact hI j hj q
   ·subst q;exact hb
  rw [hb,hz] at hH
  generalize l[i]=e at hH hrow
  obtain ⟨k,n,v,of⟩:=e
  (repeat' first|(show Cn (.r _ _ _);refine .any ⟨_,_,_,rfl,zwr _,zsr _, ?_,rfl⟩;try rfl)|(refine ⟨⟨i+1,hil,hup⟩, ?_, ?_⟩)|apply wZ;rfl|show Cn _;constructor|exact rfl|apply KR.mk;kernel_rfl|apply bX pk;(iterate 6 rfl);rotate_left;rfl;(intro hw;rfl);(intro hw;apply hrow<;>omega);(intro _;rfl);rfl|(apply hH<;>(first|assumption|omega))|apply wY;rfl|apply wI;rfl|apply gE;omega|apply gE;show 0<_;omega|apply gE;show 1<_;omega|omega|intros;omega|simp only [zql];omega|intros;simp only [zql];omega|intros;simp only;omega|intro h;omega|intro h;simp at h;done|intro h;simp at h;omega|(intro h;simp at h)|intro h)
 |false=>
  have e:lG l r=false:=by
   unfold lG
   rw [<-Bool.not_eq_true,zal]
   intro q
   have:=q _ (zgm hil)
   rw [hb] at this;cases this
  rw [hb] at hH
  generalize agB l[i] r=C at hH
  generalize l[i]=e at hH hrow
  obtain ⟨k,n,v,of⟩:=e
  (repeat' first|(show Cn (.r _ _ _);refine .any ⟨_,_,_,rfl,zwr _,zsr _, ?_,rfl⟩;try first|rfl|(rw [e]);done)|apply wZ;rfl|show Cn _;constructor|exact rfl|apply KR.mk;kernel_rfl|apply bX pk;(iterate 6 rfl);rotate_left;rfl;(intro hw;rfl);(intro hw;apply hrow<;>omega);(intro _;rfl);rfl|(apply hH<;>(first|assumption|omega))|show (_:PV)=_;(rw [e]);done|apply wY;rfl|apply wI;rfl|apply gE;omega|apply gE;show 0<_;omega|apply gE;show 1<_;omega|omega|intros;omega|simp only [zql];omega|intros;simp only [zql];omega|intros;simp only;omega|intro h;omega|intro h;simp at h;done|intro h;simp at h;omega|(intro h;simp at h)|intro h)
end Go.Proofs.YtppdefkgmegipaaGreatDoor
