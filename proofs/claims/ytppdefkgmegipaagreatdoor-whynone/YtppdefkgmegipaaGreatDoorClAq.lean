import Derived.Test.YtppdefkgmegipaaGreatDoorClAp
import Derived.Test.YtppdefkgmegipaaGreatDoorAbsL
set_option linter.unusedSimpArgs false
set_option linter.unusedVariables false
namespace Go.Proofs.YtppdefkgmegipaaGreatDoor
open Go Go.Abs
attribute [local irreducible] Ev PWp
set_option maxRecDepth 10000
set_option maxHeartbeats 4000000
theorem aB9 (r:List Vl) (hr:r.length<4611686018427387904) {st:aD} {idH:Nat} {a:Option (Nat×Nat)} {l:List It} (h:HpS st idH a l) (hl:l.length<=100000) (hrow:∀x∈l,x.row.length<4611686018427387904):PC Tryz.prog 81 [.ref idH 0, .seq (r.map Vl.cells)] st (AtR st idH a (atL l r).1 (atL l r).2.1 (atL l r).2.2):=by
 cases a with
 |none=>
  have e:=h.no rfl
  subst e
  exact ajZ r hr h
 |some x=>
  obtain ⟨i,j⟩:=x
  exact aiK r hr h hl hrow
def jM (l:List It) (r:List Vl) (d:List Dt):List It:=match (bW l).findIdx? (λx=>decide (x=r)) with
 |some k=>l.set k ⟨r,l[k]!.many+1,jS l[k]!.by_ d⟩
 |none=>l++[⟨r,1,jS [] d⟩]
structure PutR (l:List It) (r:List Vl) (d:List Dt) (rv:PV) (m:Int) (d0:List Dt) (b:PV):Prop where
 row:((atL l r).2.1.map itC)[(atL l r).2.2]?=some [rv,(vi (m)),b]
 uni:d0.length+d.length<100000000000->PF Tryz.prog 82 [b, .seq (d.map Dt.cells)] (.seq ((jS d0 d).map Dt.cells))
 put:(jM l r d).map It.cells=((atL l r).2.1.map itC).set (atL l r).2.2 [.seq (r.map Vl.cells),(vi (m+1)), .seq ((jS d0 d).map Dt.cells)]
 rows:bW (jM l r d)=(atL l r).1
 from_:m=0/\d0=[]\/∃x∈l,m=x.many/\d0=x.by_
theorem aBT (l:List It) (r:List Vl) (d:List Dt):∃rv m d0 b,PutR l r d rv m d0 b:=by
 cases hf:(bW l).findIdx? (λx=>decide (x=r)) with
 |some k=>
  obtain ⟨h1,h2,_⟩:=List.findIdx?_eq_some_iff_getElem.1 hf
  have hk:k<l.length:=by unfold bW at h1;simpa using h1
  have h2:l[k].row=r:=by simpa [bW] using h2
  have e1:atL l r=(bW l,l.map some,k):=by unfold atL;rw [hf]
  have e2:jM l r d=l.set k ⟨r,l[k].many+1,jS l[k].by_ d⟩:=by unfold jM;rw [hf];dsimp only;rw [getElem!_pos l k hk]
  refine ⟨.seq (l[k].row.map Vl.cells),l[k].many,l[k].by_, .seq (l[k].by_.map Dt.cells), ?_,λh=>pG _ _ h, ?_, ?_, .inr ⟨l[k],zgm hk,rfl,rfl⟩⟩
  ·rw [e1];dsimp only;rw [qO];simp [hk,It.cells]
  ·rw [e1,e2];dsimp only;rw [qO,List.map_set];rfl
  ·rw [e1,e2]
   unfold bW
   rw [List.map_set]
   refine List.ext_getElem? λi=> ?_
   rw [List.getElem?_set]
   split
   ·rename_i q;subst q
    simp [hk,h2]
   ·rfl
 |none=>
  have e1:atL l r=(bW l++[r],l.map some++[none],l.length):=by unfold atL;rw [hf]
  have e2:jM l r d=l++[⟨r,1,jS [] d⟩]:=by unfold jM;rw [hf]
  refine ⟨.val (.slice none 0 0),0,[], .val (.slice none 0 0), ?_,λh st=>PC.wkArgs (.cons Wk.nil (WkL.refl _)) (pG [] d h st), ?_, ?_, .inl ⟨rfl,rfl⟩⟩
  ·rw [e1];dsimp only;rw [List.map_append,qO,List.getElem?_append_right (by simp)];simp [itC]
  ·rw [e1,e2];dsimp only
   rw [List.map_append,List.map_append,qO,List.set_append_right _ _ (by simp)]
   simp [It.cells]
  ·rw [e1,e2];unfold bW;simp
def fJ (q:Qu) (r:List Vl):List Vl:=q.outs.map λo=>xT o.of r
theorem ajU (a:Int) {e:X.Ex} (hok:e.ok) (w:Wd) (hr:X.rowOK w.row):PF Tryz.prog 84 [.agg ((vi (a))::e.cells), .rp w.cells] (.agg (xT e w.row).cells):=by
 have h:=aqJ hok hr
 generalize xT e w.row=V at*
 obtain ⟨k,n,v,of⟩:=e
 refine pF Tryz.func84 rfl (λst=> ?_)
 (repeat' first|(show Cn (.r _ _ _);refine .any ⟨_,_,_,rfl,zwr _,zsr _, ?_,rfl⟩;try rfl)|apply wZ;rfl|show Cn _;constructor|exact rfl|apply KR.mk;kernel_rfl|(apply h<;>(first|assumption|omega))|apply wY;rfl|omega|intros;omega|simp only [zql];omega|intros;simp only [zql];omega|intros;simp only;omega|intro h;omega|intro h;simp at h;done|intro h;simp at h;omega|(intro h;simp at h)|intro h)
def azY (st:aD) (idH:Nat) (a:Option (Nat×Nat)) (S:aD) (i j:Nat):Prop:=∀q,q≠idH->(∀x y,a=some (x,y)->q≠x/\q≠y)->st q≠none->S q=st q/\q≠i/\q≠j
theorem HpS.drop {st:aD} {idH:Nat} {a:Option (Nat×Nat)} {l:List It} (h:HpS st idH a l) {id:Nat} {o:Option AObj} (hid:st id=none):HpS (upd (upd st id o) id none) idH a l:=by
 have hne:∀q,st q≠none->upd (upd st id o) id none q=st q:=λq hq=>by
  have n:q≠id:=λe=>hq (e▸hid)
  rw [aC n,aC n]
 refine ⟨(hne _ (by rw [h.box];simp)).trans h.box,h.no,λi j e=> ?_⟩
 obtain ⟨h1,h2,h3⟩:=h.yes i j e
 exact ⟨(hne _ (by rw [h1];simp)).trans h1,(hne _ (by rw [h2];simp)).trans h2,h3⟩
def byY (b c:PV):Nat->PV
 |0=>b
 |_+1=>c
def asR (r:List Vl) (m:Int) (b c:PV) (y:Nat):List PV:=[.seq (r.map Vl.cells),(vi (m)),byY b c y]
theorem upd_set2 {S:aD} {j k:Nat} {T:TypeId} {L:List (List PV)} {a b:List PV}:upd (upd S j (some (.arr T (L.set k a)))) j (some (.arr T ((L.set k a).set k b)))=upd S j (some (.arr T (L.set k b))):=by rw [aH,List.set_set]
theorem aBu {q:Qu} {w:Wd} {st:aD} {idH:Nat} {a:Option (Nat×Nat)} {l:List It} (h:HpS st idH a l) (hok:∀o∈q.outs,o.of.ok) (hol:q.outs.length<=16) (hr:X.rowOK w.row) (hl:l.length<=30000) (hlr:∀x∈l,x.row.length<=16/\0<=x.many/\x.many<=30000/\x.by_.length<=10000000000) (hw:w.by_.length<=1000000000):
  PC Tryz.prog 80 [(vi (1)), .seq [w.cells], .fn 84 [.rp w.cells], .rp q.cells, .ref idH 0] st λ_ S=>∃i j,HpS S idH (some (i,j)) (jM l (fJ q w.row) w.by_)/\azY st idH a S i j:=by
 have hom:(q.outs.map Ou.cells).length=q.outs.length:=zql _
 have htl:(fJ q w.row).length=q.outs.length:=by unfold fJ;simp
 refine pC Tryz.func80 rfl ?_
 focus ((repeat' first|apply wDx pk;rfl;kernel_rfl;rfl;rfl|(show Cn (.e _ _ _ _);refine .any ?_;(first|(refine ⟨_,_,_,rfl,zwr _,zsr _, ?_,rfl⟩;(first|rfl))|(refine ⟨_,_,_,rfl,zwr _,aB ‹_›, ?_,rfl⟩;(first|rfl))|(refine ⟨_,_,_,rfl,zwf _,zsr _, ?_,rfl⟩;(first|rfl))|(refine ⟨_,_,_,rfl,zwf _,aB ‹_›, ?_,rfl⟩;(first|rfl))|(refine ⟨_,_,_,rfl,zwr _,zsr _, ?_,rfl⟩)|(refine ⟨_,_,_,rfl,zwf _,aB ‹_›, ?_,rfl⟩)))|apply wZ;rfl|show Cn _;constructor|exact rfl|apply KR.mk;kernel_rfl|apply ncA;rfl;rfl;rfl;rotate_left;rfl;rfl|apply ldR pk;rfl;rfl;rotate_left;rfl;(focus ((repeat (first|exact aA _ _ _|assumption|refine (aC ‹_›).trans ?_));done));rfl;rfl|apply stR pk;rfl;rfl;(focus ((repeat (first|exact aA _ _ _|assumption|refine (aC ‹_›).trans ?_));done));rfl;rfl|omega|intros;omega|simp only [zql];omega|intros;simp only [zql];omega|intros;simp only;omega|intro h;omega|intro h;simp at h;done|intro h;simp at h;omega|(intro h;simp at h)|intro h))
 refine dU 8 54 3 rfl rfl rfl (λid hid=> ?_)
 refine aG (X:={x:Nat×Nat//x.1<=q.outs.length/\st x.2=none}) (λi=>(((((((((St.nil 60 (upd st i.1.2 (some (.arr 54 (((fJ q w.row).take i.1.1).map Vl.cells))))).pv 0 ((vi (1)))).pv 1 (.seq [w.cells])).pv 2 (.fn 84 [.rp w.cells])).pv 4 (.ref idH 0)).pv 8 (.vec i.1.2 3 0 i.1.1)).pv 15 (.seq (q.outs.map Ou.cells))).pv 16 ((vi (((q.outs.map Ou.cells).length:Nat))))).pv 17 ((vi ((i.1.1:Nat)))))) (λi=>q.outs.length-i.1.1) ⟨(0,id),by simp,hid⟩ ?_ (λi=> ?_)
 ·dsimp only
  (repeat' first|show Cn (.t _ _);exact Cn.t0|show Cn (.t _ _);exact .any (aJ ‹_›)|(show Cn (.t _ _);exact .any (aI (by (first|rfl|exact aL ‹_›|((simp only [St.pv,St.put,St.sst,St.setv,St.nil,St.var,aH]);(first|done|rfl))))))|(show Cn (.t _ _);refine .any (aI ?_);(simp only [St.pv,St.put,St.sst,St.setv,St.nil,St.var,aH]);(rw [dA ‹_›]);(first|done|rfl))|show Cn _;constructor|exact rfl)
 clear hid
 obtain ⟨⟨i,id⟩,hi,hid⟩:=i
 simp only at hi hid
 dsimp only
 by_cases hend:q.outs.length<=i
 ·obtain rfl:i=q.outs.length:=by omega
  rw [ztl (by omega)]
  generalize htt:fJ q w.row=tr at*
  refine tK 8 rfl (aA _ _ _) jH (by rw [zql];exact htl) ?_
  have h':=h.drop (o:=some (.arr 54 (tr.map Vl.cells))) hid
  have hat:=aB9 tr (by omega) h' (by omega) (λx hx=>by have:=(hlr x hx).1;omega)
  obtain ⟨rv,m,d0,b,hP⟩:=aBT l tr w.by_
  have hfr:=hP.from_
  have hm:0<=m/\m<=30000/\d0.length<=10000000000:=by
   rcases hfr with ⟨rfl,rfl⟩|⟨x,hx,rfl,rfl⟩
   ·simp
   ·exact (hlr x hx).2
  have hu:=hP.uni (by omega)
  have hrw:=hP.row
  have hpu:=hP.put
  have hro:=hP.rows
  generalize hR:(atL l tr).1=R at*
  generalize hL:(atL l tr).2.1=L at*
  generalize hk:(atL l tr).2.2=k at*
  have hkL:k<(L.map itC).length:=by
   rcases Nat.lt_or_ge k (L.map itC).length with q|q
   ·exact q
   ·rw [List.getElem?_eq_none q] at hrw;cases hrw
  have hg1:((L.map itC).set k [.seq (tr.map Vl.cells),(vi (m)),b])[k]?=some [.seq (tr.map Vl.cells),(vi (m)),b]:=by rw [List.getElem?_set_self hkL]
  have hkeep:∀z,st z≠none->upd (upd st id (some (.arr 54 (tr.map Vl.cells)))) id none z=st z:=λz hz=>by
   have n:z≠id:=λe=>hz (e▸hid)
   rw [aC n,aC n]
  focus ((repeat' first|apply wDx pk;rfl;kernel_rfl;rfl;rfl|(show Cn (.e _ _ _ _);refine .any ?_;(first|(refine ⟨_,_,_,rfl,zwr _,zsr _, ?_,rfl⟩;(first|rfl))|(refine ⟨_,_,_,rfl,zwr _,aB ‹_›, ?_,rfl⟩;(first|rfl))|(refine ⟨_,_,_,rfl,zwf _,zsr _, ?_,rfl⟩;(first|rfl))|(refine ⟨_,_,_,rfl,zwf _,aB ‹_›, ?_,rfl⟩;(first|rfl))|(refine ⟨_,_,_,rfl,zwr _,zsr _, ?_,rfl⟩)|(refine ⟨_,_,_,rfl,zwf _,aB ‹_›, ?_,rfl⟩)))|apply wZ;rfl|show Cn _;constructor|exact rfl|apply KR.mk;kernel_rfl|apply ncA;rfl;rfl;rfl;rotate_left;rfl;rfl|apply ldR pk;rfl;rfl;rotate_left;rfl;(focus ((repeat (first|exact aA _ _ _|assumption|refine (aC ‹_›).trans ?_));done));rfl;rfl|apply stR pk;rfl;rfl;(focus ((repeat (first|exact aA _ _ _|assumption|refine (aC ‹_›).trans ?_));done));rfl;rfl|((apply eE;rfl;rfl;exact hat;rfl;rfl;rfl;intro _ S hA;obtain ⟨i,j,rfl,hbx,hSi,hSj,hij,hiH,hjH,hke⟩:=hA.ex))|apply ldX pk;rfl;rfl;rotate_left;rfl;exact hSj;rfl;exact hrw;rfl;rfl|apply stX pk;rfl;rfl;exact hSj;rfl;exact hrw;rfl;rfl|apply stX pk;rfl;rfl;exact aA _ _ _;rfl;exact hg1;rfl;rfl|omega|intros;omega|simp only [zql];omega|intros;simp only [zql];omega|intros;simp only;omega|intro h;omega|intro h;simp at h;done|intro h;simp at h;omega|(intro h;simp at h)|intro h))
  refine aG (X:={x:Nat//x<=1}) (λy=>(((((St.nil 60 (upd S j (some (.arr 77 ((L.map itC).set k (asR tr (m+1) b (.seq ((jS d0 w.by_).map Dt.cells)) y.1)))))).pv 11 (.el j 3 k 0)).pv 43 (.seq [w.cells])).pv 44 ((vi ((1:Nat))))).pv 45 ((vi ((y.1:Nat)))))) (λy=>1-y.1) ⟨0,by omega⟩ ?_ (λy=> ?_)
  ·(repeat' first|show Cn (.s _ (St.nil _ _));refine .any ?_;exact Sub.nil _ _ _ (aI upd_set2.symm) rfl|show Cn _;constructor|exact rfl)
  obtain ⟨y,hy⟩:=y
  dsimp only
  have c0:([w.cells]:List (List PV))[0]?=some w.cells:=rfl
  generalize jS d0 w.by_=U at*
  have hg2:((L.map itC).set k (asR tr (m+1) b (.seq (U.map Dt.cells)) 0))[k]?=some (asR tr (m+1) b (.seq (U.map Dt.cells)) 0):=by rw [List.getElem?_set_self hkL]
  rcases (show y=0\/y=1 by omega) with rfl|rfl
  ·(repeat' first|apply wD pk [10] [4];kernel_rfl;rfl;rfl|apply wDx pk;rfl;kernel_rfl;rfl;rfl|(apply Cn.cf;focus ((apply hu<;>(first|assumption|omega));done))|(apply cV;focus ((apply hu<;>(first|assumption|omega));done))|(show Cn (.e _ _ _ _);refine .any ?_;(first|(refine ⟨_,_,_,rfl,zwr _,zsr _, ?_,rfl⟩;(first|rfl))|(refine ⟨_,_,_,rfl,zwr _,aB ‹_›, ?_,rfl⟩;(first|rfl))|(refine ⟨_,_,_,rfl,zwf _,zsr _, ?_,rfl⟩;(first|rfl))|(refine ⟨_,_,_,rfl,zwf _,aB ‹_›, ?_,rfl⟩;(first|rfl))|(refine ⟨_,_,_,rfl,zwr _,zsr _, ?_,rfl⟩)|(refine ⟨_,_,_,rfl,zwf _,aB ‹_›, ?_,rfl⟩)))|(refine ⟨⟨1,by omega⟩, ?_, ?_⟩)|show Cn (.s _ (St.nil _ _));refine .any ?_;exact Sub.nil _ _ _ (aI upd_set2.symm) rfl|show Cn (.t _ _);exact Cn.t0|show Cn (.t _ _);exact .any (aJ ‹_›)|(show Cn (.t _ _);exact .any (aI (by (first|rfl|exact aL ‹_›|((simp only [St.pv,St.put,St.sst,St.setv,St.nil,St.var,aH]);(first|done|rfl))))))|(show Cn (.t _ _);refine .any (aI ?_);(simp only [St.pv,St.put,St.sst,St.setv,St.nil,St.var,aH]);(rw [dA ‹_›]);(first|done|rfl))|apply wZ;rfl|show Cn _;constructor|exact rfl|apply KR.mk;kernel_rfl|apply bX pk;(iterate 6 rfl);rotate_left;rfl;(intro hw;rfl);(intro hw;apply c0<;>omega);(intro _;rfl);rfl|apply ncA;rfl;rfl;rfl;rotate_left;rfl;rfl|apply ldR pk;rfl;rfl;rotate_left;rfl;(focus ((repeat (first|exact aA _ _ _|assumption|refine (aC ‹_›).trans ?_));done));rfl;rfl|apply stR pk;rfl;rfl;(focus ((repeat (first|exact aA _ _ _|assumption|refine (aC ‹_›).trans ?_));done));rfl;rfl|apply ldX pk;rfl;rfl;rotate_left;rfl;exact aA _ _ _;rfl;exact hg2;rfl;rfl|apply stX pk;rfl;rfl;exact aA _ _ _;rfl;exact hg2;rfl;rfl|apply wY;rfl|apply wI;rfl|apply gE;omega|apply gE;show 0<_;omega|apply gE;show 1<_;omega|omega|intros;omega|simp only [zql];omega|intros;simp only [zql];omega|intros;simp only;omega|intro h;omega|intro h;simp at h;done|intro h;simp at h;omega|(intro h;simp at h)|intro h)
  ·have hlen:(jM l tr w.by_).length=L.length:=by
    have:=congrArg List.length hpu
    rw [zql,List.length_set,zql] at this;exact this
   have hL0:0<L.length:=by rw [zql] at hkL;omega
   have hfin:HpS (upd S j (some (.arr 77 ((L.map itC).set k (asR tr (m+1) b (.seq (U.map Dt.cells)) 1))))) idH (some (i,j)) (jM l tr w.by_):=by
    refine ⟨(aC (Ne.symm hjH)).trans (hbx.trans ?_),λq=>(by cases q),λi' j' q=> ?_⟩
    ·show _=some (AObj.cells _ [.vec i 1 0 (jM l tr w.by_).length, .vec j 3 0 (jM l tr w.by_).length])
     rw [hlen]
    ·cases q
     refine ⟨(aC hij).trans (hSi.trans ?_),(aA _ _ _).trans ?_,hij,hiH,hjH,by omega⟩
     ·rw [<-hro];rfl
     ·rw [hpu];rfl
   have hkp:azY st idH a (upd S j (some (.arr 77 ((L.map itC).set k (asR tr (m+1) b (.seq (U.map Dt.cells)) 1))))) i j:=λz h1 h2 h3=>by
    obtain ⟨q1,q2,q3⟩:=hke z h1 h2 (by rw [hkeep z h3];exact h3)
    exact ⟨(aC q3).trans (q1.trans (hkeep z h3)),q2,q3⟩
   (repeat' first|apply wDx pk;rfl;kernel_rfl;rfl;rfl|(show Cn (.e _ _ _ _);refine .any ?_;(first|(refine ⟨_,_,_,rfl,zwr _,zsr _, ?_,rfl⟩;(first|rfl))|(refine ⟨_,_,_,rfl,zwr _,aB ‹_›, ?_,rfl⟩;(first|rfl))|(refine ⟨_,_,_,rfl,zwf _,zsr _, ?_,rfl⟩;(first|rfl))|(refine ⟨_,_,_,rfl,zwf _,aB ‹_›, ?_,rfl⟩;(first|rfl))|(refine ⟨_,_,_,rfl,zwr _,zsr _, ?_,rfl⟩)|(refine ⟨_,_,_,rfl,zwf _,aB ‹_›, ?_,rfl⟩)))|show Cn (.r _ _ _);refine .rr ?_;(exact ⟨i,j,hfin,hkp⟩);done|show Cn (.r _ _ _);refine .any ⟨_,_, ?zs,rfl,zwr _, ?zh, ?zr⟩;(case zh=>(refine aF ?_ ‹_›;(repeat refine aF ?_ ‹_›);exact zsr _));(case zr=>(exact ⟨i,j,hfin,hkp⟩))|apply wZ;rfl|show Cn _;constructor|exact rfl|apply KR.mk;kernel_rfl|apply ncA;rfl;rfl;rfl;rotate_left;rfl;rfl|apply ldR pk;rfl;rfl;rotate_left;rfl;(focus ((repeat (first|exact aA _ _ _|assumption|refine (aC ‹_›).trans ?_));done));rfl;rfl|apply stR pk;rfl;rfl;(focus ((repeat (first|exact aA _ _ _|assumption|refine (aC ‹_›).trans ?_));done));rfl;rfl|omega|intros;omega|simp only [zql];omega|intros;simp only [zql];omega|intros;simp only;omega|intro h;omega|intro h;simp at h;done|intro h;simp at h;omega|(intro h;simp at h)|intro h)
 have hil:i<q.outs.length:=by omega
 have hrow:=abI hil
 have ht2:=ajU q.outs[i].agg (hok _ (zgm hil)) w hr
 have e:(fJ q w.row).take (i+1)=(fJ q w.row).take i++[xT q.outs[i].of w.row]:=by rw [List.take_succ_eq_append_getElem (by omega)];simp [fJ]
 have hln:((fJ q w.row).take i).length=i:=by rw [zlt];omega
 generalize (fJ q w.row).take i=G at*
 generalize xT q.outs[i].of w.row=V at*
 generalize q.outs[i]=o at*
 obtain ⟨oa,⟨k,n,v,of⟩⟩:=o
 (repeat' first|(apply Cn.cf;focus ((apply ht2<;>(first|assumption|omega));done))|(apply cV;focus ((apply ht2<;>(first|assumption|omega));done))|(show Cn (.e _ _ _ _);refine .any ?_;(first|(refine ⟨_,_,_,rfl,zwr _,zsr _, ?_,rfl⟩;(first|rfl))|(refine ⟨_,_,_,rfl,zwr _,aB ‹_›, ?_,rfl⟩;(first|rfl))|(refine ⟨_,_,_,rfl,zwf _,zsr _, ?_,rfl⟩;(first|rfl))|(refine ⟨_,_,_,rfl,zwf _,aB ‹_›, ?_,rfl⟩;(first|rfl))|(refine ⟨_,_,_,rfl,zwr _,zsr _, ?_,rfl⟩)|(refine ⟨_,_,_,rfl,zwf _,aB ‹_›, ?_,rfl⟩)))|(show Cn (.r _ _ _);refine .any ?_;(first|(refine ⟨_,_,_,rfl,zwr _,zsr _, ?_,rfl⟩;(first|rfl))|(refine ⟨_,_,_,rfl,zwr _,aB ‹_›, ?_,rfl⟩;(first|rfl))|(refine ⟨_,_,_,rfl,zwf _,zsr _, ?_,rfl⟩;(first|rfl))|(refine ⟨_,_,_,rfl,zwf _,aB ‹_›, ?_,rfl⟩;(first|rfl))|(refine ⟨_,_,_,rfl,zwr _,zsr _, ?_,rfl⟩)|(refine ⟨_,_,_,rfl,zwf _,aB ‹_›, ?_,rfl⟩)))|refine ⟨⟨(i+1,id'),by simp only;omega,bA hid'⟩, ?_, ?_⟩;((dsimp only;rw [e]))|show Cn (.t _ _);exact Cn.t0|show Cn (.t _ _);exact .any (aJ ‹_›)|(show Cn (.t _ _);exact .any (aI (by (first|rfl|exact aL ‹_›|((simp only [St.pv,St.put,St.sst,St.setv,St.nil,St.var,aH]);(first|done|rfl))))))|(show Cn (.t _ _);refine .any (aI ?_);(simp only [St.pv,St.put,St.sst,St.setv,St.nil,St.var,aH]);(rw [dA ‹_›]);(first|done|rfl))|apply wZ;rfl|show Cn _;constructor|exact rfl|apply KR.mk;kernel_rfl|apply bX pk;(iterate 6 rfl);rotate_left;rfl;(intro hw;rfl);(intro hw;apply hrow<;>omega);(intro _;rfl);rfl|(show _=_;(first|rfl|simp))|(apply apV pk (f:=Vl.cells) [V] 32;(iterate 9 rfl);(focus ((repeat (first|exact aA _ _ _|assumption|refine (aC ‹_›).trans ?_));done));(first|omega|assumption|(focus (simp;done))|(focus (simp;omega))|(focus (simp at*;omega)));exact λ_=>rfl;exact λ_=>rfl;exact iA;(first|omega|assumption|(focus (simp;done))|(focus (simp;omega))|(focus (simp at*;omega)));(first|omega|assumption|(focus (simp;done))|(focus (simp;omega))|(focus (simp at*;omega)));rfl;intro id' hid')|(apply ap0 pk (f:=Vl.cells) [V] 32;(iterate 10 rfl);exact λ_=>rfl;exact λ_=>rfl;exact iA;(first|omega|assumption|(focus (simp;done))|(focus (simp;omega))|(focus (simp at*;omega)));(first|omega|assumption|(focus (simp;done))|(focus (simp;omega))|(focus (simp at*;omega)));rfl;intro id' hid')|apply wY;rfl|apply wI;rfl|apply gE;omega|apply gE;show 0<_;omega|apply gE;show 1<_;omega|omega|intros;omega|simp only [zql];omega|intros;simp only [zql];omega|intros;simp only;omega|intro h;omega|intro h;simp at h;done|intro h;simp at h;omega|(intro h;simp at h)|intro h)
def gR (q:Qu) (ws:List Wd):List It:=ws.foldl (λl w=>jM l (fJ q w.row) w.by_) []
theorem wW {q:Qu} {ws:List Wd} {i:Nat} (h:i<ws.length):gR q (ws.take (i+1))=jM (gR q (ws.take i)) (fJ q ws[i].row) ws[i].by_:=by
 unfold gR
 rw [List.take_succ_eq_append_getElem h,List.foldl_append];rfl
theorem avH (l:List It) (r:List Vl) (d:List Dt):(jM l r d).length<=l.length+1:=by
 unfold jM
 cases (bW l).findIdx? (λx=>decide (x=r)) with
 |some k=>simp
 |none=>simp
theorem awP {l:List It} {r:List Vl} {d:List Dt} {x:It} (h:x∈jM l r d):x∈l\/x.row=r/\(x.many=1/\x.by_=jS [] d\/∃y∈l,x.many=y.many+1/\x.by_=jS y.by_ d):=by
 unfold jM at h
 cases hf:(bW l).findIdx? (λx=>decide (x=r)) with
 |some k=>
  rw [hf] at h
  dsimp only at h
  have hk:k<l.length:=by
   have:=(List.findIdx?_eq_some_iff_getElem.1 hf).1
   unfold bW at this;simpa using this
  rw [getElem!_pos l k hk] at h
  rcases List.mem_or_eq_of_mem_set h with h|rfl
  ·exact .inl h
  ·exact .inr ⟨rfl, .inr ⟨l[k],zgm hk,rfl,rfl⟩⟩
 |none=>
  rw [hf] at h
  dsimp only at h
  rw [zma,zms] at h
  rcases h with h|rfl
  ·exact .inl h
  ·exact .inr ⟨rfl, .inl ⟨rfl,rfl⟩⟩
theorem qL {q:Qu} {ws:List Wd} (hb:∀w∈ws,w.by_.length<=100000):∀i≤ws.length,(gR q (ws.take i)).length<=i/\∀x∈gR q (ws.take i),x.row.length=q.outs.length/\0<=x.many/\x.many<=i/\x.by_.length<=100000*i
 |0,_=>by simp [gR]
 |i+1,hi=>by
  obtain ⟨h1,h2⟩:=qL (q:=q) hb i (by omega)
  rw [wW (by omega)]
  have hl:=avH (gR q (ws.take i)) (fJ q ws[i].row) ws[i].by_
  refine ⟨by omega,λx hx=> ?_⟩
  have hw:=hb _ (zgm (show i<ws.length by omega))
  rcases awP hx with hx|⟨hr,hx⟩
  ·obtain ⟨a,b,c,d⟩:=h2 x hx
   exact ⟨a,b,by omega,by omega⟩
  ·refine ⟨by rw [hr];unfold fJ;simp, ?_⟩
   rcases hx with ⟨e1,e2⟩|⟨y,hy,e1,e2⟩
   ·have:=vJ [] ws[i].by_
    rw [<-e2] at this
    simp only [List.length_nil] at this
    refine ⟨by omega,by omega,by omega⟩
   ·obtain ⟨a,b,c,d⟩:=h2 y hy
    have:=vJ y.by_ ws[i].by_
    rw [<-e2] at this
    refine ⟨by omega,by omega,by omega⟩
def aCW (st:aD) (l:List It) (r:PV) (S:aD):Prop:=((r= .val (.slice none 0 0)/\l=[])\/∃j,r= .vec j 3 0 l.length/\st j=none/\S j=some (.arr 77 (l.map It.cells)))/\∀z,st z≠none->S z=st z
theorem anY {st S S':aD} {idH:Nat} {a:Option (Nat×Nat)} {i j:Nat} (hidH:st idH=none) (hS:∀z,st z≠none->S z=st z) (ha:∀i j,a=some (i,j)->st i=none/\st j=none) (hK:azY S idH a S' i j):∀z,st z≠none->S' z=st z:=λz hz=>
 (hK z (λe=>hz (e▸hidH)) (λx y e=>⟨λq=>hz (q▸(ha x y e).1),λq=>hz (q▸(ha x y e).2)⟩) (by rw [hS z hz];exact hz)).1.trans (hS z hz)
theorem asY {st S S':aD} {idH:Nat} {a:Option (Nat×Nat)} {i j:Nat} (hidH:st idH=none) (hS:∀z,st z≠none->S z=st z) (ha:∀i j,a=some (i,j)->st i=none/\st j=none) (hK:azY S idH a S' i j):∀i' j',some (i,j)=some (i',j')->st i'=none/\st j'=none:=λi' j' e=>by
 cases e
 have key:∀z,(z=i\/z=j)->st z=none:=λz hzz=>Decidable.byContradiction λhz=>by
  have:=hK z (λe=>hz (e▸hidH)) (λx y e=>⟨λq=>hz (q▸(ha x y e).1),λq=>hz (q▸(ha x y e).2)⟩) (by rw [hS z hz];exact hz)
  rcases hzz with rfl|rfl
  ·exact this.2.1 rfl
  ·exact this.2.2 rfl
 exact ⟨key _ (.inl rfl),key _ (.inr rfl)⟩
theorem azF {q:Qu} {ws:List Wd} (hok:∀o∈q.outs,o.of.ok) (hol:q.outs.length<=16) (hg:nD q=false) (hws:∀w∈ws,X.rowOK w.row/\w.by_.length<=100000) (hlen:ws.length<=20000) (st:aD):PC Tryz.prog 48 [.agg q.cells, .seq (ws.map Wd.cells)] st (aCW st (gR q ws)):=by
 have hgs:=pU q (by omega)
 rw [hg] at hgs
 have hinv:=qL (q:=q) (ws:=ws) (λw hw=>(hws w hw).2)
 refine pC Tryz.func48 rfl ?_
 focus ((repeat' first|apply wDx pk;rfl;kernel_rfl;rfl;rfl|(apply Cn.cf;focus ((apply hgs<;>(first|assumption|omega));done))|(apply cV;focus ((apply hgs<;>(first|assumption|omega));done))|(show Cn (.e _ _ _ _);refine .any ?_;(first|(refine ⟨_,_,_,rfl,zwr _,zsr _, ?_,rfl⟩;(first|rfl))|(refine ⟨_,_,_,rfl,zwr _,aB ‹_›, ?_,rfl⟩;(first|rfl))|(refine ⟨_,_,_,rfl,zwf _,zsr _, ?_,rfl⟩;(first|rfl))|(refine ⟨_,_,_,rfl,zwf _,aB ‹_›, ?_,rfl⟩;(first|rfl))|(refine ⟨_,_,_,rfl,zwr _,zsr _, ?_,rfl⟩)|(refine ⟨_,_,_,rfl,zwf _,aB ‹_›, ?_,rfl⟩)))|apply wZ;rfl|show Cn _;constructor|exact rfl|apply KR.mk;kernel_rfl|apply ncA;rfl;rfl;rfl;rotate_left;rfl;rfl|apply ldR pk;rfl;rfl;rotate_left;rfl;(focus ((repeat (first|exact aA _ _ _|assumption|refine (aC ‹_›).trans ?_));done));rfl;rfl|apply stR pk;rfl;rfl;(focus ((repeat (first|exact aA _ _ _|assumption|refine (aC ‹_›).trans ?_));done));rfl;rfl|apply aQ 2;rfl;rfl|((refine qG 5 rfl rfl (λidH hidH=> ?_)))|apply wY;rfl|omega|intros;omega|simp only [zql];omega|intros;simp only [zql];omega|intros;simp only;omega|intro h;omega|intro h;simp at h;done|intro h;simp at h;omega|(intro h;simp at h)|intro h))
 have hidH:st idH=none:=hidH
 have h0:HpS (upd st idH (some (.cells 164 (hpV none [])))) idH none []:=⟨aA _ _ _,λ_=>rfl,λ_ _ e=>(by cases e)⟩
 refine aG (X:={x:Nat×Option (Nat×Nat)×aD//x.1<=ws.length/\HpS x.2.2 idH x.2.1 (gR q (ws.take x.1))/\(∀z,st z≠none->x.2.2 z=st z)/\∀i j,x.2.1=some (i,j)->st i=none/\st j=none}) (λi=>((((((St.nil 82 (i.1.2.2)).pv 5 (.ref idH 0)).pv 6 (.fn 80 [.rp q.cells, .ref idH 0])).pv 22 (.seq (ws.map Wd.cells))).pv 23 ((vi (((ws.map Wd.cells).length:Nat))))).pv 24 ((vi ((i.1.1:Nat)))))) (λi=>ws.length-i.1.1) ⟨(0,none,upd st idH (some (.cells 164 (hpV none [])))),by simp,h0,λz hz=>aC λe=>hz (by rw [e];exact hidH),λ_ _ e=>by cases e⟩ ?_ (λi=> ?_)
 ·(repeat' first|show Cn (.t _ _);exact Cn.t0|show Cn (.t _ _);exact .any (aJ ‹_›)|(show Cn (.t _ _);exact .any (aI (by (first|rfl|exact aL ‹_›|((simp only [St.pv,St.put,St.sst,St.setv,St.nil,St.var,aH]);(first|done|rfl))))))|(show Cn (.t _ _);refine .any (aI ?_);(simp only [St.pv,St.put,St.sst,St.setv,St.nil,St.var,aH]);(rw [dA ‹_›]);(first|done|rfl))|show Cn _;constructor|exact rfl)
 obtain ⟨⟨i,a,S⟩,hi,hH,hS,ha⟩:=i
 simp only at hi hH hS ha
 dsimp only
 by_cases hend:ws.length<=i
 ·obtain rfl:i=ws.length:=by omega
  rw [List.take_length] at hH
  have hbx:=hH.box
  cases a with
  |none=>
   have e:=hH.no rfl
   (repeat' first|apply wDx pk;rfl;kernel_rfl;rfl;rfl|(show Cn (.e _ _ _ _);refine .any ?_;(first|(refine ⟨_,_,_,rfl,zwr _,zsr _, ?_,rfl⟩;(first|rfl))|(refine ⟨_,_,_,rfl,zwr _,aB ‹_›, ?_,rfl⟩;(first|rfl))|(refine ⟨_,_,_,rfl,zwf _,zsr _, ?_,rfl⟩;(first|rfl))|(refine ⟨_,_,_,rfl,zwf _,aB ‹_›, ?_,rfl⟩;(first|rfl))|(refine ⟨_,_,_,rfl,zwr _,zsr _, ?_,rfl⟩)|(refine ⟨_,_,_,rfl,zwf _,aB ‹_›, ?_,rfl⟩)))|show Cn (.r _ _ _);refine .rr ?_;(exact ⟨.inl ⟨rfl,e⟩,hS⟩);done|show Cn (.r _ _ _);refine .any ⟨_,_, ?zs,rfl,zwr _, ?zh, ?zr⟩;(case zh=>(refine aF ?_ ‹_›;(repeat refine aF ?_ ‹_›);exact zsr _));(case zr=>(exact ⟨.inl ⟨rfl,e⟩,hS⟩))|apply wZ;rfl|show Cn _;constructor|exact rfl|apply KR.mk;kernel_rfl|apply ncA;rfl;rfl;rfl;rotate_left;rfl;rfl|apply ldR pk;rfl;rfl;rotate_left;rfl;(focus ((repeat (first|exact aA _ _ _|assumption|refine (aC ‹_›).trans ?_));done));rfl;rfl|apply stR pk;rfl;rfl;(focus ((repeat (first|exact aA _ _ _|assumption|refine (aC ‹_›).trans ?_));done));rfl;rfl|apply ldR pk;rfl;rfl;rotate_left;rfl;exact hbx;rfl;rfl|omega|intros;omega|simp only [zql];omega|intros;simp only [zql];omega|intros;simp only;omega|intro h;omega|intro h;simp at h;done|intro h;simp at h;omega|(intro h;simp at h)|intro h)
  |some ij=>
   obtain ⟨y,j⟩:=ij
   have hy:=hH.yes y j rfl
   have hst:=ha y j rfl
   (repeat' first|apply wDx pk;rfl;kernel_rfl;rfl;rfl|(show Cn (.e _ _ _ _);refine .any ?_;(first|(refine ⟨_,_,_,rfl,zwr _,zsr _, ?_,rfl⟩;(first|rfl))|(refine ⟨_,_,_,rfl,zwr _,aB ‹_›, ?_,rfl⟩;(first|rfl))|(refine ⟨_,_,_,rfl,zwf _,zsr _, ?_,rfl⟩;(first|rfl))|(refine ⟨_,_,_,rfl,zwf _,aB ‹_›, ?_,rfl⟩;(first|rfl))|(refine ⟨_,_,_,rfl,zwr _,zsr _, ?_,rfl⟩)|(refine ⟨_,_,_,rfl,zwf _,aB ‹_›, ?_,rfl⟩)))|show Cn (.r _ _ _);refine .rr ?_;(exact ⟨.inr ⟨j,rfl,hst.2,hy.2.1⟩,hS⟩);done|show Cn (.r _ _ _);refine .any ⟨_,_, ?zs,rfl,zwr _, ?zh, ?zr⟩;(case zh=>(refine aF ?_ ‹_›;(repeat refine aF ?_ ‹_›);exact zsr _));(case zr=>(exact ⟨.inr ⟨j,rfl,hst.2,hy.2.1⟩,hS⟩))|apply wZ;rfl|show Cn _;constructor|exact rfl|apply KR.mk;kernel_rfl|apply ncA;rfl;rfl;rfl;rotate_left;rfl;rfl|apply ldR pk;rfl;rfl;rotate_left;rfl;(focus ((repeat (first|exact aA _ _ _|assumption|refine (aC ‹_›).trans ?_));done));rfl;rfl|apply stR pk;rfl;rfl;(focus ((repeat (first|exact aA _ _ _|assumption|refine (aC ‹_›).trans ?_));done));rfl;rfl|apply ldR pk;rfl;rfl;rotate_left;rfl;exact hbx;rfl;rfl|omega|intros;omega|simp only [zql];omega|intros;simp only [zql];omega|intros;simp only;omega|intro h;omega|intro h;simp at h;done|intro h;simp at h;omega|(intro h;simp at h)|intro h)
 have hil:i<ws.length:=by omega
 obtain ⟨hw1,hw2⟩:=hws _ (zgm hil)
 obtain ⟨v1,v2⟩:=hinv i hi
 have hput:=aBu hH hok hol hw1 (by omega) (λx hx=>by obtain ⟨a1,a2,a3,a4⟩:=v2 x hx;refine ⟨by omega,a2,by omega,by omega⟩) (by omega)
 have hup:=wW (q:=q) hil
 rw [<-hup] at hput
 (repeat' first|(show Cn (.e _ _ _ _);refine .any ?_;(first|(refine ⟨_,_,_,rfl,zwr _,zsr _, ?_,rfl⟩;(first|rfl))|(refine ⟨_,_,_,rfl,zwr _,aB ‹_›, ?_,rfl⟩;(first|rfl))|(refine ⟨_,_,_,rfl,zwf _,zsr _, ?_,rfl⟩;(first|rfl))|(refine ⟨_,_,_,rfl,zwf _,aB ‹_›, ?_,rfl⟩;(first|rfl))|(refine ⟨_,_,_,rfl,zwr _,zsr _, ?_,rfl⟩)|(refine ⟨_,_,_,rfl,zwf _,aB ‹_›, ?_,rfl⟩)))|(show Cn (.r _ _ _);refine .any ?_;(first|(refine ⟨_,_,_,rfl,zwr _,zsr _, ?_,rfl⟩;(first|rfl))|(refine ⟨_,_,_,rfl,zwr _,aB ‹_›, ?_,rfl⟩;(first|rfl))|(refine ⟨_,_,_,rfl,zwf _,zsr _, ?_,rfl⟩;(first|rfl))|(refine ⟨_,_,_,rfl,zwf _,aB ‹_›, ?_,rfl⟩;(first|rfl))|(refine ⟨_,_,_,rfl,zwr _,zsr _, ?_,rfl⟩)|(refine ⟨_,_,_,rfl,zwf _,aB ‹_›, ?_,rfl⟩)))|(refine ⟨⟨(i+1,some (i1,j1),S'),by simp only;omega,hH1,anY hidH hS ha hK1,asY hidH hS ha hK1⟩, ?_, ?_⟩)|apply wZ;rfl|show Cn _;constructor|exact rfl|apply KR.mk;kernel_rfl|apply aQ 8;rfl;rfl|((apply eE;rfl;rfl;exact hput;rfl;rfl;rfl;intro _ S' hR;obtain ⟨i1,j1,hH1,hK1⟩:=hR))|apply wI;rfl|apply gE;omega|apply gE;show 0<_;omega|apply gE;show 1<_;omega|omega|intros;omega|simp only [zql];omega|intros;simp only [zql];omega|intros;simp only;omega|intro h;omega|intro h;simp at h;done|intro h;simp at h;omega|(intro h;simp at h)|intro h)
theorem pP (a b:Vl) (l m:List Vl):iS (a::l) (b::m)=if a=b then iS l m else bS a b:=by
 unfold iS
 have e:apR (a::l) (b::m)=if eM b a=true then apR l m+1 else 0:=rfl
 rw [e]
 by_cases q:a=b
 ·subst q
  rw [zp rfl,zp ((pT a a).2 rfl)]
  simp only [zlc,Nat.add_lt_add_iff_right]
  by_cases h:apR l m<l.length/\apR l m<m.length
  ·rw [zp h,zp h,getElem!_pos (a::l) (apR l m+1) (by simp;omega),getElem!_pos (a::m) (apR l m+1) (by simp;omega),getElem!_pos l _ h.1,getElem!_pos m _ h.2]
   rfl
  ·rw [zn h,zn h]
 ·rw [zn q,zn (λw=>q ((pT b a).1 w).symm)]
  rw [zp (by simp)]
  rfl
theorem lessR_ord :OrdX iS:=by
 have n0:∀l,iS [] l=decide (0<l.length):=λl=>by
  unfold iS apR
  cases l<;>simp
 have n1:∀a l,iS (a::l) []=false:=λa l=>by
  unfold iS apR
  simp
 refine ⟨fun {a b} h=> ?_,fun {a b c} h1 h2=> ?_,fun {a b} h1 h2=> ?_⟩
 ·induction a generalizing b with
  |nil=>
   cases b with
   |nil=>rw [n0] at h;simp at h
   |cons y b=>exact n1 y b
  |cons x a ih=>
   cases b with
   |nil=>rw [n1] at h;cases h
   |cons y b=>
    rw [pP] at h⊢
    by_cases q:x=y
    ·rw [zp q] at h;rw [zp q.symm];exact ih h
    ·rw [zn q] at h;rw [zn (Ne.symm q)];exact lessV_ord.asy h
 ·induction a generalizing b c with
  |nil=>
   cases b with
   |nil=>exact h2
   |cons y b=>rw [n0] at h1;simp at h1
  |cons x a ih=>
   cases c with
   |nil=>rw [n0] at h2;simp at h2
   |cons z c=>
    cases b with
    |nil=>exact n1 z c
    |cons y b=>
     rw [pP] at h1 h2⊢
     by_cases q:x=y
     ·rw [zp q] at h1
      subst q
      by_cases q2:z=x
      ·rw [zp q2] at h2⊢;exact ih h1 h2
      ·rw [zn q2] at h2⊢;exact h2
     ·rw [zn q] at h1
      by_cases q2:z=x
      ·subst q2
       rw [zn q];exact h1
      ·rw [zn q2] at h2
       by_cases q3:z=y
       ·subst q3
        exact absurd (lessV_ord.eq h1 h2) q
       ·rw [zn q3];exact lessV_ord.neg h1 h2
 ·induction a generalizing b with
  |nil=>
   cases b with
   |nil=>rfl
   |cons y b=>rw [n0] at h1;simp at h1
  |cons x a ih=>
   cases b with
   |nil=>rw [n0] at h2;simp at h2
   |cons y b=>
    rw [pP] at h1 h2
    by_cases q:x=y
    ·rw [zp q] at h1;rw [zp q.symm] at h2
     rw [q,ih h1 h2]
    ·rw [zn q] at h1;rw [zn (Ne.symm q)] at h2
     exact absurd (lessV_ord.eq h1 h2) q
def plI (n:Int):Nat:=(max n (-1-n)).toNat
def dP (n:Int) (a b:It):Vl:=if n<0 then b.row[plI n]! else a.row[plI n]!
def ltQ :List Int->It->It->Bool
 |[],a,b=>iS a.row b.row
 |n::l,a,b=>if bS (dP n a b) (dP n b a)=true then true else if bS (dP n b a) (dP n a b)=true then false else ltQ l a b
def fR :List Int->It->It->Int
 |[],a,b=>if iS a.row b.row=true then-1 else if iS b.row a.row=true then 1 else 0
 |n::l,a,b=>if bS (dP n a b) (dP n b a)=true then-1 else if bS (dP n b a) (dP n a b)=true then 1 else fR l a b
theorem oO :∀(l:List Int) (a b:It),fR l a b<0↔ltQ l a b=true
 |[],a,b=>by
  unfold fR ltQ
  split
  ·rename_i h;simp [h]
  ·rename_i h
   split<;>simp [h]
 |n::l,a,b=>by
  unfold fR ltQ
  split
  ·simp
  ·split
   ·simp
   ·exact oO l a b
theorem WeakO.swo {α:Type} {lt:α->α->Bool} (h:WeakO lt):Sort.SWO lt where
 irrefl x:=by
  cases e:lt x x with
  |false=>rfl
  |true=>have:=h.asy e;rw [e] at this;cases this
 trans x y z h1 h2:=by
  cases e:lt x z with
  |true=>rfl
  |false=>have:=h.neg (h.asy h2) e;rw [h1] at this;cases this
 ntrans x y z h1 h2:=h.neg h2 h1
theorem xK :∀l:List Int,WeakO (ltQ l)
 |[]=>⟨fun {a b} h=>lessR_ord.asy (a:=a.row) (b:=b.row) h,fun {a b c} h1 h2=>lessR_ord.neg (a:=a.row) (b:=b.row) (c:=c.row) h1 h2⟩
 |n::l=>by
  have ih:=xK l
  have key:∀a b,(ltQ (n::l) a b=true↔bS (dP n a b) (dP n b a)=true\/bS (dP n b a) (dP n a b)=false/\ltQ l a b=true):=λa b=>by
   have e:ltQ (n::l) a b=if bS (dP n a b) (dP n b a)=true then true else if bS (dP n b a) (dP n a b)=true then false else ltQ l a b:=rfl
   rw [e]
   cases h1:bS (dP n a b) (dP n b a)<;>cases h2:bS (dP n b a) (dP n a b)<;>simp
  have k1:∀a b,dP n a b=if n<0 then b.row[plI n]! else a.row[plI n]!:=λ_ _=>rfl
  have w:WeakO (λa b=>bS (dP n a b) (dP n b a)):=by
   by_cases hn:n<0
   ·have e:∀a b,dP n a b=b.row[plI n]!:=λa b=>by rw [k1,zp hn]
    refine ⟨fun {a b} h=> ?_,fun {a b c} h1 h2=> ?_⟩
    ·simp only [e] at h⊢;exact lessV_ord.asy h
    ·simp only [e] at h1 h2⊢;exact lessV_ord.neg h2 h1
   ·have e:∀a b,dP n a b=a.row[plI n]!:=λa b=>by rw [k1,zn hn]
    refine ⟨fun {a b} h=> ?_,fun {a b c} h1 h2=> ?_⟩
    ·simp only [e] at h⊢;exact lessV_ord.asy h
    ·simp only [e] at h1 h2⊢;exact lessV_ord.neg h1 h2
  have nkey:∀a b,(ltQ (n::l) a b=false↔bS (dP n a b) (dP n b a)=false/\(bS (dP n b a) (dP n a b)=true\/ltQ l a b=false)):=λa b=>by
   rw [<-Bool.not_eq_true,key]
   cases bS (dP n a b) (dP n b a)<;>cases bS (dP n b a) (dP n a b)<;>cases ltQ l a b<;>simp
  refine ⟨fun {a b} h=> ?_,fun {a b c} h1 h2=> ?_⟩
  ·rw [key] at h
   rw [nkey]
   rcases h with h|⟨h1,h2⟩
   ·exact ⟨w.asy h, .inl h⟩
   ·exact ⟨h1, .inr (ih.asy h2)⟩
  ·rw [nkey] at h1 h2⊢
   have q1:bS (dP n c b) (dP n b c)=false:=w.neg h1.1 h2.1
   refine ⟨q1, ?_⟩
   rcases h1.2 with p|p
   ·left
    cases e:bS (dP n b c) (dP n c b) with
    |true=>rfl
    |false=>have:=w.neg (a:=c) (b:=a) (c:=b) h2.1 e;rw [p] at this;cases this
   ·rcases h2.2 with p'|p'
    ·left
     cases e:bS (dP n b c) (dP n c b) with
     |true=>rfl
     |false=>have:=w.neg (a:=b) (b:=c) (c:=a) e h1.1;rw [p'] at this;cases this
    ·right;exact ih.neg p p'
theorem pN (q:Qu) (hol:q.order.length<4611686018427387904) (a b:It) (hp:∀n∈q.order, -9223372036854775808<=n/\n<=9223372036854775807/\max n (-1-n)<a.row.length/\max n (-1-n)<b.row.length) (ha:a.row.length<4611686018427387904) (hb:b.row.length<4611686018427387904):PF Tryz.prog 51 [.agg q.cells, .agg a.cells, .agg b.cells] (vi (fR q.order a b)):=by
 have h1:=uZ a.row b.row ha hb
 have h2:=uZ b.row a.row hb ha
 generalize hO:fR q.order a b=O
 refine pF Tryz.func51 rfl (λst=> ?_)
 focus ((repeat' first|(show Cn (.r _ _ _);refine .any ⟨_,_,_,rfl,zwr _,zsr _, ?_,rfl⟩;try rfl)|apply wZ;rfl|show Cn _;constructor|exact rfl|apply KR.mk;kernel_rfl|omega|intros;omega|simp only [zql];omega|intros;simp only [zql];omega|intros;simp only;omega|intro h;omega|intro h;simp at h;done|intro h;simp at h;omega|(intro h;simp at h)|intro h))
 refine aG (X:={x:Nat//x<=q.order.length/\fR (q.order.drop x) a b=O}) (λi=>((((((St.nil 59 st).var 4 77 (a.cells)).var 5 77 (b.cells)).pv 12 (.seq (q.order.map I1))).pv 13 ((vi (((q.order.map I1).length:Nat))))).pv 14 ((vi ((i.1:Nat)))))) (λi=>q.order.length-i.1) ⟨0,by omega,hO⟩ ?_ (λi=> ?_)
 ·(repeat' first|show Cn _;constructor|exact rfl)
 obtain ⟨i,hi,hI⟩:=i
 dsimp only
 by_cases hend:q.order.length<=i
 ·rw [List.drop_of_length_le hend] at hI
  unfold fR at hI
  cases e1:iS a.row b.row with
  |true=>
   rw [e1,zp rfl] at hI
   rw [e1] at h1
   (repeat' first|(show Cn (.r _ _ _);refine .any ⟨_,_,_,rfl,zwr _,zsr _, ?_,rfl⟩;try first|rfl|(rw [<-hI]);done)|apply wZ;rfl|show Cn _;constructor|exact rfl|apply KR.mk;kernel_rfl|(apply h1<;>(first|assumption|omega))|show (_:PV)=_;(rw [<-hI]);done|apply wY;rfl|omega|intros;omega|simp only [zql];omega|intros;simp only [zql];omega|intros;simp only;omega|intro h;omega|intro h;simp at h;done|intro h;simp at h;omega|(intro h;simp at h)|intro h)
  |false=>
   rw [e1,zn (by simp)] at hI
   rw [e1] at h1
   cases e2:iS b.row a.row with
   |true=>
    rw [e2,zp rfl] at hI
    rw [e2] at h2
    (repeat' first|(show Cn (.r _ _ _);refine .any ⟨_,_,_,rfl,zwr _,zsr _, ?_,rfl⟩;try first|rfl|(rw [<-hI]);done)|apply wZ;rfl|show Cn _;constructor|exact rfl|apply KR.mk;kernel_rfl|((first|apply h1|apply h2)<;>(first|assumption|omega))|show (_:PV)=_;(rw [<-hI]);done|apply wY;rfl|omega|intros;omega|simp only [zql];omega|intros;simp only [zql];omega|intros;simp only;omega|intro h;omega|intro h;simp at h;done|intro h;simp at h;omega|(intro h;simp at h)|intro h)
   |false=>
    rw [e2,zn (by simp)] at hI
    rw [e2] at h2
    (repeat' first|(show Cn (.r _ _ _);refine .any ⟨_,_,_,rfl,zwr _,zsr _, ?_,rfl⟩;try first|rfl|(rw [<-hI]);done)|apply wZ;rfl|show Cn _;constructor|exact rfl|apply KR.mk;kernel_rfl|((first|apply h1|apply h2)<;>(first|assumption|omega))|show (_:PV)=_;(rw [<-hI]);done|apply wY;rfl|omega|intros;omega|simp only [zql];omega|intros;simp only [zql];omega|intros;simp only;omega|intro h;omega|intro h;simp at h;done|intro h;simp at h;omega|(intro h;simp at h)|intro h)
 have hil:i<q.order.length:=by omega
 obtain ⟨p1,p2,p3,p4⟩:=hp _ (zgm hil)
 rw [List.drop_eq_getElem_cons hil] at hI
 unfold fR at hI
 generalize hn:q.order[i]=n at*
 have hrow:(q.order.map I1)[i]?=some (I1 n):=by simp [hil,hn]
 obtain ⟨m,hm⟩:∃m:Nat,max n (-1-n)=(m:Int):=⟨plI n,by unfold plI;omega⟩
 have hpl:plI n=m:=by unfold plI;omega
 have hma:m<a.row.length:=by omega
 have hmb:m<b.row.length:=by omega
 unfold dP at hI
 rw [hpl,getElem!_pos a.row m hma,getElem!_pos b.row m hmb] at hI
 have hv:=iH
 by_cases hn0:n<0
 ·rw [zp hn0,zp hn0] at hI
  have v1:=hv b.row[m] a.row[m]
  have v2:=hv a.row[m] b.row[m]
  cases e1:bS b.row[m] a.row[m] with
  |true=>
   rw [e1,zp rfl] at hI
   rw [e1] at v1
   (repeat' first|apply wDO pk [0,1,2,3,4,5,6,7,8,9,10,11,12,13,14,16,17,18,15,19] [15] [] [18] [];rfl;rfl;kernel_rfl;rfl;rfl|apply iX;(intro hw;exact (show _=((m:Nat):Int) from hm));(apply gE;omega);rfl|(show Cn (.r _ _ _);refine .any ⟨_,_,_,rfl,zwr _,zsr _, ?_,rfl⟩;try first|rfl|(rw [<-hI]);done)|apply wZ;rfl|show Cn _;constructor|exact rfl|apply KR.mk;kernel_rfl|apply bX pk;(iterate 6 rfl);rotate_left;rfl;(intro hw;rfl);(intro hw;apply hrow<;>omega);(intro _;rfl);rfl|(apply v1<;>(first|assumption|omega))|show (_:PV)=_;(rw [<-hI]);done|apply ldZ pk;iterate 4 rfl|apply wY;rfl|apply wI;rfl|apply gE;omega|apply gE;show 0<_;omega|apply gE;show 1<_;omega|omega|intros;omega|simp only [zql];omega|intros;simp only [zql];omega|intros;simp only;omega|exfalso;omega|intro h;omega|intro h;simp at h;done|intro h;simp at h;omega|(intro h;simp at h)|intro h)
  |false=>
   rw [e1,zn (by simp)] at hI
   rw [e1] at v1
   cases e2:bS a.row[m] b.row[m] with
   |true=>
    rw [e2,zp rfl] at hI
    rw [e2] at v2
    (repeat' first|apply wDO pk [0,1,2,3,4,5,6,7,8,9,10,11,12,13,14,16,17,18,15,19] [15] [] [18] [];rfl;rfl;kernel_rfl;rfl;rfl|apply iX;(intro hw;exact (show _=((m:Nat):Int) from hm));(apply gE;omega);rfl|(show Cn (.r _ _ _);refine .any ⟨_,_,_,rfl,zwr _,zsr _, ?_,rfl⟩;try first|rfl|(rw [<-hI]);done)|apply wZ;rfl|show Cn _;constructor|exact rfl|apply KR.mk;kernel_rfl|apply bX pk;(iterate 6 rfl);rotate_left;rfl;(intro hw;rfl);(intro hw;apply hrow<;>omega);(intro _;rfl);rfl|((first|apply v1|apply v2)<;>(first|assumption|omega))|show (_:PV)=_;(rw [<-hI]);done|apply ldZ pk;iterate 4 rfl|apply wY;rfl|apply wI;rfl|apply gE;omega|apply gE;show 0<_;omega|apply gE;show 1<_;omega|omega|intros;omega|simp only [zql];omega|intros;simp only [zql];omega|intros;simp only;omega|exfalso;omega|intro h;omega|intro h;simp at h;done|intro h;simp at h;omega|(intro h;simp at h)|intro h)
   |false=>
    rw [e2,zn (by simp)] at hI
    rw [e2] at v2
    (repeat' first|apply wDO pk [0,1,2,3,4,5,6,7,8,9,10,11,12,13,14,16,17,18,15,19] [15] [] [18] [];rfl;rfl;kernel_rfl;rfl;rfl|apply iX;(intro hw;exact (show _=((m:Nat):Int) from hm));(apply gE;omega);rfl|(show Cn (.r _ _ _);refine .any ⟨_,_,_,rfl,zwr _,zsr _, ?_,rfl⟩;try rfl)|(refine ⟨⟨i+1,hil,hI⟩, ?_, ?_⟩)|apply wZ;rfl|show Cn _;constructor|exact rfl|apply KR.mk;kernel_rfl|apply bX pk;(iterate 6 rfl);rotate_left;rfl;(intro hw;rfl);(intro hw;apply hrow<;>omega);(intro _;rfl);rfl|((first|apply v1|apply v2)<;>(first|assumption|omega))|apply ldZ pk;iterate 4 rfl|apply wY;rfl|apply wI;rfl|apply gE;omega|apply gE;show 0<_;omega|apply gE;show 1<_;omega|omega|intros;omega|simp only [zql];omega|intros;simp only [zql];omega|intros;simp only;omega|exfalso;omega|intro h;omega|intro h;simp at h;done|intro h;simp at h;omega|(intro h;simp at h)|intro h)
 ·rw [zn hn0,zn hn0] at hI
  have v1:=hv a.row[m] b.row[m]
  have v2:=hv b.row[m] a.row[m]
  cases e1:bS a.row[m] b.row[m] with
  |true=>
   rw [e1,zp rfl] at hI
   rw [e1] at v1
   (repeat' first|apply wDO pk [0,1,2,3,4,5,6,7,8,9,10,11,12,13,14,16,17,18,15,19] [15] [] [18] [];rfl;rfl;kernel_rfl;rfl;rfl|apply iX;(intro hw;exact (show _=((m:Nat):Int) from hm));(apply gE;omega);rfl|(show Cn (.r _ _ _);refine .any ⟨_,_,_,rfl,zwr _,zsr _, ?_,rfl⟩;try first|rfl|(rw [<-hI]);done)|apply wZ;rfl|show Cn _;constructor|exact rfl|apply KR.mk;kernel_rfl|apply bX pk;(iterate 6 rfl);rotate_left;rfl;(intro hw;rfl);(intro hw;apply hrow<;>omega);(intro _;rfl);rfl|(apply v1<;>(first|assumption|omega))|show (_:PV)=_;(rw [<-hI]);done|apply ldZ pk;iterate 4 rfl|apply wY;rfl|apply wI;rfl|apply gE;omega|apply gE;show 0<_;omega|apply gE;show 1<_;omega|omega|intros;omega|simp only [zql];omega|intros;simp only [zql];omega|intros;simp only;omega|exfalso;omega|intro h;omega|intro h;simp at h;done|intro h;simp at h;omega|(intro h;simp at h)|intro h)
  |false=>
   rw [e1,zn (by simp)] at hI
   rw [e1] at v1
   cases e2:bS b.row[m] a.row[m] with
   |true=>
    rw [e2,zp rfl] at hI
    rw [e2] at v2
    (repeat' first|apply wDO pk [0,1,2,3,4,5,6,7,8,9,10,11,12,13,14,16,17,18,15,19] [15] [] [18] [];rfl;rfl;kernel_rfl;rfl;rfl|apply iX;(intro hw;exact (show _=((m:Nat):Int) from hm));(apply gE;omega);rfl|(show Cn (.r _ _ _);refine .any ⟨_,_,_,rfl,zwr _,zsr _, ?_,rfl⟩;try first|rfl|(rw [<-hI]);done)|apply wZ;rfl|show Cn _;constructor|exact rfl|apply KR.mk;kernel_rfl|apply bX pk;(iterate 6 rfl);rotate_left;rfl;(intro hw;rfl);(intro hw;apply hrow<;>omega);(intro _;rfl);rfl|((first|apply v1|apply v2)<;>(first|assumption|omega))|show (_:PV)=_;(rw [<-hI]);done|apply ldZ pk;iterate 4 rfl|apply wY;rfl|apply wI;rfl|apply gE;omega|apply gE;show 0<_;omega|apply gE;show 1<_;omega|omega|intros;omega|simp only [zql];omega|intros;simp only [zql];omega|intros;simp only;omega|exfalso;omega|intro h;omega|intro h;simp at h;done|intro h;simp at h;omega|(intro h;simp at h)|intro h)
   |false=>
    rw [e2,zn (by simp)] at hI
    rw [e2] at v2
    (repeat' first|apply wDO pk [0,1,2,3,4,5,6,7,8,9,10,11,12,13,14,16,17,18,15,19] [15] [] [18] [];rfl;rfl;kernel_rfl;rfl;rfl|apply iX;(intro hw;exact (show _=((m:Nat):Int) from hm));(apply gE;omega);rfl|(show Cn (.r _ _ _);refine .any ⟨_,_,_,rfl,zwr _,zsr _, ?_,rfl⟩;try rfl)|(refine ⟨⟨i+1,hil,hI⟩, ?_, ?_⟩)|apply wZ;rfl|show Cn _;constructor|exact rfl|apply KR.mk;kernel_rfl|apply bX pk;(iterate 6 rfl);rotate_left;rfl;(intro hw;rfl);(intro hw;apply hrow<;>omega);(intro _;rfl);rfl|((first|apply v1|apply v2)<;>(first|assumption|omega))|apply ldZ pk;iterate 4 rfl|apply wY;rfl|apply wI;rfl|apply gE;omega|apply gE;show 0<_;omega|apply gE;show 1<_;omega|omega|intros;omega|simp only [zql];omega|intros;simp only [zql];omega|intros;simp only;omega|exfalso;omega|intro h;omega|intro h;simp at h;done|intro h;simp at h;omega|(intro h;simp at h)|intro h)
end Go.Proofs.YtppdefkgmegipaaGreatDoor
