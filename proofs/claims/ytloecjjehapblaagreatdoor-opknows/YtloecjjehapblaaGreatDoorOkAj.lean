import Derived.Test.YtloecjjehapblaaGreatDoorOkAi
import Derived.Test.YtloecjjehapblaaGreatDoorOkAh
import Derived.Test.YtloecjjehapblaaGreatDoorAcJ
set_option linter.unusedSimpArgs false
set_option linter.unusedVariables false
namespace Go.Proofs.YtloecjjehapblaaGreatDoor.X
open Go Go.Abs
attribute [local irreducible] Ev PWp
set_option maxRecDepth 10000
set_option maxHeartbeats 4000000
mutual
def bR (l:List Int):Ex->Int×Int
 | .mk k n v o=>if k=0 then (l.getD n.toNat 0,0) else if k=1 then (v.kind,0) else
   match gK l o with
   |(_,some no)=>(0,no)
   |(got,none)=>if xY (rJ k) 0 got then (1,0) else (0,6)
def gK (l:List Int):List Ex->List Int×Option Int
 |[]=>([],none)
 |e::es=>if (bR l e).2=0 then ((bR l e).1::(gK l es).1,(gK l es).2) else ([],some (bR l e).2)
end
theorem uB {l:List Int}:∀{os:List Ex},(∀x∈os,(bR l x).2=0)->gK l os=(os.map λx=>(bR l x).1,none)
 |[],_=>rfl
 |e::es,h=>by
  have ih:=uB (l:=l) (os:=es) λx hx=>h x (by simp [hx])
  simp [gK,h e (by simp),ih]
theorem uK {l:List Int}:∀{os:List Ex} {i:Nat} {x:Ex},(∀j y,j<i->os[j]?=some y->(bR l y).2=0)->os[i]?=some x->(bR l x).2≠0->(gK l os).2=some (bR l x).2
 |[],_,_,_,h,_=>by simp at h
 |e::es,0,x,_,h,hx=>by
  simp at h;subst h
  simp [gK,hx]
 |e::es,i+1,x,h0,h,hx=>by
  simp at h
  have h1:=h0 0 e (by omega) (by simp)
  have ih:=uK (l:=l) (os:=es) (i:=i) (λj y hj hy=>h0 (j+1) y (by omega) (by simpa using hy)) h hx
  simp [gK,h1,ih]
theorem tN {k n:Int} {v:Vl} {of:List Ex} (h:bQ (.mk k n v of)=true) (hk0:¬k=0) (hk1:¬k=1):(2<=k/\k<=10)/\n=0/\vz v=true/\(of.length:Int)=kP k/\∀x∈of,bQ x=true:=by
 simp only [bQ,mJ,if_false,zba,zde,Bool.or_eq_true,hk0,hk1,false_or,nK,zal] at h
 exact ⟨h.1.1.1.1,h.1.1.1.2,h.1.1.2,h.1.2,h.2⟩
theorem akY (k:Int):kP k<=2/\1<=kP k:=by unfold kP;split<;>omega
theorem vR :Tryz.prog.bytesOf 3=8:=by kernel_rfl
theorem qZ {α β:Type} {l:List α} {i:Nat} {x:α} (h:l[i]?=some x) (f:α->β):(l.take (i+1)).map f=(l.take i).map f++[f x]:=by
 obtain ⟨hl,rfl⟩:=zge.1 h
 rw [List.take_succ_eq_append_getElem hl,List.map_append]
 rfl
theorem amV {k n:Int} {v:Vl} {of:List Ex} (l:List Int) (hl:l.length<2^62) (hk:k=0\/k=1) (hf:bQ (.mk k n v of)=true) (ht:fF l.length (.mk k n v of)=true):
  PF Tryz.prog 202 [.agg (Ex.mk k n v of).cells, .seq (jX l)] (.tup [(PV.val (Value.int .i64 ((bR l (.mk k n v of)).1))),(PV.val (Value.int .i64 ((bR l (.mk k n v of)).2)))]):=by
 by_cases hk0:k=0
 ·subst hk0
  simp [bQ,mJ] at hf
  simp [fF] at ht
  have hn:n.toNat<l.length:=by omega
  obtain ⟨x,hx⟩:=iK hn
  have hrow:=acZ hx
  have e:bR l (.mk 0 n v of)=(x,0):=by simp [bR,hx]
  rw [e]
  have hnn:n=((n.toNat:Nat):Int):=by omega
  refine aG aF Tryz.func202 (by kernel_rfl) rfl rfl rfl rfl (λst=> ?_)
  (try apply wO pk;rfl);(repeat' first|show Cn _;constructor|apply wC pk;rfl;rfl|apply wE pk;rfl;rfl|refine aB rfl ?_ ?_<;>intro h<;>(try simp at h)<;>try omega|(refine aC ?_;refine ⟨_,_,_,rfl,zwr _,zsr _, ?_,rfl⟩;try rfl)|apply aP pk;(iterate 6 rfl);rotate_left;rfl;(intro hw;exact hnn);(intro hw;apply hrow<;>omega);(intro _;rfl);rfl)
 ·have hk1:k=1:=by omega
  subst hk1
  have e:bR l (.mk 1 n v of)=(v.kind,0):=by simp [bR]
  rw [e]
  refine aG aF Tryz.func202 (by kernel_rfl) rfl rfl rfl rfl (λst=> ?_)
  (try apply wO pk;rfl);(repeat' first|show Cn _;constructor|apply wC pk;rfl;rfl|refine aB rfl ?_ ?_<;>intro h<;>(try simp at h)<;>try omega|(refine aC ?_;refine ⟨_,_,_,rfl,zwr _,zsr _, ?_,rfl⟩;try rfl))
mutual
theorem zA (l:List Int) (hl:l.length<2^62):∀(e:Ex),e.ok->bQ e=true->fF l.length e=true->PF Tryz.prog 202 [.agg e.cells, .seq (jX l)] (.tup [(.val (.int .i64 ((bR l e).1))),(.val (.int .i64 ((bR l e).2)))])
 | .mk k n v of,hok,hf,ht=>by
  have ih:=wU l hl of
  by_cases hk01:k=0\/k=1
  ·exact amV l hl hk01 hf ht
  have hk0:¬k=0:=by omega
  have hk1:¬k=1:=by omega
  obtain ⟨hk,hn,hv,hlen,hall⟩:=tN hf hk0 hk1
  simp only [fF,zba,oU,zal] at ht
  simp only [Ex.ok] at hok
  have hm:=akY k
  have hrl:=Ex.rows_len of
  obtain ⟨fid,caps,hlook,_⟩:=yL hk.1 hk.2
  have hE:bR l (.mk k n v of)=match gK l of with|(_,some no)=>(0,no)|(got,none)=>if xY (rJ k) 0 got then (1,0) else (0,6):=by simp only [bR,zn hk0,zn hk1];try rfl
  generalize bR l (.mk k n v of)=E at*
  refine aG aF Tryz.func202 (by kernel_rfl) rfl rfl rfl rfl (λst=> ?_)
  focus ((try apply wO pk;rfl);(repeat' first|show Cn _;constructor|apply wC pk;rfl;rfl|refine aB rfl ?_ ?_<;>intro h<;>(try simp at h)<;>try omega))
  refine yC 6 3 rfl rfl (λid hid=> ?_)
  have hid:st id=none:=hid
  refine aK (X:={x:Nat×Nat//x.1<=of.length/\st x.2=none/\∀j y,j<x.1->of[j]?=some y->(bR l y).2=0}) (λi=>(((((((St.nil 53 (upd st i.1.2 (some (.tok 3)))).pv 1 (.seq (jX l))).var 2 88 ((Ex.mk k n v of).cells)).pv 6 (.own i.1.2 (((of.take i.1.1).map λy=>(bR l y).1).map I1))).pv 26 (.seq (Ex.rows of))).pv 27 ((PV.val (Value.int .i64 (((Ex.rows of).length:Nat)))))).pv 28 ((PV.val (Value.int .i64 ((i.1.1:Nat))))))) (λi=>of.length-i.1.1) ⟨(0,id),by simp,hid,by simp⟩ ?_ (λi=> ?_)
  ·(((repeat (first|refine Sub.pv ?_ rfl|refine Sub.var ?_ rfl rfl));(exact Sub.nil _ _ _ (zsr _) rfl)))
  obtain ⟨⟨i,id⟩,hi,hid,hz⟩:=i
  simp only at hi hid hz
  dsimp only
  by_cases hend:of.length<=i
  ·have htk:of.take i=of:=uL (by omega)
   have hgot:gK l of=(of.map λy=>(bR l y).1,none):=uB λx hx=>by
    obtain ⟨j,hj⟩:=List.mem_iff_getElem?.1 hx
    exact hz j x (by have:=(zge.1 hj).1;omega) hj
   rw [hgot] at hE
   simp only at hE
   rw [htk]
   have hts:=rA (m:=kP k) (nb:=rJ k) (f:=fid) (caps:=caps) (l:=of.map λy=>(bR l y).1) (by simp;omega)
   unfold jX at hts
   generalize xY (rJ k) 0 (of.map λy=>(bR l y).1)=G at*
   cases G with
   |true=>
    rw [zp rfl] at hE
    (try apply wO pk;rfl);(repeat' first|show Cn _;constructor|apply wC pk;rfl;rfl|apply wE pk;rfl;rfl|apply wD pk [] [];kernel_rfl;rfl;rfl|refine aB rfl ?_ ?_<;>intro h<;>(try simp at h)<;>try omega|(refine aC ?_;first|refine ⟨_,_,_,rfl,zwr _,zsr _, ?_,rfl⟩;(fail)|refine ⟨_,_,_,rfl,zwr _,aL ‹_›, ?_,rfl⟩;(((rw [hE]);done))|refine ⟨_,_,_,rfl,zwf _,zsr _, ?_,rfl⟩;(fail)|refine ⟨_,_,_,rfl,zwf _,aL ‹_›, ?_,rfl⟩;(fail)|(refine ⟨_,_,_,rfl,zwr _,zsr _, ?_,rfl⟩)|(refine ⟨_,_,_,rfl,zwf _,aL ‹_›, ?_,rfl⟩))|(apply aH;rfl;rfl;rfl;(intro _;(apply eH)<;>first|assumption|omega);rotate_left;rfl;rfl)|(apply tT;rfl;rfl;rfl;(intro _;(apply hts)<;>first|assumption|omega);rotate_left;rfl;rfl)|apply kW pk;(iterate 4 rfl);(focus repeat' constructor);rfl;exact hlook;rfl)
   |false=>
    rw [zn (by simp)] at hE
    (try apply wO pk;rfl);(repeat' first|show Cn _;constructor|apply wC pk;rfl;rfl|apply wE pk;rfl;rfl|apply wD pk [] [];kernel_rfl;rfl;rfl|refine aB rfl ?_ ?_<;>intro h<;>(try simp at h)<;>try omega|(refine aC ?_;first|refine ⟨_,_,_,rfl,zwr _,zsr _, ?_,rfl⟩;(fail)|refine ⟨_,_,_,rfl,zwr _,aL ‹_›, ?_,rfl⟩;(((rw [hE]);done))|refine ⟨_,_,_,rfl,zwf _,zsr _, ?_,rfl⟩;(fail)|refine ⟨_,_,_,rfl,zwf _,aL ‹_›, ?_,rfl⟩;(fail)|(refine ⟨_,_,_,rfl,zwr _,zsr _, ?_,rfl⟩)|(refine ⟨_,_,_,rfl,zwf _,aL ‹_›, ?_,rfl⟩))|(apply aH;rfl;rfl;rfl;(intro _;(apply eH)<;>first|assumption|omega);rotate_left;rfl;rfl)|(apply tT;rfl;rfl;rfl;(intro _;(apply hts)<;>first|assumption|omega);rotate_left;rfl;rfl)|apply kW pk;(iterate 4 rfl);(focus repeat' constructor);rfl;exact hlook;rfl)
  obtain ⟨x,hx⟩:=iK (l:=of) (i:=i) (by omega)
  have hrow:=Ex.rows_get hx
  have hm':=List.mem_of_getElem? hx
  have ihx:=ih x hm' (Ex.oks_mem hok.2 hm') (hall x hm') (ht.2 x hm')
  have hsome:=λh0=>uK (l:=l) hz hx h0
  have hzs:(bR l x).2=0->∀j y,j<i+1->of[j]?=some y->(bR l y).2=0:=λh0 j y hj hy=>by
   by_cases hji:j=i
   ·subst hji;rw [hx] at hy;injection hy with hy;subst hy;exact h0
   ·exact hz j y (by omega) hy
  have hmap:((of.take (i+1)).map λy=>(bR l y).1).map I1=((of.take i).map λy=>(bR l y).1).map I1++[I1 (bR l x).1]:=by rw [qZ hx (λy=>(bR l y).1),List.map_append];rfl
  have hE2:(bR l x).2≠0->E=(0,(bR l x).2):=λh0=>by
   have:=hsome h0
   rw [hE]
   revert this
   cases gK l of with|mk a b=>intro this;simp only at this;subst this;rfl
  clear hsome hE
  generalize hr:bR l x=r at*
  obtain ⟨r1,r2⟩:=r
  obtain ⟨k',n',v',of'⟩:=x
  dsimp only at*
  by_cases h2:r2=0
  ·have hz2:=hzs h2
   (try apply wO pk;rfl);(repeat' first|show Cn _;constructor|apply wC pk;rfl;rfl|apply wE pk;rfl;rfl|refine aB rfl ?_ ?_<;>intro h<;>(try simp at h)<;>try omega|(apply aH;rfl;rfl;rfl;(intro _;apply ihx<;>first|assumption|omega);rotate_left;rfl;rfl)|apply aP pk;(iterate 6 rfl);rotate_left;rfl;(intro hw;rfl);(intro hw;apply hrow<;>omega);(intro _;exact (Ex.cells_len _));rfl|(refine ⟨⟨(i+1,id'),by simp only;omega,iO hid',hz2⟩, ?_,by simp only;omega⟩;((dsimp only;rw [hmap]));(((repeat (first|refine Sub.pv ?_ rfl|refine Sub.var ?_ rfl rfl|refine Sub.pv' ?_ rfl (by (first|rfl|simp [I1];done))));(exact Sub.nil _ _ _ (cR ‹_›) rfl))))|(apply apS pk (r1) 8;(iterate 8 rfl);exact aA _ _ _;exact λ_=>rfl;exact λ_=>rfl;exact vR;((simp;omega));((simp;omega));rfl;intro id' hid')|intros;(try simp only [zql]);omega)
  ·have e:=hE2 h2
   (try apply wO pk;rfl);(repeat' first|show Cn _;constructor|apply wC pk;rfl;rfl|apply wE pk;rfl;rfl|refine aB rfl ?_ ?_<;>intro h<;>(try simp at h)<;>try omega|(refine aC ?_;first|refine ⟨_,_,_,rfl,zwr _,zsr _, ?_,rfl⟩;(fail)|refine ⟨_,_,_,rfl,zwr _,aL ‹_›, ?_,rfl⟩;(((rw [e]);done))|refine ⟨_,_,_,rfl,zwf _,zsr _, ?_,rfl⟩;(fail)|refine ⟨_,_,_,rfl,zwf _,aL ‹_›, ?_,rfl⟩;(fail)|(refine ⟨_,_,_,rfl,zwr _,zsr _, ?_,rfl⟩)|(refine ⟨_,_,_,rfl,zwf _,aL ‹_›, ?_,rfl⟩))|(apply aH;rfl;rfl;rfl;(intro _;apply ihx<;>first|assumption|omega);rotate_left;rfl;rfl)|apply aP pk;(iterate 6 rfl);rotate_left;rfl;(intro hw;rfl);(intro hw;apply hrow<;>omega);(intro _;exact (Ex.cells_len _));rfl)
theorem wU (l:List Int) (hl:l.length<2^62):∀(os:List Ex) (x:Ex),x∈os->x.ok->bQ x=true->fF l.length x=true->PF Tryz.prog 202 [.agg x.cells, .seq (jX l)] (.tup [(.val (.int .i64 ((bR l x).1))),(.val (.int .i64 ((bR l x).2)))])
 |[],_,h,_=>by cases h
 |e::es,x,h,hok=>by
  rcases zmc.1 h with h|h
  ·rw [h] at hok⊢;exact zA l hl e hok
  ·exact wU l hl es x h hok
end
def kD (e:Ex) (l:List Int):Int×Int:=if uD e≠0 then (0,uD e) else if fF l.length e then bR l e else (0,4)
theorem acN {e:Ex} (h:uD e=0):qB 20 e=false/\bQ e=true:=by
 unfold uD at h
 split at h
 ·omega
 ·rename_i h1
  split at h
  ·rename_i h2;exact ⟨by simpa using h1,h2⟩
  ·omega
theorem atD {e:Ex} (hok:e.ok) {l:List Int} (hl:l.length<2^62):PF Tryz.prog 125 [.agg e.cells, .seq (jX l)] (.tup [(.val (.int .i64 ((kD e l).1))),(.val (.int .i64 ((kD e l).2)))]):=by
 have h1:=iW hok
 have h2:=aaK ((l.length:Nat):Int) e hok
 have hlen:=adY l
 rw [<-hlen] at h2
 by_cases hm:uD e=0
 ·rw [hm] at h1
  cases ht:fF l.length e with
  |true=>
   have h3:=zA l hl e hok (acN hm).2 ht
   rw [hlen,ht] at h2
   rw [<-hlen] at h2
   have e1:kD e l=bR l e:=by unfold kD;rw [zn (λq=>q hm),zp ht]
   rw [e1]
   generalize bR l e=R at*
   clear hm ht e1
   obtain ⟨k,n,v,of⟩:=e
   refine aG aF Tryz.func125 (by kernel_rfl) rfl rfl rfl rfl (λst=> ?_)
   (try apply wO pk;rfl);(repeat' first|show Cn _;constructor|apply wC pk;rfl;rfl|apply wE pk;rfl;rfl|refine aB rfl ?_ ?_<;>intro h<;>(try simp at h)<;>try omega|(refine aC ?_;refine ⟨_,_,_,rfl,zwr _,zsr _, ?_,rfl⟩;try rfl)|(apply aH;rfl;rfl;rfl;(intro _;(first|apply h1|apply h2|apply h3)<;>first|assumption|omega);rotate_left;rfl;rfl))
  |false=>
   rw [hlen,ht] at h2
   rw [<-hlen] at h2
   have e1:kD e l=(0,4):=by unfold kD;rw [zn (λq=>q hm),zn (by rw [ht];simp)]
   rw [e1]
   clear hm ht e1
   obtain ⟨k,n,v,of⟩:=e
   refine aG aF Tryz.func125 (by kernel_rfl) rfl rfl rfl rfl (λst=> ?_)
   (try apply wO pk;rfl);(repeat' first|show Cn _;constructor|apply wC pk;rfl;rfl|apply wE pk;rfl;rfl|refine aB rfl ?_ ?_<;>intro h<;>(try simp at h)<;>try omega|(refine aC ?_;refine ⟨_,_,_,rfl,zwr _,zsr _, ?_,rfl⟩;try rfl)|(apply aH;rfl;rfl;rfl;(intro _;(first|apply h1|apply h2)<;>first|assumption|omega);rotate_left;rfl;rfl))
 ·have e1:kD e l=(0,uD e):=by unfold kD;rw [zp hm]
  rw [e1]
  generalize uD e=M at*
  clear e1 h2
  obtain ⟨k,n,v,of⟩:=e
  refine aG aF Tryz.func125 (by kernel_rfl) rfl rfl rfl rfl (λst=> ?_)
  (try apply wO pk;rfl);(repeat' first|show Cn _;constructor|apply wC pk;rfl;rfl|apply wE pk;rfl;rfl|refine aB rfl ?_ ?_<;>intro h<;>(try simp at h)<;>try omega|(refine aC ?_;refine ⟨_,_,_,rfl,zwr _,zsr _, ?_,rfl⟩;try rfl)|(apply aH;rfl;rfl;rfl;(intro _;apply h1<;>first|assumption|omega);rotate_left;rfl;rfl))
mutual
def dQ (row:List Vl):Ex->Vl×Int
 | .mk k n v o=>if k=0 then (if n>=row.length then (v0,4) else (row.getD n.toNat v0,0)) else if k=1 then (v,0) else
   match kK row o with
   |(_,some no)=>(v0,no)
   |(got,none)=>if xY (rJ k) 0 (got.map Vl.kind) then sW k (got.getD 0 v0) (got.getD (kP k-1).toNat v0) else (v0,6)
def kK (row:List Vl):List Ex->List Vl×Option Int
 |[]=>([],none)
 |e::es=>if (dQ row e).2=0 then ((dQ row e).1::(kK row es).1,(kK row es).2) else ([],some (dQ row e).2)
end
theorem xN {row:List Vl}:∀{os:List Ex},(∀x∈os,(dQ row x).2=0)->kK row os=(os.map λx=>(dQ row x).1,none)
 |[],_=>rfl
 |e::es,h=>by
  have ih:=xN (row:=row) (os:=es) λx hx=>h x (by simp [hx])
  simp [kK,h e (by simp),ih]
theorem xB {row:List Vl}:∀{os:List Ex} {i:Nat} {x:Ex},(∀j y,j<i->os[j]?=some y->(dQ row y).2=0)->os[i]?=some x->(dQ row x).2≠0->(kK row os).2=some (dQ row x).2
 |[],_,_,_,h,_=>by simp at h
 |e::es,0,x,_,h,hx=>by
  simp at h;subst h
  simp [kK,hx]
 |e::es,i+1,x,h0,h,hx=>by
  simp at h
  have h1:=h0 0 e (by omega) (by simp)
  have ih:=xB (row:=row) (os:=es) (i:=i) (λj y hj hy=>h0 (j+1) y (by omega) (by simpa using hy)) h hx
  simp [kK,h1,ih]
theorem avI {v:Vl} (h:sD v=true):lim v.n:=by
 unfold sD at h
 split at h
 ·simp at h;unfold lim;omega
 ·split at h
  ·simp at h;unfold lim;omega
  ·split at h
   ·simp at h;unfold lim;omega
   ·cases h
theorem rY :lim v0.n:=by unfold lim v0;simp only;omega
theorem aeI (b:Bool):lim (oF b).n:=by unfold lim oF vN;cases b<;>simp
theorem ayO {op:Int->Int->Int} {a b:Vl}:lim (yP op a b).1.n:=by
 unfold yP
 split
 ·exact rY
 ·rename_i h
  simp [akH] at h
  unfold lim vN;simp only;omega
theorem adN {r:Vl->Vl->Vl×Int} {a b:Vl} (h:lim (r a b).1.n):lim (kN r a b).1.n:=by
 unfold kN
 split
 ·exact rY
 ·exact h
theorem aBM (k:Int) (a b:Vl):lim (sW k a b).1.n:=by
 unfold sW
 repeat' split
 all_goals first
  |exact adN ayO
  |exact adN (aeI _)
  |exact aeI _
  |(unfold adH;(repeat' split)<;>first|exact rY|unfold lim vN;simp only;omega)
theorem aBh {row:List Vl} (h:∀v∈row,lim v.n) (i:Nat):lim (row.getD i v0).n:=by
 rw [List.getD_eq_getElem?_getD]
 cases hi:row[i]? with
 |none=>exact rY
 |some x=>exact h x (List.mem_of_getElem? hi)
theorem aA3 {row:List Vl} (hr:∀v∈row,lim v.n):∀{e:Ex},bQ e=true->lim (dQ row e).1.n
 | .mk k n v of,hf=>by
  simp only [dQ]
  split
  ·split
   ·exact rY
   ·exact aBh hr _
  ·split
   ·rename_i h0 h1
    subst h1
    simp [bQ,mJ] at hf
    exact avI hf.1.2
   ·split
    ·exact rY
    ·split
     ·exact aBM _ _ _
     ·exact rY
def rowOK (row:List Vl):Prop:=row.length<2^62/\∀v∈row,lim v.n
theorem axH {k n:Int} {v:Vl} {of:List Ex} {row:List Vl} (hr:rowOK row) (hk:k=0\/k=1) (hf:bQ (.mk k n v of)=true):
  PF Tryz.prog 181 [.agg (Ex.mk k n v of).cells, .seq (row.map Vl.cells)] (oK (dQ row (.mk k n v of))):=by
 have hlen:(row.map Vl.cells).length=row.length:=zql _
 have hrl:=hr.1
 by_cases hk0:k=0
 ·subst hk0
  simp [bQ,mJ] at hf
  by_cases h2:n>=row.length
  ·have e:dQ row (.mk 0 n v of)=(v0,4):=by simp only [dQ,zp];rw [zp h2]
   rw [e]
   refine aG aF Tryz.func181 (by kernel_rfl) rfl rfl rfl rfl (λst=> ?_)
   (try apply wO pk;rfl);(repeat' first|show Cn _;constructor|apply wC pk;rfl;rfl|refine aB rfl ?_ ?_<;>intro h<;>(try simp at h)<;>try omega|(refine aC ?_;refine ⟨_,_,_,rfl,zwr _,zsr _, ?_,rfl⟩;try rfl))
  ·have hn:n.toNat<row.length:=by omega
   have hx:=getElem?_pos row n.toNat hn
   have e:dQ row (.mk 0 n v of)=(row[n.toNat],0):=by simp only [dQ,zp];rw [zn h2];simp [hx]
   rw [e]
   have hrow:(row.map Vl.cells)[n.toNat]?=some row[n.toNat].cells:=by rw [List.getElem?_map,hx];rfl
   have hnn:n=((n.toNat:Nat):Int):=by omega
   refine aG aF Tryz.func181 (by kernel_rfl) rfl rfl rfl rfl (λst=> ?_)
   (try apply wO pk;rfl);(repeat' first|show Cn _;constructor|apply wC pk;rfl;rfl|apply wE pk;rfl;rfl|refine aB rfl ?_ ?_<;>intro h<;>(try simp at h)<;>try omega|(refine aC ?_;refine ⟨_,_,_,rfl,zwr _,zsr _, ?_,rfl⟩;try rfl)|apply aP pk;(iterate 6 rfl);rotate_left;rfl;(intro hw;exact hnn);(intro hw;apply hrow<;>omega);(intro _;rfl);rfl)
 ·have hk1:k=1:=by omega
  subst hk1
  have e:dQ row (.mk 1 n v of)=(v,0):=by simp [dQ]
  rw [e]
  refine aG aF Tryz.func181 (by kernel_rfl) rfl rfl rfl rfl (λst=> ?_)
  (try apply wO pk;rfl);(repeat' first|show Cn _;constructor|apply wC pk;rfl;rfl|refine aB rfl ?_ ?_<;>intro h<;>(try simp at h)<;>try omega|(refine aC ?_;refine ⟨_,_,_,rfl,zwr _,zsr _, ?_,rfl⟩;try rfl))
def arA :List PV:=[(PV.val (Value.int .i64 (0))),(PV.val (Value.int .i64 (0))),(PV.val (Value.string (e0)))]
def aG0 :List Vl->List PV
 |[]=>arA++arA
 |[a]=>a.cells++arA
 |a::b::_=>a.cells++b.cells
mutual
theorem aeD {row:List Vl} (hr:rowOK row):∀(e:Ex),e.ok->bQ e=true->PF Tryz.prog 181 [.agg e.cells, .seq (row.map Vl.cells)] (oK (dQ row e))
 | .mk k n v of,hok,hf=>by
  have ih:=aaV hr of
  by_cases hk01:k=0\/k=1
  ·exact axH hr hk01 hf
  have hk0:¬k=0:=by omega
  have hk1:¬k=1:=by omega
  obtain ⟨hk,hn,hv,hlen,hall⟩:=tN hf hk0 hk1
  simp only [Ex.ok] at hok
  have hm:=akY k
  have hrl:=Ex.rows_len of
  obtain ⟨fid,caps,hlook,hsays⟩:=yL hk.1 hk.2
  have hE:dQ row (.mk k n v of)=match kK row of with|(_,some no)=>(v0,no)|(got,none)=>if xY (rJ k) 0 (got.map Vl.kind) then sW k (got.getD 0 v0) (got.getD (kP k-1).toNat v0) else (v0,6):=by simp only [dQ,zn hk0,zn hk1];try rfl
  generalize dQ row (.mk k n v of)=E at*
  refine aG aF Tryz.func181 (by kernel_rfl) rfl rfl rfl rfl (λst=> ?_)
  focus ((try apply wO pk;rfl);(repeat' first|show Cn _;constructor|apply wC pk;rfl;rfl|refine aB rfl ?_ ?_<;>intro h<;>(try simp at h)<;>try omega))
  refine yC 7 3 rfl rfl (λid hid=> ?_)
  have hid:st id=none:=hid
  refine aK (X:={x:List Vl×Nat//x.1.length<=of.length/\st x.2=none/\x.1=(of.take x.1.length).map (λy=>(dQ row y).1)/\∀j y,j<x.1.length->of[j]?=some y->(dQ row y).2=0}) (λi=>(((((((((St.nil 81 (upd st i.1.2 (some (.tok 3)))).pv 1 (.seq (row.map Vl.cells))).var 2 88 ((Ex.mk k n v of).cells)).var 4 57 (arA)).var 6 338 (aG0 i.1.1)).pv 7 (.own i.1.2 ((i.1.1.map Vl.kind).map I1))).pv 33 (.seq (Ex.rows of))).pv 34 ((PV.val (Value.int .i64 (((Ex.rows of).length:Nat)))))).pv 35 ((PV.val (Value.int .i64 ((i.1.1.length:Nat))))))) (λi=>of.length-i.1.1.length) ⟨([],id),by simp,hid,by simp,by simp⟩ ?_ (λi=> ?_)
  ·(((repeat (first|refine Sub.pv ?_ rfl|refine Sub.var ?_ rfl rfl));(exact Sub.nil _ _ _ (zsr _) rfl)))
  obtain ⟨⟨got,id⟩,hi,hid,hgot,hz⟩:=i
  simp only at hi hid hgot hz
  dsimp only
  by_cases hend:of.length<=got.length
  ·have hle:got.length=of.length:=by omega
   have htk:of.take got.length=of:=uL (by omega)
   rw [htk] at hgot
   have hall2:∀x∈of,(dQ row x).2=0:=λx hx=>by
    obtain ⟨j,hj⟩:=List.mem_iff_getElem?.1 hx
    exact hz j x (by have:=(zge.1 hj).1;omega) hj
   have hgot2:kK row of=(got,none):=by rw [hgot];exact xN hall2
   have hlim:∀v∈got,lim v.n:=λv hv=>by
    rw [hgot] at hv
    obtain ⟨e,he,rfl⟩:=List.mem_map.1 hv
    exact aA3 hr.2 (hall e he)
   have hts:=rA (m:=kP k) (nb:=rJ k) (f:=fid) (caps:=caps) (l:=got.map Vl.kind) (by simp;omega)
   unfold jX at hts
   rw [hgot2] at hE
   simp only at hE
   clear hgot2 hall2 hz hgot htk
   generalize xY (rJ k) 0 (got.map Vl.kind)=G at*
   cases G with
   |false=>
    rw [zn (by simp)] at hE
    (try apply wO pk;rfl);(repeat' first|show Cn _;constructor|apply wC pk;rfl;rfl|apply wE pk;rfl;rfl|apply wD pk [] [];kernel_rfl;rfl;rfl|refine aB rfl ?_ ?_<;>intro h<;>(try simp at h)<;>try omega|(refine aC ?_;first|refine ⟨_,_,_,rfl,zwr _,zsr _, ?_,rfl⟩;(fail)|refine ⟨_,_,_,rfl,zwr _,aL ‹_›, ?_,rfl⟩;(((rw [hE];rfl);done))|refine ⟨_,_,_,rfl,zwf _,zsr _, ?_,rfl⟩;(fail)|refine ⟨_,_,_,rfl,zwf _,aL ‹_›, ?_,rfl⟩;(fail)|(refine ⟨_,_,_,rfl,zwr _,zsr _, ?_,rfl⟩)|(refine ⟨_,_,_,rfl,zwf _,aL ‹_›, ?_,rfl⟩))|(apply aH;rfl;rfl;rfl;(intro _;(apply eH)<;>first|assumption|omega);rotate_left;rfl;rfl)|(apply tT;rfl;rfl;rfl;(intro _;(apply hts)<;>first|assumption|omega);rotate_left;rfl;rfl)|apply kW pk;(iterate 4 rfl);(focus repeat' constructor);rfl;exact hlook;rfl)
   |true=>
    rw [zp rfl] at hE
    rcases got with _|⟨a,_|⟨b,_|⟨_,_⟩⟩⟩
    ·simp only [List.length_nil] at hle;omega
    ·have hm1:kP k=1:=by simp only [zlc,List.length_nil] at hle;omega
     have ha:=hlim a (by simp)
     have hs:=hsays a.kind a.n a.s a.kind a.n a.s ha ha
     rw [hm1] at hE hts hlook
     have e:E=sW k a a:=hE
     rw [e]
     generalize sW k a a=R at*
     (try apply wO pk;rfl);(repeat' first|show Cn _;constructor|apply wC pk;rfl;rfl|apply wE pk;rfl;rfl|apply wD pk [] [];kernel_rfl;rfl;rfl|refine aB rfl ?_ ?_<;>intro h<;>(try simp at h)<;>try omega|(refine aC ?_;first|refine ⟨_,_,_,rfl,zwr _,zsr _, ?_,rfl⟩;(fail)|refine ⟨_,_,_,rfl,zwr _,aL ‹_›, ?_,rfl⟩;(rfl)|refine ⟨_,_,_,rfl,zwf _,zsr _, ?_,rfl⟩;(fail)|refine ⟨_,_,_,rfl,zwf _,aL ‹_›, ?_,rfl⟩;(fail)|(refine ⟨_,_,_,rfl,zwr _,zsr _, ?_,rfl⟩)|(refine ⟨_,_,_,rfl,zwf _,aL ‹_›, ?_,rfl⟩))|(apply aH;rfl;rfl;rfl;(intro _;(first|apply eH|apply hs)<;>first|assumption|omega);rotate_left;rfl;rfl)|(apply tT;rfl;rfl;rfl;(intro _;(apply hts)<;>first|assumption|omega);rotate_left;rfl;rfl)|apply kW pk;(iterate 4 rfl);(focus repeat' constructor);rfl;exact hlook;rfl|apply tC pk 0;(iterate 5 rfl);(focus repeat' constructor);rfl;(intro _;rfl);(intro _;omega);rfl|intros;(try simp only [zql]);omega)
    ·have hm1:kP k=2:=by simp only [zlc,List.length_nil] at hle;omega
     have ha:=hlim a (by simp)
     have hb:=hlim b (by simp)
     have hs:=hsays a.kind a.n a.s b.kind b.n b.s ha hb
     rw [hm1] at hE hts hlook
     have e:E=sW k a b:=hE
     rw [e]
     generalize sW k a b=R at*
     (try apply wO pk;rfl);(repeat' first|show Cn _;constructor|apply wC pk;rfl;rfl|apply wE pk;rfl;rfl|apply wD pk [] [];kernel_rfl;rfl;rfl|refine aB rfl ?_ ?_<;>intro h<;>(try simp at h)<;>try omega|(refine aC ?_;first|refine ⟨_,_,_,rfl,zwr _,zsr _, ?_,rfl⟩;(fail)|refine ⟨_,_,_,rfl,zwr _,aL ‹_›, ?_,rfl⟩;(rfl)|refine ⟨_,_,_,rfl,zwf _,zsr _, ?_,rfl⟩;(fail)|refine ⟨_,_,_,rfl,zwf _,aL ‹_›, ?_,rfl⟩;(fail)|(refine ⟨_,_,_,rfl,zwr _,zsr _, ?_,rfl⟩)|(refine ⟨_,_,_,rfl,zwf _,aL ‹_›, ?_,rfl⟩))|(apply aH;rfl;rfl;rfl;(intro _;(first|apply eH|apply hs)<;>first|assumption|omega);rotate_left;rfl;rfl)|(apply tT;rfl;rfl;rfl;(intro _;(apply hts)<;>first|assumption|omega);rotate_left;rfl;rfl)|apply kW pk;(iterate 4 rfl);(focus repeat' constructor);rfl;exact hlook;rfl|apply tC pk 0;(iterate 5 rfl);(focus repeat' constructor);rfl;(intro _;rfl);(intro _;omega);rfl|apply tC pk 1;(iterate 5 rfl);(focus repeat' constructor);rfl;(intro _;rfl);(intro _;omega);rfl|intros;(try simp only [zql]);omega)
    ·simp only [zlc] at hle;omega
  obtain ⟨x,hx⟩:=iK (l:=of) (i:=got.length) (by omega)
  have hrow:=Ex.rows_get hx
  have hm':=List.mem_of_getElem? hx
  have ihx:=ih x hm' (Ex.oks_mem hok.2 hm') (hall x hm')
  have hsome:=λh0=>xB (row:=row) hz hx h0
  have hzs:(dQ row x).2=0->∀j y,j<got.length+1->of[j]?=some y->(dQ row y).2=0:=λh0 j y hj hy=>by
   by_cases hji:j=got.length
   ·subst hji;rw [hx] at hy;injection hy with hy;subst hy;exact h0
   ·exact hz j y (by omega) hy
  have hmap:=qZ hx (λy=>(dQ row y).1)
  rw [<-hgot] at hmap
  have hE2:(dQ row x).2≠0->E=(v0,(dQ row x).2):=λh0=>by
   have:=hsome h0
   rw [hE]
   revert this
   cases kK row of with|mk a b=>intro this;simp only at this;subst this;rfl
  clear hsome hE
  generalize hrr:dQ row x=r at*
  obtain ⟨⟨rk,rn,rs⟩,re⟩:=r
  obtain ⟨k',n',v',of'⟩:=x
  dsimp only at*
  by_cases h2:re=0
  ·have hz2:=hzs h2
   have hg2:got.length<2:=by omega
   rcases got with _|⟨a,_|⟨b,_⟩⟩
   ·simp only [List.length_nil] at hend hi
    have hne:¬(Ex.rows of=[]):=λq=>by rw [q] at hrl;simp only [List.length_nil] at hrl;omega
    have hz1:(List.map Vl.kind ([]:List Vl)).length=0:=rfl
    have w1:([⟨rk,rn,rs⟩]:List Vl).length<=of.length:=by show 1<=of.length;omega
    have w2:([⟨rk,rn,rs⟩]:List Vl).length=1:=rfl
    have w3:([]:List Vl).length=0:=rfl
    have hz3:(List.map I1 (List.map Vl.kind ([]:List Vl))).length=0:=rfl
    (try apply wO pk;rfl);(repeat' first|exact absurd (by assumption:Ex.rows of=[]) hne|show Cn _;constructor|apply wC pk;rfl;rfl|apply wE pk;rfl;rfl|refine aB rfl ?_ ?_<;>intro h<;>(try simp at h)<;>try omega|(apply aH;rfl;rfl;rfl;(intro _;apply ihx<;>first|assumption|omega);rotate_left;rfl;rfl)|apply aP pk;(iterate 6 rfl);rotate_left;rfl;(intro hw;rfl);(intro hw;apply hrow<;>omega);(intro _;exact (Ex.cells_len _));rfl|apply tC pk 0;(iterate 5 rfl);(focus repeat' constructor);rfl;(intro _;rfl);(intro _;omega);rfl|(refine ⟨⟨([⟨rk,rn,rs⟩],id'),w1,iO hid',hmap.symm,hz2⟩, ?_,by simp only;omega⟩;((dsimp only));(((repeat (first|refine Sub.pv ?_ rfl|refine Sub.var ?_ rfl rfl));(exact Sub.nil _ _ _ (cR ‹_›) rfl))))|(apply apS pk (rk) 8;(iterate 8 rfl);exact aA _ _ _;exact λ_=>rfl;exact λ_=>rfl;exact vR;(omega);(omega);rfl;intro id' hid')|intros;(try simp only [zql]);omega)
   ·simp only [zlc,List.length_nil] at hend hi
    have hz1:(List.map Vl.kind [a]).length=1:=rfl
    have w1:([a,⟨rk,rn,rs⟩]:List Vl).length<=of.length:=by show 2<=of.length;omega
    have w2:([a,⟨rk,rn,rs⟩]:List Vl).length=2:=rfl
    have w3:[a].length=1:=rfl
    have hz3:(List.map I1 (List.map Vl.kind [a])).length=1:=rfl
    (try apply wO pk;rfl);(repeat' first|show Cn _;constructor|apply wC pk;rfl;rfl|apply wE pk;rfl;rfl|refine aB rfl ?_ ?_<;>intro h<;>(try simp at h)<;>try omega|(apply aH;rfl;rfl;rfl;(intro _;apply ihx<;>first|assumption|omega);rotate_left;rfl;rfl)|apply aP pk;(iterate 6 rfl);rotate_left;rfl;(intro hw;rfl);(intro hw;apply hrow<;>omega);(intro _;exact (Ex.cells_len _));rfl|apply tC pk 1;(iterate 5 rfl);(focus repeat' constructor);rfl;(intro _;rfl);(intro _;omega);rfl|(refine ⟨⟨([a,⟨rk,rn,rs⟩],id'),w1,iO hid',hmap.symm,hz2⟩, ?_,by simp only;omega⟩;((dsimp only));(((repeat (first|refine Sub.pv ?_ rfl|refine Sub.var ?_ rfl rfl));(exact Sub.nil _ _ _ (cR ‹_›) rfl))))|(apply apS pk (rk) 8;(iterate 8 rfl);exact aA _ _ _;exact λ_=>rfl;exact λ_=>rfl;exact vR;(omega);(omega);rfl;intro id' hid')|intros;(try simp only [zql]);omega)
   ·exact absurd hg2 (by simp)
  ·have e:=hE2 h2
   (try apply wO pk;rfl);(repeat' first|show Cn _;constructor|apply wC pk;rfl;rfl|apply wE pk;rfl;rfl|refine aB rfl ?_ ?_<;>intro h<;>(try simp at h)<;>try omega|(refine aC ?_;first|refine ⟨_,_,_,rfl,zwr _,zsr _, ?_,rfl⟩;(fail)|refine ⟨_,_,_,rfl,zwr _,aL ‹_›, ?_,rfl⟩;(((rw [e];rfl);done))|refine ⟨_,_,_,rfl,zwf _,zsr _, ?_,rfl⟩;(fail)|refine ⟨_,_,_,rfl,zwf _,aL ‹_›, ?_,rfl⟩;(fail)|(refine ⟨_,_,_,rfl,zwr _,zsr _, ?_,rfl⟩)|(refine ⟨_,_,_,rfl,zwf _,aL ‹_›, ?_,rfl⟩))|(apply aH;rfl;rfl;rfl;(intro _;apply ihx<;>first|assumption|omega);rotate_left;rfl;rfl)|apply aP pk;(iterate 6 rfl);rotate_left;rfl;(intro hw;rfl);(intro hw;apply hrow<;>omega);(intro _;exact (Ex.cells_len _));rfl)
theorem aaV {row:List Vl} (hr:rowOK row):∀(os:List Ex) (x:Ex),x∈os->x.ok->bQ x=true->PF Tryz.prog 181 [.agg x.cells, .seq (row.map Vl.cells)] (oK (dQ row x))
 |[],_,h,_=>by cases h
 |e::es,x,h,hok=>by
  rcases zmc.1 h with h|h
  ·rw [h] at hok⊢;exact aeD hr e hok
  ·exact aaV hr es x h hok
end
def EvalR (e:Ex) (row:List Vl):Vl×Int:=if uD e≠0 then (v0,uD e) else dQ row e
theorem Eval_spec {e:Ex} (hok:e.ok) {row:List Vl} (hr:rowOK row):PF Tryz.prog 106 [.agg e.cells, .seq (row.map Vl.cells)] (oK (EvalR e row)):=by
 have h1:=iW hok
 by_cases hm:uD e=0
 ·have h3:=aeD hr e hok (acN hm).2
  rw [hm] at h1
  have e1:EvalR e row=dQ row e:=by unfold EvalR;rw [zn (λq=>q hm)]
  rw [e1]
  generalize dQ row e=R at*
  clear hm e1
  obtain ⟨k,n,v,of⟩:=e
  refine aG aF Tryz.func106 (by kernel_rfl) rfl rfl rfl rfl (λst=> ?_)
  (try apply wO pk;rfl);(repeat' first|show Cn _;constructor|apply wC pk;rfl;rfl|apply wE pk;rfl;rfl|refine aB rfl ?_ ?_<;>intro h<;>(try simp at h)<;>try omega|(refine aC ?_;refine ⟨_,_,_,rfl,zwr _,zsr _, ?_,rfl⟩;try rfl)|(apply aH;rfl;rfl;rfl;(intro _;(first|apply h1|apply h3)<;>first|assumption|omega);rotate_left;rfl;rfl))
 ·have e1:EvalR e row=(v0,uD e):=by unfold EvalR;rw [zp hm]
  rw [e1]
  generalize uD e=M at*
  clear e1
  obtain ⟨k,n,v,of⟩:=e
  refine aG aF Tryz.func106 (by kernel_rfl) rfl rfl rfl rfl (λst=> ?_)
  (try apply wO pk;rfl);(repeat' first|show Cn _;constructor|apply wC pk;rfl;rfl|apply wE pk;rfl;rfl|refine aB rfl ?_ ?_<;>intro h<;>(try simp at h)<;>try omega|(refine aC ?_;refine ⟨_,_,_,rfl,zwr _,zsr _, ?_,rfl⟩;try rfl)|(apply aH;rfl;rfl;rfl;(intro _;apply h1<;>first|assumption|omega);rotate_left;rfl;rfl))
def axS (f:Ex->Int->Int) (left:Int):Int->List Ex->Int
 |n,[]=>n
 |n,x::xs=>if n<=left then axS f left (n+f x (left-n)) xs else n
def nodesR :Nat->Ex->Int->Int
 |0,_,left=>left+1
 |d+1,e,left=>axS (nodesR d) left 1 e.of
end Go.Proofs.YtloecjjehapblaaGreatDoor.X
namespace Go.Proofs.YtloecjjehapblaaGreatDoor
open Go Go.Abs
namespace X
set_option maxRecDepth 10000
set_option maxHeartbeats 4000000
mutual
theorem Ex.inj :∀(a b:Ex),a.cells=b.cells->a=b
 | .mk k n v o, .mk k' n' v' o',h=>by
  simp only [Ex.cells,List.cons.injEq,PV.val.injEq,PV.seq.injEq,Value.int.injEq,Value.string.injEq,true_and,and_true] at h
  obtain ⟨rfl,rfl,h1,h2,h3,h4⟩:=h
  have e:=Ex.injs o o' h4
  obtain ⟨a,b,c⟩:=v
  obtain ⟨a',b',c'⟩:=v'
  simp only at h1 h2 h3
  subst h1 h2 h3 e
  rfl
theorem Ex.injs :∀(a b:List Ex),Ex.rows a=Ex.rows b->a=b
 |[],[],_=>rfl
 |[],_::_,h=>by simp [Ex.rows] at h
 |_::_,[],h=>by simp [Ex.rows] at h
 |a::l,b::m,h=>by
  simp only [Ex.rows,List.cons.injEq] at h
  rw [Ex.inj a b h.1,Ex.injs l m h.2]
end
def RightR (e:Ex) (l:List Int):Int:=if (kD e l).2=0 then (if (kD e l).1=2 then 6 else 0) else (kD e l).2
end X
open Classical in
noncomputable def exOf (c:List PV):X.Ex:=if h:∃e:X.Ex,e.ok/\e.cells=c then h.choose else .mk 0 0 X.v0 []
theorem agH {c:List PV} (h:∃e:X.Ex,e.ok/\e.cells=c):(exOf c).ok/\(exOf c).cells=c:=by
 unfold exOf
 rw [dif_pos h]
 exact h.choose_spec
theorem asF {e:X.Ex} (h:e.ok):exOf e.cells=e:=X.Ex.inj _ _ (agH ⟨e,h,rfl⟩).2
def zI (t:Tb):Prop:=∀c∈t.checks,∃e:X.Ex,e.ok/\e.cells=c
def chE (p:Vl×Int):Int:=if p.2=0 then (if p.1=⟨1,0,e0⟩ then 9 else 0) else p.2
noncomputable def exR (t:Tb) (r:List Vl):Int:=dT (λc=>chE (X.EvalR (exOf c) r)) t.checks
noncomputable def rightX (t:Tb):Int:=dT (λc=>X.RightR (exOf c) (t.cols.map dY)) t.checks
noncomputable def rightC (s:Sc):Int:=if cM s=0 then dT rightX s else cM s
end Go.Proofs.YtloecjjehapblaaGreatDoor
namespace Go.Proofs.YtloecjjehapblaaGreatDoor
open Go Go.Abs
attribute [local irreducible] Ev PWp
set_option maxRecDepth 10000
set_option maxHeartbeats 4000000
def mW (t:Tb) (rows:List (List Vl)) (b:Bs):List PV:=t.cells++[.seq (rows.map roC), .seq (b.map Da.cells)]
variable (t:Tb) (rows:List (List Vl)) (b:Bs)
theorem aoQ (hc:t.cols.length<1000000000000000) (hl:rows.length<1000000000000000) (hr:∀r∈rows,r.length<1000000000000000):PF Tryz.prog 57 [.agg (mW t rows b)] (.val (.int .i64 (dT (eG t) rows))):=by
 refine aG aF Tryz.func57 (by kernel_rfl) rfl rfl rfl rfl (λst=> ?_)
 focus ((try apply wO pk;rfl);(repeat' ((show Cn _;constructor))))
 refine aK (X:={x:Nat//x<=rows.length/\∀j (h:j<rows.length),j<x->eG t rows[j]=0}) (λi=>(((((St.nil 22 st).var 1 123 ((mW t rows b))).pv 7 (.seq (rows.map roC))).pv 8 ((PV.val (Value.int .i64 (((rows.map roC).length:Nat)))))).pv 9 ((PV.val (Value.int .i64 ((i.1:Nat))))))) (λi=>rows.length-i.1) ⟨0,by omega,by omega⟩ ?_ (λi=> ?_)
 ·((repeat (first|refine Sub.pv ?_ rfl|refine Sub.var ?_ rfl rfl));exact Sub.nil _ _ _ (zsr _) rfl)
 obtain ⟨i,hi,hI⟩:=i
 dsimp only
 by_cases hend:rows.length<=i
 ·have e:dT (eG t) rows=0:=mY λj hj=>hI j hj (by omega)
  (try apply wO pk;rfl);(repeat' first|show Cn _;constructor|apply wC pk;rfl;rfl|refine aB rfl ?_ ?_<;>intro h<;>(try simp at h)<;>try omega|(refine aC ?_;refine ⟨_,_,_,rfl,zwr _,zsr _, ?_,rfl⟩;try first|rfl|(rw [e]);done))
 have hil:i<rows.length:=by omega
 have hk:=adO t rows[i] hc (hr _ (zgm hil))
 have e:=sR hI hil
 have hu:=sN hI hil
 generalize eG t rows[i]=E at*
 (try apply wO pk;rfl);(repeat' first|show Cn _;constructor|apply wC pk;rfl;rfl|apply wE pk;rfl;rfl|refine aB rfl ?_ ?_<;>intro h<;>(try simp at h)<;>try omega|(refine aC ?_;refine ⟨_,_,_,rfl,zwr _,zsr _, ?_,rfl⟩;try first|rfl|(rw [e ‹_›]);done)|(apply aH;rfl;rfl;rfl;(intro _;apply hk<;>first|assumption|omega);rotate_left;rfl;rfl)|apply aP pk;(iterate 6 rfl);rotate_left;rfl;(intro hw;rfl);(intro hw;apply aJ<;>omega);(intro _;rfl);rfl|(refine ⟨⟨i+1,by omega,hu ‹_›⟩, ?_,by simp only;omega⟩;((repeat (first|refine Sub.pv ?_ rfl|refine Sub.var ?_ rfl rfl));exact Sub.nil _ _ _ (zsr _) rfl))|intros;(try simp only [zql]);omega)
def bF' (b:Bool):PV:=(PV.val (Value.bool (b)))
theorem qI {st:aI} {id:Nat} {a b:Option AObj} (h:st id=none):StSub st (upd (upd st id a) id b):=λj=>by
 by_cases hj:j=id
 ·subst hj;left;exact h
 ·right;rw [aD hj,aD hj]
theorem oB {st:aI} {id:Nat} {a:Option AObj} (h:st id=none):StSub st (upd st id a):=λj=>by
 by_cases hj:j=id
 ·subst hj;left;exact h
 ·right;rw [aD hj]
theorem alE (hl:rows.length<1000000000000000) (hu:t.unique.length<1000000000000000) (hr:∀u∈t.unique,0<=u/\∀r∈rows,u<r.length):PF Tryz.prog 58 [.agg (mW t rows b)] (.val (.int .i64 (if jM t rows=false then 8 else 0))):=by
 have hyes:=ayB (t:=t) (rows:=rows)
 have hno:=λj k hj h=>aCF (t:=t) (rows:=rows) (j:=j) (k:=k) hj h
 generalize jM t rows=B at*
 refine aG aF Tryz.func58 (by kernel_rfl) rfl rfl rfl rfl (λst=> ?_)
 focus ((try apply wO pk;rfl);(repeat' ((show Cn _;constructor))))
 refine aK (X:={x:Nat//x<=t.unique.length/\∀j (h:j<t.unique.length),j<x->pwU t.unique[j].toNat rows}) (λi=>(((((St.nil 45 st).var 1 123 ((mW t rows b))).pv 10 (.seq (t.unique.map I1))).pv 11 ((PV.val (Value.int .i64 (((t.unique.map I1).length:Nat)))))).pv 12 ((PV.val (Value.int .i64 ((i.1:Nat))))))) (λi=>t.unique.length-i.1) ⟨0,by omega,by omega⟩ ?_ (λi=> ?_)
 ·((repeat (first|refine Sub.pv ?_ rfl|refine Sub.var ?_ rfl rfl));exact Sub.nil _ _ _ (zsr _) rfl)
 obtain ⟨i,hi,hI⟩:=i
 dsimp only
 by_cases hend:t.unique.length<=i
 ·have e:B=true:=hyes λj hj=>hI j hj (by omega)
  (try apply wO pk;rfl);(repeat' first|show Cn _;constructor|apply wC pk;rfl;rfl|refine aB rfl ?_ ?_<;>intro h<;>(try simp at h)<;>try omega|(refine aC ?_;refine ⟨_,_,_,rfl,zwr _,zsr _, ?_,rfl⟩;try first|rfl|(rw [e];rfl);done))
 have hil:i<t.unique.length:=by omega
 obtain ⟨hu0,hur⟩:=hr _ (zgm hil)
 have hno:=λk=>hno i k hil
 have hup:pwU t.unique[i].toNat rows->∀j (h:j<t.unique.length),j<i+1->pwU t.unique[j].toNat rows:=λh j hj hji=>by
  rcases zls.1 hji with q|q
  ·exact hI j hj q
  ·subst q;exact h
 focus ((try apply wO pk;rfl);(repeat' first|(apply mkM (enc:=Ie) (f:=bF');rfl;intro id hid)|show Cn _;constructor|apply wC pk;rfl;rfl|apply wE pk;rfl;rfl|refine aB rfl ?_ ?_<;>intro h<;>(try simp at h)<;>try omega|apply aP pk;(iterate 6 rfl);rotate_left;rfl;(intro hw;rfl);(intro hw;apply aJ<;>omega);(intro _;rfl);rfl|intros;(try simp only [zql]);omega))
 have hid0:st id=none:=hid
 clear hid
 obtain ⟨u,hu⟩:∃u:Nat,t.unique[i]=(u:Int):=⟨t.unique[i].toNat,by omega⟩
 have hto:t.unique[i].toNat=u:=by omega
 rw [hto] at hno hup
 refine aK (X:={x:Nat//x<=rows.length/\pwU u (rows.take x)}) (λy=>((((((((((St.nil 45 (upd st id (some (.map (aY Ie bF' (anA u (rows.take y.1))))))).var 1 123 ((mW t rows b))).pv 4 ((PV.val (Value.int .i64 (t.unique[i]))))).pv 5 (.mref id)).pv 10 (.seq (t.unique.map I1))).pv 11 ((PV.val (Value.int .i64 (((t.unique.map I1).length:Nat)))))).pv 12 ((PV.val (Value.int .i64 ((i:Nat)))))).pv 18 (.seq (rows.map roC))).pv 19 ((PV.val (Value.int .i64 (((rows.map roC).length:Nat)))))).pv 20 ((PV.val (Value.int .i64 ((y.1:Nat))))))) (λy=>rows.length-y.1) ⟨0,by omega,by unfold pwU;simp⟩ ?_ (λy=> ?_)
 ·(((repeat (first|refine Sub.pv ?_ rfl|refine Sub.var ?_ rfl rfl));(exact Sub.nil _ _ _ (zsr _) rfl)))
 obtain ⟨y,hy,hyI⟩:=y
 dsimp only
 by_cases hend2:rows.length<=y
 ·rw [ztl hend2] at hyI
  (try apply wO pk;rfl);(repeat' first|show Cn _;constructor|apply wC pk;rfl;rfl|refine aB rfl ?_ ?_<;>intro h<;>(try simp at h)<;>try omega|(refine ⟨⟨i+1,by omega,hup hyI⟩, ?_,by simp only;omega⟩;(((repeat (first|refine Sub.pv ?_ rfl|refine Sub.var ?_ rfl rfl));(exact Sub.nil _ _ _ (oB hid0) rfl))))|intros;(try simp only [zql]);omega)
 have hyl:y<rows.length:=by omega
 have hru:=hur _ (zgm hyl)
 have hru':u<rows[y].length:=by rw [hu] at hru;omega
 have hgu:=getElem!_pos rows[y] u hru'
 have hup2:=aGr (u:=u) hyl
 have hno2:=hno (y+1)
 have hget:=ayP u rows[y][u]!.n (rows.take y)
 have hmet:=aDD u hyl
 rw [hgu] at hup2 hget hmet
 clear hgu
 generalize hM:anA u (rows.take y)=M at*
 generalize ((rows.take y).any λr=>decide (r[u]!.kind=1)&&decide (r[u]!.n=rows[y][u].n))=Q at*
 by_cases hk:rows[y][u].kind=1
 ·rw [zp hk] at hmet
  cases Q with
  |true=>
   have e:B=false:=hno2 λh=>by have:=(hup2.1 h).2 hk;cases this
   (try apply wO pk;rfl);(repeat' first|show Cn _;constructor|apply wC pk;rfl;rfl|apply wE pk;rfl;rfl|refine aB rfl ?_ ?_<;>intro h<;>(try simp at h)<;>try omega|(refine aC ?_;first|refine ⟨_,_,_,rfl,zwr _,zsr _, ?_,rfl⟩;(fail)|refine ⟨_,_,_,rfl,zwr _,aL ‹_›, ?_,rfl⟩;(((rw [e];rfl);done))|refine ⟨_,_,_,rfl,zwf _,zsr _, ?_,rfl⟩;(fail)|refine ⟨_,_,_,rfl,zwf _,aL ‹_›, ?_,rfl⟩;(fail)|(refine ⟨_,_,_,rfl,zwr _,zsr _, ?_,rfl⟩)|(refine ⟨_,_,_,rfl,zwf _,aL ‹_›, ?_,rfl⟩))|apply aP pk;(iterate 6 rfl);rotate_left;rfl;(first|(intro hw;rfl);(intro hw;apply aJ<;>omega);(intro _;rfl)|(intro hw;exact hu);(intro hw;apply aJ<;>omega);(intro _;rfl));rfl|apply lkD pk zD (f:=bF') (z:=false) (k:=rows[y][u].n) (n:=true);(iterate 5 rfl);rotate_left;rfl;exact aA _ _ _;rfl;exact hget)
  |false=>
   have hw:=hup2.2 ⟨hyI,λ_=>rfl⟩
   (try apply wO pk;rfl);(repeat' first|show Cn _;constructor|apply wC pk;rfl;rfl|apply wE pk;rfl;rfl|refine aB rfl ?_ ?_<;>intro h<;>(try simp at h)<;>try omega|apply aP pk;(iterate 6 rfl);rotate_left;rfl;(first|(intro hw;rfl);(intro hw;apply aJ<;>omega);(intro _;rfl)|(intro hw;exact hu);(intro hw;apply aJ<;>omega);(intro _;rfl));rfl|apply lkD pk zD (f:=bF') (z:=false) (k:=rows[y][u].n) (n:=false);(iterate 5 rfl);rotate_left;rfl;exact aA _ _ _;rfl;exact hget|apply muA pk zD (f:=bF') (k:=rows[y][u].n) (v:=true);(exact .inr rfl);(iterate 5 rfl);exact aA _ _ _;rfl|(refine ⟨⟨y+1,by omega,hw⟩, ?_,by simp only;omega⟩;((dsimp only;rw [hmet]));(((repeat (first|refine Sub.pv ?_ rfl|refine Sub.var ?_ rfl rfl));(exact Sub.nil _ _ _ (eY (by first|rfl|exact fV ‹_›|((simp only [St.pv,St.put,St.sst,St.setv,St.nil,St.var,fG]);first|done|rfl))) rfl))))|intros;(try simp only [zql]);omega)
 ·rw [zn hk] at hmet
  have hw:=hup2.2 ⟨hyI,λq=>absurd q hk⟩
  (try apply wO pk;rfl);(repeat' first|show Cn _;constructor|apply wC pk;rfl;rfl|apply wE pk;rfl;rfl|refine aB rfl ?_ ?_<;>intro h<;>(try simp at h)<;>try omega|apply aP pk;(iterate 6 rfl);rotate_left;rfl;(first|(intro hw;rfl);(intro hw;apply aJ<;>omega);(intro _;rfl)|(intro hw;exact hu);(intro hw;apply aJ<;>omega);(intro _;rfl));rfl|(refine ⟨⟨y+1,by omega,hw⟩, ?_,by simp only;omega⟩;((dsimp only;rw [hmet]));(((repeat (first|refine Sub.pv ?_ rfl|refine Sub.var ?_ rfl rfl));(exact Sub.nil _ _ _ (zsr _) rfl))))|intros;(try simp only [zql]);omega)
end Go.Proofs.YtloecjjehapblaaGreatDoor
