import Derived.Test.YtppdefkgmegipaaGreatDoorClAh
import Derived.Test.YtppdefkgmegipaaGreatDoorClAg
import Derived.Test.YtppdefkgmegipaaGreatDoorAbsJ
import Derived.Test.YtppdefkgmegipaaGreatDoorAbsG
import Derived.Test.YtppdefkgmegipaaGreatDoorClAd
import Derived.Test.YtppdefkgmegipaaGreatDoorClAa
import Derived.Test.YtppdefkgmegipaaGreatDoorClAf
set_option linter.unusedSimpArgs false
set_option linter.unusedVariables false
namespace Go.Proofs.YtppdefkgmegipaaGreatDoor.X
open Go Go.Abs
attribute [local irreducible] Ev PWp
set_option maxRecDepth 10000
set_option maxHeartbeats 4000000
def rowOK (row:List Vl):Prop:=row.length<2^62/\∀v∈row,lim v.n
theorem aqN {k n:Int} {v:Vl} {of:List Ex} {row:List Vl} (hr:rowOK row) (hk:k=0\/k=1) (hf:bJ (.mk k n v of)=true):
  PF Tryz.prog 179 [.agg (Ex.mk k n v of).cells, .seq (row.map Vl.cells)] (lP (cM row (.mk k n v of))):=by
 have hlen:(row.map Vl.cells).length=row.length:=zql _
 have hrl:=hr.1
 by_cases hk0:k=0
 ·subst hk0
  simp [bJ,kF] at hf
  by_cases h2:n>=row.length
  ·have e:cM row (.mk 0 n v of)=(v0,4):=by simp only [cM,zp];rw [zp h2]
   rw [e]
   refine pF Tryz.func179 rfl (λst=> ?_)
   (repeat' first|apply wZ;rfl|show Cn _;constructor|exact rfl|omega|(intro h;simp at h))
  ·have hn:n.toNat<row.length:=by omega
   have hx:=getElem?_pos row n.toNat hn
   have e:cM row (.mk 0 n v of)=(row[n.toNat],0):=by simp only [cM,zp];rw [zn h2];simp [hx]
   rw [e]
   have hrow:(row.map Vl.cells)[n.toNat]?=some row[n.toNat].cells:=by rw [List.getElem?_map,hx];rfl
   have hnn:n=((n.toNat:Nat):Int):=by omega
   refine pF Tryz.func179 rfl (λst=> ?_)
   (repeat' first|apply wZ;rfl|show Cn _;constructor|exact rfl|apply bX pk;(iterate 6 rfl);rotate_left;rfl;(intro hw;exact hnn);(intro hw;apply hrow<;>omega);(intro _;rfl);rfl|omega|(intro h;simp at h))
 ·have hk1:k=1:=by omega
  subst hk1
  have e:cM row (.mk 1 n v of)=(v,0):=by simp [cM]
  rw [e]
  refine pF Tryz.func179 rfl (λst=> ?_)
  (repeat' first|apply wZ;rfl|show Cn _;constructor|exact rfl)
def akW :List PV:=[(vi (0)),(vi (0)),(vs (e0))]
def aC6 :List Vl->List PV
 |[]=>akW++akW
 |[a]=>a.cells++akW
 |a::b::_=>a.cells++b.cells
mutual
theorem zV {row:List Vl} (hr:rowOK row):∀(e:Ex),e.ok->bJ e=true->PF Tryz.prog 179 [.agg e.cells, .seq (row.map Vl.cells)] (lP (cM row e))
 | .mk k n v of,hok,hf=>by
  have ih:=xA hr of
  by_cases hk01:k=0\/k=1
  ·exact aqN hr hk01 hf
  have hk0:¬k=0:=by omega
  have hk1:¬k=1:=by omega
  obtain ⟨hk,hn,hv,hlen,hall⟩:=qE hf hk0 hk1
  simp only [Ex.ok] at hok
  have hm:=agA k
  have hrl:=Ex.rows_len of
  obtain ⟨fid,caps,hlook,hsays⟩:=uM hk.1 hk.2
  have hE:cM row (.mk k n v of)=match iM row of with|(_,some no)=>(v0,no)|(got,none)=>if tV (oG k) 0 (got.map Vl.kind) then pW k (got.getD 0 v0) (got.getD (iO k-1).toNat v0) else (v0,6):=by simp only [cM,zn hk0,zn hk1];try rfl
  generalize cM row (.mk k n v of)=E at*
  refine pF Tryz.func179 rfl (λst=> ?_)
  focus ((repeat' first|apply wZ;rfl|show Cn _;constructor|omega|intro h))
  refine abE 7 3 rfl rfl (λid hid=> ?_)
  have hid:st id=none:=hid
  refine aG (X:={x:List Vl×Nat//x.1.length<=of.length/\st x.2=none/\x.1=(of.take x.1.length).map (λy=>(cM row y).1)/\∀j y,j<x.1.length->of[j]?=some y->(cM row y).2=0}) (λi=>(((((((((St.nil 81 (upd st i.1.2 (some (.tok 3)))).pv 1 (.seq (row.map Vl.cells))).var 2 56 ((Ex.mk k n v of).cells)).var 4 54 (akW)).var 6 292 (aC6 i.1.1)).pv 7 (.own i.1.2 ((i.1.1.map Vl.kind).map I1))).pv 33 (.seq (Ex.rows of))).pv 34 ((vi (((Ex.rows of).length:Nat))))).pv 35 ((vi ((i.1.1.length:Nat)))))) (λi=>of.length-i.1.1.length) ⟨([],id),by simp,hid,by simp,by simp⟩ ?_ (λi=> ?_)
  ·(repeat' first|show Cn (.t _ _);exact Cn.t0|show Cn _;constructor|exact rfl)
  obtain ⟨⟨got,id⟩,hi,hid,hgot,hz⟩:=i
  simp only at hi hid hgot hz
  dsimp only
  by_cases hend:of.length<=got.length
  ·have hle:got.length=of.length:=by omega
   have htk:of.take got.length=of:=qZ (by omega)
   rw [htk] at hgot
   have hall2:∀x∈of,(cM row x).2=0:=λx hx=>by
    obtain ⟨j,hj⟩:=List.mem_iff_getElem?.1 hx
    exact hz j x (by have:=(zge.1 hj).1;omega) hj
   have hgot2:iM row of=(got,none):=by rw [hgot];exact tN hall2
   have hlim:∀v∈got,lim v.n:=λv hv=>by
    rw [hgot] at hv
    obtain ⟨e,he,rfl⟩:=List.mem_map.1 hv
    exact avI hr.2 (hall e he)
   have hts:=nY (m:=iO k) (nb:=oG k) (f:=fid) (caps:=caps) (l:=got.map Vl.kind) (by simp;omega)
   unfold irows at hts
   rw [hgot2] at hE
   simp only at hE
   clear hgot2 hall2 hz hgot htk
   generalize tV (oG k) 0 (got.map Vl.kind)=G at*
   cases G with
   |false=>
    rw [zn (by simp)] at hE
    (repeat' first|(apply Cn.cf;focus (((apply cQ));done))|(apply cV;focus (((apply hts));done))|show Cn (.e _ _ _ _);refine .any ?_;((refine ⟨_,_,_,rfl,zwr _,aB ‹_›, ?_,rfl⟩;(((rw [hE];rfl);done))))|apply wZ;rfl|show Cn _;constructor|apply KR.mk;kernel_rfl|apply oK pk;(iterate 4 rfl);(focus repeat' constructor);rfl;exact hlook;rfl|apply wY;rfl|omega|(intro h;simp at h))
   |true=>
    rw [zp rfl] at hE
    rcases got with _|⟨a,_|⟨b,_|⟨_,_⟩⟩⟩
    ·simp only [List.length_nil] at hle;omega
    ·have hm1:iO k=1:=by simp only [zlc,List.length_nil] at hle;omega
     have ha:=hlim a (by simp)
     have hs:=hsays a.kind a.n a.s a.kind a.n a.s ha ha
     rw [hm1] at hE hts hlook
     have e:E=pW k a a:=hE
     rw [e]
     generalize pW k a a=R at*
     (repeat' first|(apply Cn.cf;focus (((first|apply cQ|apply hs));done))|(apply cV;focus (((apply hts));done))|show Cn (.e _ _ _ _);refine .any ?_;((refine ⟨_,_,_,rfl,zwr _,aB ‹_›, ?_,rfl⟩;(rfl)))|apply wZ;rfl|show Cn _;constructor|apply KR.mk;kernel_rfl|apply oK pk;(iterate 4 rfl);(focus repeat' constructor);rfl;exact hlook;rfl|apply ahT pk 0;(iterate 5 rfl);(focus repeat' constructor);rfl;(intro _;rfl);(intro _;omega);rfl|apply wY;rfl|omega|(intro h;simp at h))
    ·have hm1:iO k=2:=by simp only [zlc,List.length_nil] at hle;omega
     have ha:=hlim a (by simp)
     have hb:=hlim b (by simp)
     have hs:=hsays a.kind a.n a.s b.kind b.n b.s ha hb
     rw [hm1] at hE hts hlook
     have e:E=pW k a b:=hE
     rw [e]
     generalize pW k a b=R at*
     (repeat' first|(apply Cn.cf;focus (((first|apply cQ|apply hs));done))|(apply cV;focus (((apply hts));done))|show Cn (.e _ _ _ _);refine .any ?_;((refine ⟨_,_,_,rfl,zwr _,aB ‹_›, ?_,rfl⟩;(rfl)))|apply wZ;rfl|show Cn _;constructor|apply KR.mk;kernel_rfl|apply oK pk;(iterate 4 rfl);(focus repeat' constructor);rfl;exact hlook;rfl|apply ahT pk 0;(iterate 5 rfl);(focus repeat' constructor);rfl;(intro _;rfl);(intro _;omega);rfl|apply ahT pk 1;(iterate 5 rfl);(focus repeat' constructor);rfl;(intro _;rfl);(intro _;omega);rfl|apply wY;rfl|omega|(intro h;simp at h))
    ·simp only [zlc] at hle;omega
  obtain ⟨x,hx⟩:=gB (l:=of) (i:=got.length) (by omega)
  have hrow:=Ex.rows_get hx
  have hm':=List.mem_of_getElem? hx
  have ihx:=ih x hm' (Ex.oks_mem hok.2 hm') (hall x hm')
  have hsome:=λh0=>sV (row:=row) hz hx h0
  have hzs:(cM row x).2=0->∀j y,j<got.length+1->of[j]?=some y->(cM row y).2=0:=λh0 j y hj hy=>by
   by_cases hji:j=got.length
   ·subst hji;rw [hx] at hy;injection hy with hy;subst hy;exact h0
   ·exact hz j y (by omega) hy
  have hmap:=nX hx (λy=>(cM row y).1)
  rw [<-hgot] at hmap
  have hE2:(cM row x).2≠0->E=(v0,(cM row x).2):=λh0=>by
   have:=hsome h0
   rw [hE]
   revert this
   cases iM row of with|mk a b=>intro this;simp only at this;subst this;rfl
  clear hsome hE
  generalize hrr:cM row x=r at*
  obtain ⟨⟨rk,rn,rs⟩,re⟩:=r
  obtain ⟨k',n',v',of'⟩:=x
  dsimp only at*
  by_cases h2:re=0
  ·have hz2:=hzs h2
   have hg2:got.length<2:=by omega
   rcases got with _|⟨a,_|⟨b,_⟩⟩
   ·simp only [List.length_nil] at hend hi
    have hne:¬(Ex.rows of=[]):=λq=>by rw [q] at hrl;simp only [List.length_nil] at hrl;omega
    have hz1:(List.map Vl.kind ([]:List Vl)).length=0:=rfl
    have w1:([⟨rk,rn,rs⟩]:List Vl).length<=of.length:=by show 1<=of.length;omega
    have w2:([⟨rk,rn,rs⟩]:List Vl).length=1:=rfl
    have w3:([]:List Vl).length=0:=rfl
    have hz3:(List.map I1 (List.map Vl.kind ([]:List Vl))).length=0:=rfl
    (repeat' first|refine ⟨⟨([⟨rk,rn,rs⟩],id'),w1,kI hid',hmap.symm,hz2⟩, ?_, ?_⟩;((dsimp only))|show Cn (.t _ _);exact .any (aJ ‹_›)|apply wZ;rfl|show Cn _;constructor|exact rfl|apply bX pk;(iterate 6 rfl);rotate_left;rfl;(intro hw;rfl);(intro hw;apply hrow<;>omega);(intro _;exact (Ex.cells_len _));rfl|(apply ihx)|apply ahT pk 0;(iterate 5 rfl);(focus repeat' constructor);rfl;(intro _;rfl);(intro _;omega);rfl|(apply apS pk (rk) 8;(iterate 8 rfl);exact aA _ _ _;exact λ_=>rfl;exact λ_=>rfl;exact lB;(omega);(omega);rfl;intro id' hid')|apply wY;rfl|omega|simp only [zql];omega|(intro h;simp at h))
   ·simp only [zlc,List.length_nil] at hend hi
    have hz1:(List.map Vl.kind [a]).length=1:=rfl
    have w1:([a,⟨rk,rn,rs⟩]:List Vl).length<=of.length:=by show 2<=of.length;omega
    have w2:([a,⟨rk,rn,rs⟩]:List Vl).length=2:=rfl
    have w3:[a].length=1:=rfl
    have hz3:(List.map I1 (List.map Vl.kind [a])).length=1:=rfl
    (repeat' first|refine ⟨⟨([a,⟨rk,rn,rs⟩],id'),w1,kI hid',hmap.symm,hz2⟩, ?_, ?_⟩;((dsimp only))|show Cn (.t _ _);exact .any (aJ ‹_›)|apply wZ;rfl|show Cn _;constructor|exact rfl|apply bX pk;(iterate 6 rfl);rotate_left;rfl;(intro hw;rfl);(intro hw;apply hrow<;>omega);(intro _;exact (Ex.cells_len _));rfl|(apply ihx)|apply ahT pk 1;(iterate 5 rfl);(focus repeat' constructor);rfl;(intro _;rfl);(intro _;omega);rfl|(apply apS pk (rk) 8;(iterate 8 rfl);exact aA _ _ _;exact λ_=>rfl;exact λ_=>rfl;exact lB;(omega);(omega);rfl;intro id' hid')|apply wY;rfl|omega|simp only [zql];omega|(intro h;simp at h))
   ·exact absurd hg2 (by simp)
  ·have e:=hE2 h2
   (repeat' first|show Cn (.e _ _ _ _);refine .any ?_;((refine ⟨_,_,_,rfl,zwr _,aB ‹_›, ?_,rfl⟩;(((rw [e];rfl);done))))|apply wZ;rfl|show Cn _;constructor|apply bX pk;(iterate 6 rfl);rotate_left;rfl;(intro hw;rfl);(intro hw;apply hrow<;>omega);(intro _;exact (Ex.cells_len _));rfl|(apply ihx)|apply wY;rfl|omega|(intro h;simp at h))
theorem xA {row:List Vl} (hr:rowOK row):∀(os:List Ex) (x:Ex),x∈os->x.ok->bJ x=true->PF Tryz.prog 179 [.agg x.cells, .seq (row.map Vl.cells)] (lP (cM row x))
 |[],_,h,_=>by cases h
 |e::es,x,h,hok=>by
  rcases zmc.1 h with h|h
  ·rw [h] at hok⊢;exact zV hr e hok
  ·exact xA hr es x h hok
end
def EvalR (e:Ex) (row:List Vl):Vl×Int:=if qU e≠0 then (v0,qU e) else cM row e
theorem Eval_spec {e:Ex} (hok:e.ok) {row:List Vl} (hr:rowOK row):PF Tryz.prog 128 [.agg e.cells, .seq (row.map Vl.cells)] (lP (EvalR e row)):=by
 have h1:=iK hok
 by_cases hm:qU e=0
 ·have h3:=zV hr e hok (yO hm).2
  rw [hm] at h1
  have e1:EvalR e row=cM row e:=by unfold EvalR;rw [zn (λq=>q hm)]
  rw [e1]
  generalize cM row e=R at*
  clear hm e1
  obtain ⟨k,n,v,of⟩:=e
  refine pF Tryz.func128 rfl (λst=> ?_)
  (repeat' first|apply wZ;rfl|show Cn _;constructor|exact rfl|((first|apply h1|apply h3))|apply wY;rfl)
 ·have e1:EvalR e row=(v0,qU e):=by unfold EvalR;rw [zp hm]
  rw [e1]
  generalize qU e=M at*
  clear e1
  obtain ⟨k,n,v,of⟩:=e
  refine pF Tryz.func128 rfl (λst=> ?_)
  (repeat' first|apply wZ;rfl|show Cn _;constructor|exact rfl|(apply h1)|apply wY;rfl|omega|intro h)
def aqU (f:Ex->Int->Int) (left:Int):Int->List Ex->Int
 |n,[]=>n
 |n,x::xs=>if n<=left then aqU f left (n+f x (left-n)) xs else n
def nodesR :Nat->Ex->Int->Int
 |0,_,left=>left+1
 |d+1,e,left=>aqU (nodesR d) left 1 e.of
end Go.Proofs.YtppdefkgmegipaaGreatDoor.X
namespace Go.Proofs.YtppdefkgmegipaaGreatDoor
open Go Go.Abs
namespace X
set_option maxRecDepth 10000
set_option maxHeartbeats 4000000
mutual
theorem Ex.inj :∀(a b:Ex),a.cells=b.cells->a=b
 | .mk k n v o, .mk k' n' v' o',h=>by
  simp only [Ex.cells,List.cons.injEq,PV.val.injEq,PV.seq.injEq,Value.int.injEq,Value.string.injEq,true_and,and_true] at h
  obtain ⟨rfl,rfl,h1,h2,h3,h4⟩:=h
  have e:=Ex.injs o o' h4
  obtain ⟨a,b,c⟩:=v
  obtain ⟨a',b',c'⟩:=v'
  simp only at h1 h2 h3
  subst h1 h2 h3 e
  rfl
theorem Ex.injs :∀(a b:List Ex),Ex.rows a=Ex.rows b->a=b
 |[],[],_=>rfl
 |[],_::_,h=>by simp [Ex.rows] at h
 |_::_,[],h=>by simp [Ex.rows] at h
 |a::l,b::m,h=>by
  simp only [Ex.rows,List.cons.injEq] at h
  rw [Ex.inj a b h.1,Ex.injs l m h.2]
end
end X
open Classical in
noncomputable def exOf (c:List PV):X.Ex:=if h:∃e:X.Ex,e.ok/\e.cells=c then h.choose else .mk 0 0 X.v0 []
theorem alR {c:List PV} (h:∃e:X.Ex,e.ok/\e.cells=c):(exOf c).ok/\(exOf c).cells=c:=by
 unfold exOf
 rw [dif_pos h]
 exact h.choose_spec
def vF (t:Tb):Prop:=∀c∈t.checks,∃e:X.Ex,e.ok/\e.cells=c
end Go.Proofs.YtppdefkgmegipaaGreatDoor
namespace Go.Proofs.YtppdefkgmegipaaGreatDoor
open Go Go.Abs
section
attribute [local irreducible] Ev PWp
set_option maxRecDepth 10000
set_option maxHeartbeats 4000000
variable (t:Tb) (rows:List (List Vl)) (b:Bs)
end
section
attribute [local irreducible] Ev PWp
set_option maxRecDepth 10000
set_option maxHeartbeats 4000000
variable (t:Tb) (rows:List (List Vl)) (b:Bs)
end
section
attribute [local irreducible] Ev PWp
set_option maxRecDepth 10000
set_option maxHeartbeats 4000000
structure TotOK (m:Su) (rows:List (List Vl)):Prop where
 len:rows.length<=2000
 c0:0<=m.col
 b0:0<=m.by_
 cl:∀r∈rows,m.col<r.length/\m.by_<r.length
 num:∀r∈rows,(-1099511627776<=r[m.col.toNat]!.n/\r[m.col.toNat]!.n<=1099511627776)/\(r[m.col.toNat]!.kind≠1->r[m.col.toNat]!.n=0)
theorem TotOK.ns {m:Su} {rows:List (List Vl)} (h:TotOK m rows):aC7 m rows:=λr hr=>(h.num r hr).2
end
end Go.Proofs.YtppdefkgmegipaaGreatDoor
namespace Go.Proofs.YtppdefkgmegipaaGreatDoor
open Go Go.Abs
attribute [local irreducible] Ev PWp
namespace X
set_option maxRecDepth 10000
set_option maxHeartbeats 4000000
theorem Shown_spec (c:Co):PF Tryz.prog 116 [.agg c.cells] (vi (vY c)):=by
 unfold vY
 refine pF Tryz.func116 rfl (λst=> ?_)
 (repeat' first|apply wZ;rfl|show Cn _;constructor|exact rfl|show (_:PV)=_;((simp [*];done));done|omega|intro h)
end X
end Go.Proofs.YtppdefkgmegipaaGreatDoor
namespace Go.Proofs.YtppdefkgmegipaaGreatDoor
open Go Go.Abs
attribute [local irreducible] Ev PWp
set_option maxRecDepth 10000
set_option maxHeartbeats 4000000
def cL (xs:List Vl) (i:Nat) (ys:List Vl):List Vl:=xs.take i++ys++xs.drop i
theorem afF (xs:List Vl) (i:Nat) (ys:List Vl):(cL xs i ys).map Vl.cells=(xs.map Vl.cells).take i++ys.map Vl.cells++(xs.map Vl.cells).drop i:=by
 unfold cL
 rw [List.map_append,List.map_append,List.map_take,List.map_drop]
theorem tG {xs:List Vl} {i:Nat} {ys:List Vl} (hi:i<=xs.length):(cL xs i ys).length=xs.length+ys.length:=by
 unfold cL
 simp only [zla,zlt,zld];omega
def aBO (st:aD) (id:Nat) (zs:List Vl) (r:PV) (S:aD):Prop:=∃id',r= .vec id' 3 0 zs.length/\upd st id none id'=none/\S=upd (upd st id none) id' (some (.arr 54 (zs.map Vl.cells)))
theorem adZ (xs ys:List Vl) (i id n:Nat) (st:aD) (hst:st id=some (.arr 54 (xs.map Vl.cells))) (hn:xs.length=n) (hi:i<=n) (hy:ys≠[]) (hl:n+ys.length<1000000000000):PC Tryz.prog 186 [.vec id 3 0 n,(vi ((i:Nat))), .seq (ys.map Vl.cells)] st (aBO st id (cL xs i ys)):=by
 obtain ⟨m,hm⟩:∃m,ys.length=m:=⟨_,rfl⟩
 have hln:(ys.map Vl.cells).length=m:=(zql _).trans hm
 have hm0:0<m:=by rw [<-hm];exact List.length_pos_iff.2 hy
 rw [hm] at hl
 have hzl:(cL xs i ys).length=n+m:=by rw [tG (by omega),hn,hm]
 have hzm:=afF xs i ys
 have hB:=iA
 refine pC Tryz.func186 rfl ?_
 by_cases hin:i=n
 ·subst hin
  have hz:cL xs i ys=xs++ys:=by unfold cL;rw [ztl (by omega),List.drop_of_length_le (by omega),List.append_nil]
  (repeat' first|show Cn (.r _ _ _);refine .rr ?_;(exact ⟨id',(by rw [hzl,hm]),afP hid',(by rw [hz];rfl)⟩);done|apply wZ;rfl|show Cn _;constructor|(apply apV pk (f:=Vl.cells) ys 32;(iterate 9 rfl);(assumption);(omega);exact λ_=>rfl;exact λ_=>rfl;exact hB;(omega);(omega);rfl;intro id' hid')|apply aCG pk i i;(iterate 4 rfl);rotate_left;rfl;(intro _;exact bL rfl rfl);(intro _;exact cC);(intro _;omega);(intro _;omega);rfl|omega|(intro h;simp at h))
 have hlt:i<n:=by omega
 have hxl:(xs.map Vl.cells).length=n:=(zql _).trans hn
 have hX1:∀r∈xs.map Vl.cells,r.all PV.one=true:=λr hr=>by obtain ⟨a,_,rfl⟩:=List.mem_map.1 hr;rfl
 have hX3:∀r∈xs.map Vl.cells,r.length=3:=λr hr=>by obtain ⟨a,_,rfl⟩:=List.mem_map.1 hr;rfl
 have hY1:∀r∈ys.map Vl.cells,r.all PV.one=true:=λr hr=>by obtain ⟨a,_,rfl⟩:=List.mem_map.1 hr;rfl
 have hY3:∀r∈ys.map Vl.cells,r.length=3:=λr hr=>by obtain ⟨a,_,rfl⟩:=List.mem_map.1 hr;rfl
 have hj:∀k,(xs.map Vl.cells++bM k 3).length=n+k:=λk=>by rw [zla,hxl];unfold bM;rw [List.length_replicate]
 generalize hXe:xs.map Vl.cells=X at*
 generalize hYe:ys.map Vl.cells=Y at*
 have hYn:Y≠[]:=λe=>by rw [e] at hln;simp at hln;omega
 obtain ⟨yc,ycs,yr,hYc⟩:∃c cs rest,Y=(c::cs)::rest:=by
  cases hY0:Y with
  |nil=>exact absurd hY0 hYn
  |cons a b=>
   cases ha:a with
   |nil=>have:=hY3 a (by rw [hY0];simp);rw [ha] at this;cases this
   |cons c cs=>exact ⟨c,cs,b,rfl⟩
 refine arA 0 m (id:=id) (rows:=X) rfl hst jH hxl (by omega) (by omega) (λk id1 hk hid1=> ?_) (λid1 hid1=> ?_)
 ·have hid1:st id1=none:=hid1
  have htk:(X++bM k 3).take i=X.take i:=List.take_append_of_le_length (by omega)
  have hgl:(X.take i++bM (n+m-i) 3).length=n+m:=by rw [zla,zlt];unfold bM;rw [List.length_replicate];omega
  have hg2:(bE (X.take i++bM (n+m-i) 3) i Y).length=n+m:=by rw [fD (by omega),hgl]
  have hgr:bE (bE (X.take i++bM (n+m-i) 3) i Y) (i+m) (X.drop i)=(cL xs i ys).map Vl.cells:=by rw [hzm];rw [<-hxl];exact asI hln (by omega)
  (repeat' first|(refine Cn.any ⟨_,_,upd (upd st id none) id2 (some (.arr 54 ((cL xs i ys).map Vl.cells))),rfl,zwr _,ahA (by rw [hgr]) hid1,id2,(by rw [hzl];congr 1;omega),agI hid2,rfl⟩)|apply wD pk [8] [];kernel_rfl;rfl;rfl|apply wZ;rfl|show Cn _;constructor|(refine aB1 pk (rows:=X++bM k 3) rfl rfl rfl rfl (.inr (aA _ _ _)) (by rw [hj];omega) rfl (λc hc1 hc2=> ?_);have hc3:=hc2 (aA _ _ _);rw [hj] at hc3)|apply aAt pk (j:=i) (rows:=X++bM k 3);(iterate 4 rfl);rotate_left;rfl;rfl;exact .inr (aA _ _ _);(rw [hj];omega);exact bL rfl rfl;(rw [hj];omega)|(refine apZ pk (kq:= .i64) (kn:= .i64) (i:=i) (m:=n+m-i) (sz:=3) (rows:=X++bM k 3) 32 rfl (congrArg (λz=>some (PV.val (.int .i64 z))) (show _=((n+m-i:Nat):Int) from by omega)) rfl (by kernel_rfl) rfl rfl rfl rfl (aA _ _ _) (by rw [hj];omega) (by rw [hj];omega) (by rw [hj];omega) hB (by omega) (by omega) (by omega) rfl (λid2 hid2=> ?_);rw [htk];have hne:id1≠id2:=(λe=>by rw [<-e] at hid2;have hid2:=(aA _ _ _).symm.trans hid2;cases hid2))|apply lT pk (i) (n+m-i);(iterate 4 rfl);rotate_left;rfl;(intro _;exact ⟨_,bL rfl rfl,by omega⟩);(intro _;exact ⟨_,cC,by omega⟩);(intro _;omega);(intro _;omega);rfl|apply lT pk (i+m) (n-i);(iterate 4 rfl);rotate_left;rfl;(intro _;exact ⟨_,bL rfl (show _=((i+m:Nat):Int) from by omega),by omega⟩);(intro _;exact ⟨_,cC,by omega⟩);(intro _;omega);(intro _;omega);rfl|apply lT pk (i) (n-i);(iterate 4 rfl);rotate_left;rfl;(intro _;exact ⟨_,bL rfl rfl,by omega⟩);(intro _;exact ⟨_,cC,by omega⟩);(intro _;omega);(intro _;omega);rfl|(refine akQ pk (e:=54) (sz:=3) (rows:=X.take i++bM (n+m-i) 3) (new:=Y) (m:=Y.length) (n:=Y.length) (len:=n+m-i) rfl rfl rfl rfl rfl (aA _ _ _) (by omega) (awG aT rfl rfl rfl hY3 hY1) rfl hY3 (by omega) (by omega) rfl ?_)|(refine akQ pk (e:=54) (sz:=3) (rows:=bE (X.take i++bM (n+m-i) 3) i Y) (new:=X.drop i) (m:=n-i) (n:=n-i) (len:=n-i) rfl rfl rfl rfl rfl (aA _ _ _) (by omega) (alY (k:=k) rfl (.inr ((aC ‹_›).trans ((aC ‹_›).trans (aA _ _ _)))) hxl (by omega) jH hX1 (by omega) (by omega)) (by rw [zld];omega) (λr hr=>hX3 r (List.mem_of_mem_drop hr)) (by omega) (by omega) rfl ?_)|omega|(intro h;simp at h)|intro h)
 ·have hid1:st id1=none:=hid1
  have hg2:(bE (X++bM m 3) (i+m) (X.drop i)).length=n+m:=by rw [fD (by rw [zld,hj];omega),hj]
  have hgr:bE (bE (X++bM m 3) (i+m) (X.drop i)) i Y=(cL xs i ys).map Vl.cells:=by rw [hzm];exact auN hln (by omega)
  (repeat' first|(refine Cn.any ⟨_,_,upd (upd st id none) id1 (some (.arr 54 ((cL xs i ys).map Vl.cells))),rfl,zwr _,agW (by rw [hgr]),id1,(by rw [hzl]),afP hid1,rfl⟩)|apply wD pk [8] [];kernel_rfl;rfl;rfl|apply wZ;rfl|show Cn _;constructor|apply lT pk (i) (n-i);(iterate 4 rfl);rotate_left;rfl;(intro _;exact ⟨_,bL rfl rfl,by omega⟩);(intro _;exact ⟨_,cC,by omega⟩);(intro _;omega);(intro _;omega);rfl|apply lT pk (i) (n+m-i);(iterate 4 rfl);rotate_left;rfl;(intro _;exact ⟨_,bL rfl rfl,by omega⟩);(intro _;exact ⟨_,cC,by omega⟩);(intro _;omega);(intro _;omega);rfl|apply lT pk (i+m) (n-i);(iterate 4 rfl);rotate_left;rfl;(intro _;exact ⟨_,bL rfl (show _=((i+m:Nat):Int) from by omega),by omega⟩);(intro _;exact ⟨_,cC,by omega⟩);(intro _;omega);(intro _;omega);rfl|(refine aB1 pk (rows:=X++bM m 3) rfl rfl rfl rfl (.inl (aA _ _ _)) (by rw [hj];omega) rfl (λc hc1 hc2=> ?_);rw [hj] at hc1)|apply aAt pk (j:=n+m) (rows:=X++bM m 3);(iterate 4 rfl);rotate_left;rfl;rfl;exact .inl (aA _ _ _);(rw [hj];omega);exact bL rfl (show _=((n+m:Nat):Int) from by omega);(rw [hj];omega)|(refine ovA pk (w:=true) (tS:=34) (tR:=4) (off:=i+m) (len:=n-i) (e:=54) (sz:=3) (rows:=X++bM m 3) rfl rfl Tryz.func226 (by kernel_rfl) (by kernel_rfl) (by kernel_rfl) (by kernel_rfl) rfl rfl rfl hYc rfl (.inl (aA _ _ _)) (by rw [hj];omega) jH (by omega) ?_ rfl rfl ?_;rotate_left)|(refine akQ pk (e:=54) (sz:=3) (rows:=X++bM m 3) (new:=X.drop i) (m:=n+m-i) (n:=n-i) (len:=n-i) rfl rfl rfl rfl rfl (aA _ _ _) (by rw [hj];omega) (alY (k:=m) rfl (.inl (aA _ _ _)) hxl (by omega) jH hX1 (by omega) (by omega)) (by rw [zld];omega) (λr hr=>hX3 r (List.mem_of_mem_drop hr)) (by omega) (by omega) rfl ?_)|(refine akQ pk (e:=54) (sz:=3) (rows:=bE (X++bM m 3) (i+m) (X.drop i)) (new:=Y) (m:=Y.length) (n:=Y.length) (len:=n+m-i) rfl rfl rfl rfl rfl (aA _ _ _) (by omega) (awG aT rfl rfl rfl hY3 hY1) rfl hY3 (by omega) (by omega) rfl ?_)|omega|(intro h;simp at h)|intro h)
def bS (a b:Vl):Bool:=if a.kind≠b.kind then decide (a.kind<b.kind) else if a.n≠b.n then decide (a.n<b.n) else Op.bytesLess a.s.toList b.s.toList
def eM (a b:Vl):Bool:= !bS a b&& !bS b a
theorem iH (a b:Vl):PF Tryz.prog 90 [.agg a.cells, .agg b.cells] (vb (bS a b)):=by
 unfold bS
 refine pF Tryz.func90 rfl (λst=> ?_)
 (repeat' first|apply wZ;rfl|show Cn _;constructor|exact rfl|show (_:PV)=_;(simp [*];done);done|intro h)
theorem kY (a b:Vl):PF Tryz.prog 92 [.agg a.cells, .agg b.cells] (vb (eM a b)):=by
 have h1:=iH a b
 have h2:=iH b a
 unfold eM
 refine pF Tryz.func92 rfl (λst=> ?_)
 (repeat' first|apply wZ;rfl|show Cn _;constructor|exact rfl|((first|apply h1|apply h2))|apply wY;rfl)
def atV (o:List Vl) (v:Vl):Nat:=(o.findIdx? λx=> !bS x v).getD o.length
def xX (o:List Vl) (v:Vl):List Vl:=if atV o v<o.length/\eM o[atV o v]! v=true then o else cL o (atV o v) [v]
def fO (l:List Pt):List Vl:=l.foldl (λo p=>xX o p.val) []
theorem aBs (o:List Vl) (v:Vl):atV o v<=o.length:=by
 unfold atV
 cases h:o.findIdx? λx=> !bS x v with
 |none=>exact Nat.le_refl _
 |some k=>exact Nat.le_of_lt (List.findIdx?_eq_some_iff_getElem.1 h).1
theorem arY {o:List Vl} {v:Vl} {a:Nat} (ha:a<=o.length) (h1:∀j (h:j<o.length),j<a->bS o[j] v=true) (h2:∀h:a<o.length,bS o[a] v=false):atV o v=a:=by
 unfold atV
 rcases Nat.lt_or_ge a o.length with h|h
 ·rw [List.findIdx?_eq_some_iff_getElem.2 ⟨h,by rw [h2 h];rfl,λj hj=>by rw [h1 j (by omega) hj];simp⟩];rfl
 ·rw [List.findIdx?_eq_none_iff.2 λx hx=>by
   obtain ⟨j,hj,rfl⟩:=zgo hx
   rw [h1 j hj (by omega)];rfl]
  show o.length=a
  omega
theorem awL (o:List Vl) (v:Vl):(xX o v).length<=o.length+1:=by
 unfold xX
 split
 ·omega
 ·rw [tG (aBs o v)];exact Nat.le_refl _
theorem alH {l:List Pt} {i:Nat} (h:i<l.length):fO (l.take (i+1))=xX (fO (l.take i)) l[i].val:=by
 unfold fO
 rw [List.take_succ_eq_append_getElem h,List.foldl_append];rfl
theorem agC (l:List Pt):(fO l).length<=l.length:=by
 have key:∀i,i<=l.length->(fO (l.take i)).length<=i:=by
  intro i
  induction i with
  |zero=>intro _;simp [fO]
  |succ i ih=>
   intro h
   rw [alH (by omega)]
   have:=awL (fO (l.take i)) l[i].val
   have:=ih (by omega)
   omega
 have:=key l.length (Nat.le_refl _)
 rwa [List.take_length] at this
theorem ayH (c:Cl) (hl:c.parts.length<1000000000) (st:aD):PC Tryz.prog 150 [.agg c.cells] st λr S=>∃id,r= .vec id 3 0 (fO c.parts).length/\st id=none/\S=upd st id (some (.arr 54 ((fO c.parts).map Vl.cells))):=by
 refine pC Tryz.func150 rfl ?_
 focus ((repeat' first|apply wZ;rfl|show Cn _;constructor))
 refine dU 3 54 3 rfl rfl rfl (λid hid=> ?_)
 refine aG (X:={x:Nat×Nat×List Vl//x.1<=c.parts.length/\st x.2.1=none/\x.2.2=fO (c.parts.take x.1)}) (λi=>(((((St.nil 51 (upd st i.1.2.1 (some (.arr 54 (i.1.2.2.map Vl.cells))))).pv 3 (.vec i.1.2.1 3 0 i.1.2.2.length)).pv 8 (.seq (c.parts.map Pt.cells))).pv 9 ((vi (((c.parts.map Pt.cells).length:Nat))))).pv 10 ((vi ((i.1.1:Nat)))))) (λi=>c.parts.length-i.1.1) ⟨(0,id,[]),by simp,hid,rfl⟩ ?_ (λi=> ?_)
 ·dsimp only
  (repeat' first|show Cn (.t _ _);exact Cn.t0|show Cn _;constructor|exact rfl)
 obtain ⟨⟨i,id,o⟩,hi,hid,ho⟩:=i
 simp only at hi hid ho
 dsimp only
 have hol:o.length<=i:=by rw [ho];have:=agC (c.parts.take i);rw [zlt] at this;omega
 by_cases hend:c.parts.length<=i
 have e:o=fO c.parts:=by rw [ho,ztl hend]
 subst e
 focus ((repeat' first|show Cn (.r _ _ _);refine .rr ?_;(exact ⟨id,rfl,hid,rfl⟩);done|apply wZ;rfl|show Cn _;constructor|simp only [zql];omega|(intro h;simp at h)))
 have hil:i<c.parts.length:=by omega
 have hu:=alH hil
 rw [<-ho] at hu
 focus ((repeat' first|apply wZ;rfl|show Cn _;constructor|exact rfl|apply wI;rfl|apply gE;omega|simp only [zql];omega|(intro h;simp at h)))
 refine aG (X:={x:Nat//x<=o.length/\∀j (h:j<o.length),j<x->bS o[j] c.parts[i].val=true}) (λy=>(((((((St.nil 51 (upd st id (some (.arr 54 (o.map Vl.cells))))).pv 3 (.vec id 3 0 o.length)).var 5 237 (c.parts[i].cells)).pv 6 ((vi ((y.1:Nat))))).pv 8 (.seq (c.parts.map Pt.cells))).pv 9 ((vi (((c.parts.map Pt.cells).length:Nat))))).pv 10 ((vi ((i:Nat)))))) (λy=>o.length-y.1) ⟨0,by omega,by omega⟩ ?_ (λy=> ?_)
 ·(repeat' first|show Cn (.t _ _);exact Cn.t0|show Cn _;constructor|exact rfl)
 obtain ⟨a,ha,hA⟩:=y
 dsimp only
 by_cases hlt:a<o.length
 have ea:o.toArray[a]! =o[a]:=by rw [getElem!_pos o.toArray a (by simpa using hlt)];simp
 have hless:=iH o.toArray[a]! c.parts[i].val
 have hsame:=kY o.toArray[a]! c.parts[i].val
 have hup:bS o[a] c.parts[i].val=true->∀j (h:j<o.length),j<a+1->bS o[j] c.parts[i].val=true:=λh j hj hja=>by
  rcases zls.1 hja with q|q
  ·exact hA j hj q
  ·subst q;exact h
 have hat:=λh:bS o[a] c.parts[i].val=false=>arY (v:=c.parts[i].val) ha hA λ_=>h
 have hIf:xX o c.parts[i].val=if atV o c.parts[i].val<o.length/\eM o[atV o c.parts[i].val]! c.parts[i].val=true then o else cL o (atV o c.parts[i].val) [c.parts[i].val]:=rfl
 cases hF:bS o[a] c.parts[i].val with
 |true=>
  rw [show bS o.toArray[a]! c.parts[i].val=true from by rw [ea];exact hF] at hless
  have hA2:=hup hF
  (repeat' first|apply wDx pk;rfl;kernel_rfl;rfl;rfl|(apply Cn.cf;focus ((apply hless);done))|(refine ⟨⟨a+1,by omega,hA2⟩, ?_, ?_⟩)|show Cn (.t _ _);exact Cn.t0|apply wZ;rfl|show Cn _;constructor|exact rfl|apply ixA pk;(iterate 5 rfl);rotate_left;rfl;(intro hw;(exact (show _=((a:Nat):Int) from by omega)));(intro hw;(omega));rfl;(exact Nat.zero_add _)|apply ldA pk Vl.elem;rfl;rfl;rotate_left;rfl;(exact aA _ _ _);(intro hw;(omega));rfl|apply wY;rfl|omega|simp only [zql];omega|intro h;simp at h;omega|(intro h;simp at h))
 |false=>
  rw [show bS o.toArray[a]! c.parts[i].val=false from by rw [ea];exact hF] at hless
  rw [hat hF,getElem!_pos o a hlt] at hIf
  cases hG:eM o[a] c.parts[i].val with
  |true=>
   rw [show eM o.toArray[a]! c.parts[i].val=true from by rw [ea];exact hG] at hsame
   rw [hG] at hIf
   rw [zp ⟨hlt,rfl⟩] at hIf
   rw [hIf] at hu
   have hu2:o=fO (c.parts.take (i+1)):=hu.symm
   (repeat' first|apply wDx pk;rfl;kernel_rfl;rfl;rfl|(apply Cn.cf;focus (((first|apply hless|apply hsame));done))|(refine ⟨⟨(i+1,id,o),by simp only;omega,hid,hu2⟩, ?_, ?_⟩)|show Cn (.t _ _);exact Cn.t0|apply wZ;rfl|show Cn _;constructor|exact rfl|apply ixA pk;(iterate 5 rfl);rotate_left;rfl;(intro hw;(exact (show _=((a:Nat):Int) from by omega)));(intro hw;(omega));rfl;(exact Nat.zero_add _)|apply ldA pk Vl.elem;rfl;rfl;rotate_left;rfl;(exact aA _ _ _);(intro hw;(omega));rfl|apply wY;rfl|omega|simp only [zql];omega|intro h;simp at h;done|intro h;simp at h;omega|(intro h;simp at h))
  |false=>
   rw [show eM o.toArray[a]! c.parts[i].val=false from by rw [ea];exact hG] at hsame
   rw [hG] at hIf
   rw [zn (by simp)] at hIf
   rw [hIf] at hu
   have hu2:cL o a [c.parts[i].val]=fO (c.parts.take (i+1)):=hu.symm
   (repeat' first|apply wDx pk;rfl;kernel_rfl;rfl;rfl|(apply Cn.cf;focus (((first|apply hless|apply hsame));done))|(apply cP;rfl;(apply (adZ o [c.parts[i].val] a id o.length _ (aA _ _ _) rfl (by omega) (by simp) (by simp;omega)));rintro _ st' (⟨id2,rfl,hid2,rfl⟩))|(refine ⟨⟨(i+1,id2,cL o a [c.parts[i].val]),by simp only;omega,agQ hid hid2,hu2⟩, ?_, ?_⟩)|show Cn (.t _ _);exact .any (aJ ‹_›)|apply wZ;rfl|show Cn _;constructor|exact rfl|apply ixA pk;(iterate 5 rfl);rotate_left;rfl;(intro hw;(exact (show _=((a:Nat):Int) from by omega)));(intro hw;(omega));rfl;(exact Nat.zero_add _)|apply ldA pk Vl.elem;rfl;rfl;rotate_left;rfl;(exact aA _ _ _);(intro hw;(omega));rfl|apply wY;rfl|omega|simp only [zql];omega|intro h;simp at h;done|(intro h;simp at h))
 have hIf:xX o c.parts[i].val=cL o a [c.parts[i].val]:=by
  unfold xX
  rw [arY (v:=c.parts[i].val) ha hA λh=>absurd h hlt,zn (by simp [hlt])]
 rw [hIf] at hu
 have hu2:cL o a [c.parts[i].val]=fO (c.parts.take (i+1)):=hu.symm
 obtain rfl:a=o.length:=by omega
 (repeat' first|apply wDx pk;rfl;kernel_rfl;rfl;rfl|(apply cW;focus (intro _;(apply (show PF Tryz.prog 90 [_,_] (vb (false)) from by rename_i hh;simp [gw] at hh));done))|(apply cW;focus (intro _;(apply (show PF Tryz.prog 92 [_,_] (vb (false)) from by rename_i hh;simp [gw] at hh));done))|(apply cP;rfl;(apply (adZ o [c.parts[i].val] o.length id o.length _ (aA _ _ _) rfl (by omega) (by simp) (by simp;omega)));rintro _ st' (⟨id2,rfl,hid2,rfl⟩))|(refine ⟨⟨(i+1,id2,cL o o.length [c.parts[i].val]),by simp only;omega,agQ hid hid2,hu2⟩, ?_, ?_⟩)|show Cn (.t _ _);exact .any (aJ ‹_›)|apply wZ;rfl|show Cn _;constructor|exact rfl|apply ixA pk;(iterate 5 rfl);rotate_left;rfl;(intro hw;(exact (show _=((o.length:Nat):Int) from by omega)));(intro hw;((focus (simp [gw] at hw;done))));rfl;(exact Nat.zero_add _)|apply ldA pk Vl.elem;rfl;rfl;rotate_left;rfl;(exact aA _ _ _);(intro hw;((focus (simp [gw] at hw;done))));rfl|apply wY;rfl|omega|simp only [zql];omega|intro h;simp at h;done|(intro h;simp at h))
def dN (xs:Array Int):Nat->Nat
 |0=>0
 |1=>0
 |i+2=>dN xs (i+1)+if xs[i+1]! =xs[i]! then 0 else 1
theorem auS (xs:Array Int) {k:Nat} (h:1<=k):dN xs (k+1)=dN xs k+if xs[k]! =xs[k-1]! then 0 else 1:=by
 obtain ⟨i,rfl⟩:∃i,k=i+1:=⟨k-1,by omega⟩
 rfl
theorem avG (xs:Array Int) (k:Nat):∀y,1<=k->dN xs (k+y)<=dN xs k+y
 |0,_=>Nat.le_refl _
 |y+1,h=>by
  have:=avG xs k y h
  rw [show k+(y+1)=k+y+1 from rfl,auS xs (by omega)]
  split<;>omega
def yA (xs:Array Int):Nat:=if xs.size<2 then xs.size else 1+dN xs xs.size
theorem aiD (xs:Array Int) {st:aD} {id n:Nat} (hst:st id=some (.arr 3 (xs.toList.map I1))) (hn:xs.size=n) (h12:n<1000000000000):
  PC Tryz.prog 188 [.vec id 1 0 n] st λr S=>r= .vec id 1 0 (yA xs)/\∃rows,S=upd st id (some (.arr 3 rows)):=by
 by_cases h2:n<2
 ·have e:yA xs=n:=by unfold yA;rw [zp (by omega),hn]
  rw [e]
  refine pC Tryz.func188 rfl ?_
  (repeat' first|show Cn (.r _ _ _);refine .rr ?_;(exact ⟨rfl,_,(aL hst).symm⟩);done|apply wZ;rfl|show Cn _;constructor|omega|intro h)
 have e:yA xs=1+dN xs n:=by unfold yA;rw [zn (by omega),hn]
 rw [e]
 refine pC Tryz.func188 rfl ?_
 focus ((repeat' first|apply wZ;rfl|show Cn _;constructor|omega|(intro h;simp at h)))
 refine aG (X:={x:Nat//1<=x/\x<=n/\dN xs x+1=x}) (λi=>(((St.nil 61 (st)).pv 0 (.vec id 1 0 n)).pv 3 ((vi ((i.1:Nat)))))) (λi=>n-i.1) ⟨1,by omega,by omega,rfl⟩ ?_ (λi=> ?_)
 ·(repeat' first|show Cn (.t _ _);exact Cn.t0|show Cn _;constructor|exact rfl)
 obtain ⟨k,hk1,hk2,hk3⟩:=i
 dsimp only
 by_cases hend:n<=k
 ·obtain rfl:k=n:=by omega
  have e2:1+dN xs k=k:=by omega
  rw [e2]
  (repeat' first|show Cn (.r _ _ _);refine .rr ?_;(exact ⟨rfl,_,(aL hst).symm⟩);done|apply wZ;rfl|show Cn _;constructor|omega|(intro h;simp at h))
 have hkn:k<n:=by omega
 have hu:=auS xs hk1
 by_cases hd:¬xs[k]! =xs[k-1]!
 ·rw [zn hd] at hu
  have hu2:dN xs (k+1)+1=k+1:=by omega
  (repeat' first|apply wDx pk;rfl;kernel_rfl;rfl;rfl|(refine ⟨⟨k+1,by omega,by omega,hu2⟩, ?_, ?_⟩)|show Cn (.t _ _);exact Cn.t0|apply wZ;rfl|show Cn _;constructor|exact rfl|apply ixA pk;(iterate 5 rfl);rotate_left;rfl;(intro hw;(first|exact (show _=((k:Nat):Int) from by omega)|exact (show _=((k-1:Nat):Int) from by omega)));(intro hw;(omega));rfl;(exact Nat.zero_add _)|apply ldA pk I1.elem;rfl;rfl;rotate_left;rfl;(assumption);(intro hw;(omega));rfl|omega|simp only [zql];omega|(intro h;simp at h)|intro h)
 replace hd:=zdn hd
 rw [zp hd] at hu
 focus ((repeat' first|apply wDx pk;rfl;kernel_rfl;rfl;rfl|apply wZ;rfl|show Cn _;constructor|apply ixA pk;(iterate 5 rfl);rotate_left;rfl;(intro hw;(first|exact (show _=((k:Nat):Int) from by omega)|exact (show _=((k-1:Nat):Int) from by omega)));(intro hw;(omega));rfl;(exact Nat.zero_add _)|apply ldA pk I1.elem;rfl;rfl;rotate_left;rfl;(assumption);(intro hw;(omega));rfl|apply lT pk k (n-k);(iterate 4 rfl);rotate_left;rfl;(intro _;exact ⟨_,bL rfl rfl,by omega⟩);(intro _;exact ⟨_,cC,by omega⟩);(intro _;omega);(intro _;omega);rfl|omega|(intro h;simp at h)|intro h))
 refine aG (X:={x:Nat×Array Int//1<=x.1/\x.1<=n-k/\x.2.size=n/\∀j,k+x.1<=j+1->j<n->x.2[j]! =xs[j]!}) (λy=>(((((St.nil 61 (upd st id (some (.arr 3 (y.1.2.toList.map I1))))).pv 0 (.vec id 1 0 n)).pv 3 ((vi (((1+dN xs (k+y.1.1):Nat):Int))))).pv 4 (.vec id 1 k (n-k))).pv 5 ((vi ((y.1.1:Nat)))))) (λy=>n-y.1.1) ⟨(1,xs),by omega,by omega,hn,λ_ _ _=>rfl⟩ ?_ (λy=> ?_)
 ·dsimp only
  (repeat' first|show Cn (.t _ _);exact .any (aI (by (exact aL ‹_›)))|show Cn _;constructor|exact rfl|congr 2;omega)
 obtain ⟨⟨y,ys⟩,hy1,hy2,hys,hy⟩:=y
 simp only at hy1 hy2 hys hy
 dsimp only
 have hle:=avG xs (k+1) (y-1) (by omega)
 rw [show k+1+(y-1)=k+y by omega] at hle
 by_cases hend2:n-k<=y
 ·obtain rfl:y=n-k:=by omega
  rw [show k+(n-k)=n by omega] at hle⊢
  have hr:(ys.toList.map I1).length=n:=by rw [zql,Array.length_toList,hys]
  (repeat' first|show Cn (.r _ _ _);refine .rr ?_;(exact ⟨rfl,_,aH _ _ _ _⟩);done|apply wZ;rfl|show Cn _;constructor|apply lT pk (1+dN xs n) (n-(1+dN xs n));(iterate 4 rfl);rotate_left;rfl;(intro _;exact ⟨_,bL rfl rfl,by omega⟩);(intro _;exact ⟨_,cC,by omega⟩);(intro _;omega);(intro _;omega);rfl|(refine aiH pk (id:=id) (off:=1+dN xs n) (len:=n-(1+dN xs n)) (rows:=ys.toList.map I1) rfl rfl rfl rfl rfl rfl rfl rfl (aA _ _ _) (by omega) (by omega) (by omega) rfl ?_)|apply afO pk (1+dN xs n);(iterate 4 rfl);rotate_left;rfl;(intro _;exact bL rfl rfl);(intro _;omega);(intro _;omega);rfl|omega|(intro h;simp at h))
 have hr1:=hy (k+y) (by omega) (by omega)
 have hr2:=hy (k+(y-1)) (by omega) (by omega)
 have hup:=auS xs (show 1<=k+y by omega)
 rw [show k+y-1=k+(y-1) by omega,show k+y+1=k+(y+1) from rfl] at hup
 by_cases he:xs[k+y]! =xs[k+(y-1)]!
 ·rw [zp he] at hup
  have hya:∀j,k+(y+1)<=j+1->j<n->ys[j]! =xs[j]!:=λj h1 h2=>hy j (by omega) h2
  rw [<-hr1,<-hr2] at he
  (repeat' first|apply wDx pk;rfl;kernel_rfl;rfl;rfl|refine ⟨⟨(y+1,ys),by simp only;omega,by simp only;omega,hys,hya⟩, ?_, ?_⟩;((dsimp only))|show Cn (.t _ _);exact Cn.t0|apply wZ;rfl|show Cn _;constructor|exact rfl|show _=_;(congr 2;omega)|apply ixA pk;(iterate 5 rfl);rotate_left;rfl;(intro hw;(first|exact (show _=((y:Nat):Int) from by omega)|exact (show _=((y-1:Nat):Int) from by omega)));(intro hw;(omega));rfl;(rfl)|apply ldA pk I1.elem;rfl;rfl;rotate_left;rfl;(exact aA _ _ _);(intro hw;(omega));rfl|omega|simp only [zql];omega|(intro h;simp at h)|intro h)
 ·rw [zn he] at hup
  have hya:∀j,k+(y+1)<=j+1->j<n->(ys.setIfInBounds (1+dN xs (k+y)) ys[k+y]!)[j]! =xs[j]!:=λj h1 h2=>by
   rw [getElem!_pos _ j (by rw [zqs];omega),Array.getElem_setIfInBounds_ne (by omega) (by omega),<-getElem!_pos ys j (by omega)]
   exact hy j (by omega) h2
  rw [<-hr1,<-hr2] at he
  (repeat' first|apply wDx pk;rfl;kernel_rfl;rfl;rfl|refine ⟨⟨(y+1,ys.setIfInBounds (1+dN xs (k+y)) ys[k+y]!),by simp only;omega,by simp only;omega,by rw [zqs];exact hys,hya⟩, ?_, ?_⟩;((dsimp only))|show Cn (.t _ _);exact .any (aI (by (((simp only [St.pv,St.put,St.sst,St.setv,St.nil,St.var,aH]);(done)))))|apply wZ;rfl|show Cn _;constructor|exact rfl|show _=_;(congr 2;omega)|(apply ixA pk;(iterate 5 rfl);rotate_left;rfl;(intro hw;(first|exact (show _=((y:Nat):Int) from by omega)|exact (show _=((y-1:Nat):Int) from by omega)|exact (show _=((1+dN xs (k+y):Nat):Int) from by omega)));(intro hw;(omega));rfl;(first|exact Nat.zero_add _|exact rfl))|apply ldA pk I1.elem;rfl;rfl;rotate_left;rfl;(exact aA _ _ _);(intro hw;(omega));rfl|apply stA pk I1.elem;rfl;rfl;rfl;(exact aA _ _ _);(omega);rfl|omega|simp only [zql];omega|(intro h;simp at h)|intro h)
end Go.Proofs.YtppdefkgmegipaaGreatDoor
namespace Go.Proofs.YtppdefkgmegipaaGreatDoor.T
open Go Go.Abs
attribute [local irreducible] Ev PWp
set_option maxRecDepth 10000
set_option maxHeartbeats 4000000
def rT :List Pt->List Int->List Int
 |[],acc=>acc
 |p::r,acc=>rT r (if p.gone=false/\acc.length<200 then acc++[p.val.n] else acc)
def showP (c:Cl):Vl:=if rightP c=0 then ⟨2,0,tL (rT c.parts [])⟩ else Vl.zero
theorem agE {l:List Pt} {i:Nat} (h:i<l.length) (acc:List Int):rT (l.drop i) acc=rT (l.drop (i+1)) (if l[i].gone=false/\acc.length<200 then acc++[l[i].val.n] else acc):=by
 rw [List.drop_eq_getElem_cons h];rfl
theorem aBo :Tryz.prog.bytesOf 5=1:=by kernel_rfl
theorem aaQ {c:Cl} (h:rightP c=0):c.kind=4/\c.val=Vl.zero/\Whole c.parts/\c.parts.length<=2000/\eQ c.parts=c.parts:=by
 unfold rightP at h
 split at h
 ·cases h
 ·split at h
  ·cases h
  ·split at h
   ·cases h
   ·split at h
    ·cases h
    ·rename_i h1 h2 h3 h4
     simp only [ne_eq,not_or,Decidable.not_not,Bool.not_eq_false] at h1 h2 h4
     exact ⟨h1,h2.1,(gD _).1 h2.2,by omega,h4⟩
theorem avE {p:Pt} (h:cU p=true):0<=p.val.n/\p.val.n<=255:=by
 simp only [cU,gY,zba,zde] at h
 exact ⟨h.1.1.1.2.1,h.1.1.1.2.2⟩
theorem kI {st:aD} {id id':Nat} {o:AObj} (h:upd st id (some o) id'=none):st id'=none:=by
 by_cases e:id'=id
 ·rw [e,aA] at h;cases h
 ·rwa [aC e] at h
theorem show_spec (c:Cl) (hl:c.parts.length<4611686018427387904):PF Tryz.prog 110 [.agg c.cells] (.agg (showP c).cells):=by
 refine pF Tryz.func110 rfl (λst=> ?_)
 (repeat' first|apply wZ;rfl|show Cn _;constructor|exact rfl|(apply (right_spec c hl))|show (_:PV)=_;(rw [showP,zn ‹_›];rfl);done|apply wY;rfl|intro h)
 have h0:rightP c=0:=h
 have hb:=λp (hp:p∈c.parts)=>avE ((aaQ h0).2.2.1.formed p hp)
 refine abE 3 5 rfl rfl (λid hid=> ?_)
 have hid:st id=none:=hid
 refine aG (X:={x:Nat×List Int×Nat//x.1<=c.parts.length/\st x.2.2=none/\x.2.1.length<=200/\rT (c.parts.drop x.1) x.2.1=rT c.parts []}) (λi=>((((((St.nil 36 (upd st i.1.2.2 (some (.tok 5)))).var 2 54 ([(vi (0)),(vi (0)),(vs (e0))])).pv 3 (.own i.1.2.2 (i.1.2.1.map U8))).pv 11 (.seq (c.parts.map Pt.cells))).pv 12 ((vi ((c.parts.length:Nat))))).pv 13 ((vi ((i.1.1:Nat)))))) (λi=>c.parts.length-i.1.1) ⟨(0,[],id),by simp,hid,by simp,rfl⟩ ?_ (λi=> ?_)
 ·(repeat' first|show Cn (.t _ _);exact Cn.t0|show Cn _;constructor|exact rfl|simp)
 obtain ⟨⟨i,acc,id⟩,hi,hid,ha,hinv⟩:=i
 simp only at hi hid ha hinv
 dsimp only
 have hs:=λh:i<c.parts.length=>agE h acc
 have hb2:=λh:i<c.parts.length=>hb _ (zgm h)
 (repeat' first|show Cn (.e _ _ _ _);refine .any ?_;((refine ⟨_,_,_,rfl,zwr _,aB ‹_›, ?_,rfl⟩;(((rw [showP,zp h0,<-hinv,List.drop_eq_nil_of_le (by omega)];rfl);done))))|((first|refine ⟨⟨(i+1,acc++[(c.parts[i]'‹_›).val.n],id'),by simp only;omega,kI hid',by simp only [zla,List.length_singleton];omega,by rw [<-hinv,hs ‹_›,zp ⟨h.1,by omega⟩]⟩, ?_,by simp only;omega⟩|refine ⟨⟨(i+1,acc,id),by simp only;omega,hid,ha,by rw [<-hinv,hs ‹_›,zn (λq=>by have:=h q.1;omega)]⟩, ?_,by simp only;omega⟩);focus ((repeat' first|show Cn (.t _ _);exact Cn.t0|show Cn (.t _ _);exact .any (aJ ‹_›)|show Cn _;constructor|exact rfl);done))|apply wZ;rfl|show Cn _;constructor|exact rfl|apply cvA pk.htt;(iterate 5 rfl);(refine ⟨?_, ?_⟩<;>(first|exact (hb2 ‹_›).1|have:=(hb2 ‹_›).2;omega));rfl|apply aDc pk acc;(iterate 6 rfl);rotate_left;rfl;rfl|(apply apS pk ((c.parts[i]'‹_›).val.n) 1;(iterate 8 rfl);exact aA _ _ _;exact λ_=>rfl;exact λ_=>rfl;exact aBo;(omega);(omega);rfl;intro id' hid')|apply wI;rfl|apply gE;omega|omega|(intro h;simp at h))
end Go.Proofs.YtppdefkgmegipaaGreatDoor.T
