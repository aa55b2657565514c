import Derived.Test.YtloecjjehapblaaGreatDoorOpAn
import Derived.Test.YtloecjjehapblaaGreatDoorOpAl
import Derived.Test.YtloecjjehapblaaGreatDoorOpAm
import Derived.Test.YtloecjjehapblaaGreatDoorOpAk
import Derived.Test.YtloecjjehapblaaGreatDoorAbsJ
set_option linter.unusedSimpArgs false
set_option linter.unusedVariables false
namespace Go.Proofs.YtloecjjehapblaaGreatDoor.X
open Go Go.Abs
attribute [local irreducible] Ev PWp
set_option maxRecDepth 10000
set_option maxHeartbeats 4000000
def rowOK (row:List Vl):Prop:=row.length<2^62/\∀v∈row,lim v.n
theorem axI {k n:Int} {v:Vl} {of:List Ex} {row:List Vl} (hr:rowOK row) (hk:k=0\/k=1) (hf:bQ (.mk k n v of)=true):
  PF Tryz.prog 181 [.agg (Ex.mk k n v of).cells, .seq (row.map Vl.cells)] (oB (dK row (.mk k n v of))):=by
 have hlen:(row.map Vl.cells).length=row.length:=zql _
 have hrl:=hr.1
 by_cases hk0:k=0
 ·subst hk0
  simp [bQ,mF] at hf
  by_cases h2:n>=row.length
  ·have e:dK row (.mk 0 n v of)=(v0,4):=by simp only [dK,if_pos];rw [if_pos h2]
   rw [e]
   refine aG aF Tryz.func181 (by kernel_rfl) rfl rfl rfl rfl (λst=> ?_)
   (try apply wO pk;rfl);(repeat' first|show All _;constructor|apply wC pk;rfl;rfl|refine aA rfl ?_ ?_<;>intro h<;>(try simp at h)<;>try omega|(refine aC ?_;refine ⟨_,_,_,rfl,zwr _,zsr _, ?_,rfl⟩;try rfl))
  ·have hn:n.toNat<row.length:=by omega
   have hx:=getElem?_pos row n.toNat hn
   have e:dK row (.mk 0 n v of)=(row[n.toNat],0):=by simp only [dK,if_pos];rw [if_neg h2];simp [hx]
   rw [e]
   have hrow:(row.map Vl.cells)[n.toNat]?=some row[n.toNat].cells:=by rw [List.getElem?_map,hx];rfl
   have hnn:n=((n.toNat:Nat):Int):=by omega
   refine aG aF Tryz.func181 (by kernel_rfl) rfl rfl rfl rfl (λst=> ?_)
   (try apply wO pk;rfl);(repeat' first|show All _;constructor|show Imp _ _;constructor|apply wC pk;rfl;rfl|apply wE pk;rfl;rfl|refine aA rfl ?_ ?_<;>intro h<;>(try simp at h)<;>try omega|(refine aC ?_;refine ⟨_,_,_,rfl,zwr _,zsr _, ?_,rfl⟩;try rfl)|apply aN pk;(iterate 6 rfl);rotate_left;rfl;(intro hw;exact hnn);(intro hw;apply hrow<;>omega);(intro _;rfl);rfl)
 ·have hk1:k=1:=by omega
  subst hk1
  have e:dK row (.mk 1 n v of)=(v,0):=by simp [dK]
  rw [e]
  refine aG aF Tryz.func181 (by kernel_rfl) rfl rfl rfl rfl (λst=> ?_)
  (try apply wO pk;rfl);(repeat' first|show All _;constructor|apply wC pk;rfl;rfl|refine aA rfl ?_ ?_<;>intro h<;>(try simp at h)<;>try omega|(refine aC ?_;refine ⟨_,_,_,rfl,zwr _,zsr _, ?_,rfl⟩;try rfl))
def arB :List PV:=[(PV.val (Value.int .i64 (0))),(PV.val (Value.int .i64 (0))),(PV.val (Value.string (e0)))]
def aG8 :List Vl->List PV
 |[]=>arB++arB
 |[a]=>a.cells++arB
 |a::b::_=>a.cells++b.cells
mutual
theorem aeG {row:List Vl} (hr:rowOK row):∀(e:Ex),e.ok->bQ e=true->PF Tryz.prog 181 [.agg e.cells, .seq (row.map Vl.cells)] (oB (dK row e))
 | .mk k n v of,hok,hf=>by
  have ih:=aaY hr of
  by_cases hk01:k=0\/k=1
  ·exact axI hr hk01 hf
  have hk0:¬k=0:=by omega
  have hk1:¬k=1:=by omega
  obtain ⟨hk,hn,hv,hlen,hall⟩:=tE hf hk0 hk1
  simp only [Ex.ok] at hok
  have hm:=akZ k
  have hrl:=Ex.rows_len of
  obtain ⟨fid,caps,hlook,hsays⟩:=yN hk.1 hk.2
  have hE:dK row (.mk k n v of)=match kJ row of with|(_,some no)=>(v0,no)|(got,none)=>if xY (qY k) 0 (got.map Vl.kind) then sO k (got.getD 0 v0) (got.getD (kN k-1).toNat v0) else (v0,6):=by simp only [dK,if_neg hk0,if_neg hk1];try rfl
  generalize dK row (.mk k n v of)=E at*
  refine aG aF Tryz.func181 (by kernel_rfl) rfl rfl rfl rfl (λst=> ?_)
  focus ((try apply wO pk;rfl);(repeat' first|show All _;constructor|apply wC pk;rfl;rfl|refine aA rfl ?_ ?_<;>intro h<;>(try simp at h)<;>try omega))
  refine yC 7 3 rfl rfl (λid hid=> ?_)
  have hid:st id=none:=hid
  refine aK (X:={x:List Vl×Nat//x.1.length<=of.length/\st x.2=none/\x.1=(of.take x.1.length).map (λy=>(dK row y).1)/\∀j y,j<x.1.length->of[j]?=some y->(dK row y).2=0}) (λi=>(((((((((St.nil 81 (upd st i.1.2 (some (.tok 3)))).pv 1 (.seq (row.map Vl.cells))).var 2 88 ((Ex.mk k n v of).cells)).var 4 57 (arB)).var 6 338 (aG8 i.1.1)).pv 7 (.own i.1.2 ((i.1.1.map Vl.kind).map I1))).pv 33 (.seq (Ex.rows of))).pv 34 ((PV.val (Value.int .i64 (((Ex.rows of).length:Nat)))))).pv 35 ((PV.val (Value.int .i64 ((i.1.1.length:Nat))))))) (λi=>of.length-i.1.1.length) ⟨([],id),by simp,hid,by simp,by simp⟩ ?_ (λi=> ?_)
  ·(((repeat (first|refine Sub.pv ?_ rfl|refine Sub.var ?_ rfl rfl));(exact Sub.nil _ _ _ (zsr _) rfl)))
  obtain ⟨⟨got,id⟩,hi,hid,hgot,hz⟩:=i
  simp only at hi hid hgot hz
  dsimp only
  by_cases hend:of.length<=got.length
  ·have hle:got.length=of.length:=by omega
   have htk:of.take got.length=of:=uA (by omega)
   rw [htk] at hgot
   have hall2:∀x∈of,(dK row x).2=0:=λx hx=>by
    obtain ⟨j,hj⟩:=List.mem_iff_getElem?.1 hx
    exact hz j x (by have:=(List.getElem?_eq_some_iff.1 hj).1;omega) hj
   have hgot2:kJ row of=(got,none):=by rw [hgot];exact xL hall2
   have hlim:∀v∈got,lim v.n:=λv hv=>by
    rw [hgot] at hv
    obtain ⟨e,he,rfl⟩:=List.mem_map.1 hv
    exact aA7 hr.2 (hall e he)
   have hts:=qQ (m:=kN k) (nb:=qY k) (f:=fid) (caps:=caps) (l:=got.map Vl.kind) (by simp;omega)
   unfold jW at hts
   rw [hgot2] at hE
   simp only at hE
   clear hgot2 hall2 hz hgot htk
   generalize xY (qY k) 0 (got.map Vl.kind)=G at*
   cases G with
   |false=>
    rw [if_neg (by simp)] at hE
    (try apply wO pk;rfl);(repeat' first|show All _;constructor|show Imp _ _;constructor|apply wC pk;rfl;rfl|apply wE pk;rfl;rfl|apply wD pk [] [];kernel_rfl;rfl;rfl|refine aA rfl ?_ ?_<;>intro h<;>(try simp at h)<;>try omega|(refine aC ?_;first|refine ⟨_,_,_,rfl,zwr _,zsr _, ?_,rfl⟩;(fail)|refine ⟨_,_,_,rfl,zwr _,aL ‹_›, ?_,rfl⟩;(((rw [hE];rfl);done))|refine ⟨_,_,_,rfl,zwf _,zsr _, ?_,rfl⟩;(fail)|refine ⟨_,_,_,rfl,zwf _,aL ‹_›, ?_,rfl⟩;(fail)|(refine ⟨_,_,_,rfl,zwr _,zsr _, ?_,rfl⟩)|(refine ⟨_,_,_,rfl,zwf _,aL ‹_›, ?_,rfl⟩))|(apply aH;rfl;rfl;rfl;(intro _;(apply eG)<;>first|assumption|omega);rotate_left;rfl;rfl)|(apply tI;rfl;rfl;rfl;(intro _;(apply hts)<;>first|assumption|omega);rotate_left;rfl;rfl)|apply kV pk;(iterate 4 rfl);(focus repeat' constructor);rfl;exact hlook;rfl)
   |true=>
    rw [if_pos rfl] at hE
    rcases got with _|⟨a,_|⟨b,_|⟨_,_⟩⟩⟩
    ·simp only [List.length_nil] at hle;omega
    ·have hm1:kN k=1:=by simp only [zlc,List.length_nil] at hle;omega
     have ha:=hlim a (by simp)
     have hs:=hsays a.kind a.n a.s a.kind a.n a.s ha ha
     rw [hm1] at hE hts hlook
     have e:E=sO k a a:=hE
     rw [e]
     generalize sO k a a=R at*
     (try apply wO pk;rfl);(repeat' first|show All _;constructor|show Imp _ _;constructor|apply wC pk;rfl;rfl|apply wE pk;rfl;rfl|apply wD pk [] [];kernel_rfl;rfl;rfl|refine aA rfl ?_ ?_<;>intro h<;>(try simp at h)<;>try omega|(refine aC ?_;first|refine ⟨_,_,_,rfl,zwr _,zsr _, ?_,rfl⟩;(fail)|refine ⟨_,_,_,rfl,zwr _,aL ‹_›, ?_,rfl⟩;(rfl)|refine ⟨_,_,_,rfl,zwf _,zsr _, ?_,rfl⟩;(fail)|refine ⟨_,_,_,rfl,zwf _,aL ‹_›, ?_,rfl⟩;(fail)|(refine ⟨_,_,_,rfl,zwr _,zsr _, ?_,rfl⟩)|(refine ⟨_,_,_,rfl,zwf _,aL ‹_›, ?_,rfl⟩))|(apply aH;rfl;rfl;rfl;(intro _;(first|apply eG|apply hs)<;>first|assumption|omega);rotate_left;rfl;rfl)|(apply tI;rfl;rfl;rfl;(intro _;(apply hts)<;>first|assumption|omega);rotate_left;rfl;rfl)|apply kV pk;(iterate 4 rfl);(focus repeat' constructor);rfl;exact hlook;rfl|apply sT pk 0;(iterate 5 rfl);(focus repeat' constructor);rfl;(intro _;rfl);(intro _;omega);rfl|intros;(try simp only [zql]);omega)
    ·have hm1:kN k=2:=by simp only [zlc,List.length_nil] at hle;omega
     have ha:=hlim a (by simp)
     have hb:=hlim b (by simp)
     have hs:=hsays a.kind a.n a.s b.kind b.n b.s ha hb
     rw [hm1] at hE hts hlook
     have e:E=sO k a b:=hE
     rw [e]
     generalize sO k a b=R at*
     (try apply wO pk;rfl);(repeat' first|show All _;constructor|show Imp _ _;constructor|apply wC pk;rfl;rfl|apply wE pk;rfl;rfl|apply wD pk [] [];kernel_rfl;rfl;rfl|refine aA rfl ?_ ?_<;>intro h<;>(try simp at h)<;>try omega|(refine aC ?_;first|refine ⟨_,_,_,rfl,zwr _,zsr _, ?_,rfl⟩;(fail)|refine ⟨_,_,_,rfl,zwr _,aL ‹_›, ?_,rfl⟩;(rfl)|refine ⟨_,_,_,rfl,zwf _,zsr _, ?_,rfl⟩;(fail)|refine ⟨_,_,_,rfl,zwf _,aL ‹_›, ?_,rfl⟩;(fail)|(refine ⟨_,_,_,rfl,zwr _,zsr _, ?_,rfl⟩)|(refine ⟨_,_,_,rfl,zwf _,aL ‹_›, ?_,rfl⟩))|(apply aH;rfl;rfl;rfl;(intro _;(first|apply eG|apply hs)<;>first|assumption|omega);rotate_left;rfl;rfl)|(apply tI;rfl;rfl;rfl;(intro _;(apply hts)<;>first|assumption|omega);rotate_left;rfl;rfl)|apply kV pk;(iterate 4 rfl);(focus repeat' constructor);rfl;exact hlook;rfl|apply sT pk 0;(iterate 5 rfl);(focus repeat' constructor);rfl;(intro _;rfl);(intro _;omega);rfl|apply sT pk 1;(iterate 5 rfl);(focus repeat' constructor);rfl;(intro _;rfl);(intro _;omega);rfl|intros;(try simp only [zql]);omega)
    ·simp only [zlc] at hle;omega
  obtain ⟨x,hx⟩:=fM (l:=of) (i:=got.length) (by omega)
  have hrow:=Ex.rows_get hx
  have hm':=List.mem_of_getElem? hx
  have ihx:=ih x hm' (Ex.oks_mem hok.2 hm') (hall x hm')
  have hsome:=λh0=>wV (row:=row) hz hx h0
  have hzs:(dK row x).2=0->∀j y,j<got.length+1->of[j]?=some y->(dK row y).2=0:=λh0 j y hj hy=>by
   by_cases hji:j=got.length
   ·subst hji;rw [hx] at hy;injection hy with hy;subst hy;exact h0
   ·exact hz j y (by omega) hy
  have hmap:=qP hx (λy=>(dK row y).1)
  rw [<-hgot] at hmap
  have hE2:(dK row x).2≠0->E=(v0,(dK row x).2):=λh0=>by
   have:=hsome h0
   rw [hE]
   revert this
   cases kJ row of with|mk a b=>intro this;simp only at this;subst this;rfl
  clear hsome hE
  generalize hrr:dK row x=r at*
  obtain ⟨⟨rk,rn,rs⟩,re⟩:=r
  obtain ⟨k',n',v',of'⟩:=x
  dsimp only at*
  by_cases h2:re=0
  ·have hz2:=hzs h2
   have hg2:got.length<2:=by omega
   rcases got with _|⟨a,_|⟨b,_⟩⟩
   ·simp only [List.length_nil] at hend hi
    have hne:¬(Ex.rows of=[]):=λq=>by rw [q] at hrl;simp only [List.length_nil] at hrl;omega
    have hz1:(List.map Vl.kind ([]:List Vl)).length=0:=rfl
    have w1:([⟨rk,rn,rs⟩]:List Vl).length<=of.length:=by show 1<=of.length;omega
    have w2:([⟨rk,rn,rs⟩]:List Vl).length=1:=rfl
    have w3:([]:List Vl).length=0:=rfl
    have hz3:(List.map I1 (List.map Vl.kind ([]:List Vl))).length=0:=rfl
    (try apply wO pk;rfl);(repeat' first|exact absurd (by assumption:Ex.rows of=[]) hne|show All _;constructor|show Imp _ _;constructor|apply wC pk;rfl;rfl|apply wE pk;rfl;rfl|refine aA rfl ?_ ?_<;>intro h<;>(try simp at h)<;>try omega|(apply aH;rfl;rfl;rfl;(intro _;apply ihx<;>first|assumption|omega);rotate_left;rfl;rfl)|apply aN pk;(iterate 6 rfl);rotate_left;rfl;(intro hw;rfl);(intro hw;apply hrow<;>omega);(intro _;exact (Ex.cells_len _));rfl|apply sT pk 0;(iterate 5 rfl);(focus repeat' constructor);rfl;(intro _;rfl);(intro _;omega);rfl|(refine ⟨⟨([⟨rk,rn,rs⟩],id'),w1,iK hid',hmap.symm,hz2⟩, ?_,by simp only;omega⟩;((dsimp only));(((repeat (first|refine Sub.pv ?_ rfl|refine Sub.var ?_ rfl rfl));(exact Sub.nil _ _ _ (cQ ‹_›) rfl))))|(apply apS pk (rk) 8;(iterate 8 rfl);exact aB _ _ _;exact λ_=>rfl;exact λ_=>rfl;exact vJ;(omega);(omega);rfl;intro id' hid')|intros;(try simp only [zql]);omega)
   ·simp only [zlc,List.length_nil] at hend hi
    have hz1:(List.map Vl.kind [a]).length=1:=rfl
    have w1:([a,⟨rk,rn,rs⟩]:List Vl).length<=of.length:=by show 2<=of.length;omega
    have w2:([a,⟨rk,rn,rs⟩]:List Vl).length=2:=rfl
    have w3:[a].length=1:=rfl
    have hz3:(List.map I1 (List.map Vl.kind [a])).length=1:=rfl
    (try apply wO pk;rfl);(repeat' first|show All _;constructor|show Imp _ _;constructor|apply wC pk;rfl;rfl|apply wE pk;rfl;rfl|refine aA rfl ?_ ?_<;>intro h<;>(try simp at h)<;>try omega|(apply aH;rfl;rfl;rfl;(intro _;apply ihx<;>first|assumption|omega);rotate_left;rfl;rfl)|apply aN pk;(iterate 6 rfl);rotate_left;rfl;(intro hw;rfl);(intro hw;apply hrow<;>omega);(intro _;exact (Ex.cells_len _));rfl|apply sT pk 1;(iterate 5 rfl);(focus repeat' constructor);rfl;(intro _;rfl);(intro _;omega);rfl|(refine ⟨⟨([a,⟨rk,rn,rs⟩],id'),w1,iK hid',hmap.symm,hz2⟩, ?_,by simp only;omega⟩;((dsimp only));(((repeat (first|refine Sub.pv ?_ rfl|refine Sub.var ?_ rfl rfl));(exact Sub.nil _ _ _ (cQ ‹_›) rfl))))|(apply apS pk (rk) 8;(iterate 8 rfl);exact aB _ _ _;exact λ_=>rfl;exact λ_=>rfl;exact vJ;(omega);(omega);rfl;intro id' hid')|intros;(try simp only [zql]);omega)
   ·exact absurd hg2 (by simp)
  ·have e:=hE2 h2
   (try apply wO pk;rfl);(repeat' first|show All _;constructor|show Imp _ _;constructor|apply wC pk;rfl;rfl|apply wE pk;rfl;rfl|refine aA rfl ?_ ?_<;>intro h<;>(try simp at h)<;>try omega|(refine aC ?_;first|refine ⟨_,_,_,rfl,zwr _,zsr _, ?_,rfl⟩;(fail)|refine ⟨_,_,_,rfl,zwr _,aL ‹_›, ?_,rfl⟩;(((rw [e];rfl);done))|refine ⟨_,_,_,rfl,zwf _,zsr _, ?_,rfl⟩;(fail)|refine ⟨_,_,_,rfl,zwf _,aL ‹_›, ?_,rfl⟩;(fail)|(refine ⟨_,_,_,rfl,zwr _,zsr _, ?_,rfl⟩)|(refine ⟨_,_,_,rfl,zwf _,aL ‹_›, ?_,rfl⟩))|(apply aH;rfl;rfl;rfl;(intro _;apply ihx<;>first|assumption|omega);rotate_left;rfl;rfl)|apply aN pk;(iterate 6 rfl);rotate_left;rfl;(intro hw;rfl);(intro hw;apply hrow<;>omega);(intro _;exact (Ex.cells_len _));rfl)
theorem aaY {row:List Vl} (hr:rowOK row):∀(os:List Ex) (x:Ex),x∈os->x.ok->bQ x=true->PF Tryz.prog 181 [.agg x.cells, .seq (row.map Vl.cells)] (oB (dK row x))
 |[],_,h,_=>by cases h
 |e::es,x,h,hok=>by
  rcases zmc.1 h with h|h
  ·rw [h] at hok⊢;exact aeG hr e hok
  ·exact aaY hr es x h hok
end
def EvalR (e:Ex) (row:List Vl):Vl×Int:=if tQ e≠0 then (v0,tQ e) else dK row e
theorem Eval_spec {e:Ex} (hok:e.ok) {row:List Vl} (hr:rowOK row):PF Tryz.prog 106 [.agg e.cells, .seq (row.map Vl.cells)] (oB (EvalR e row)):=by
 have h1:=iR hok
 by_cases hm:tQ e=0
 ·have h3:=aeG hr e hok (acQ hm).2
  rw [hm] at h1
  have e1:EvalR e row=dK row e:=by unfold EvalR;rw [if_neg (λq=>q hm)]
  rw [e1]
  generalize dK row e=R at*
  clear hm e1
  obtain ⟨k,n,v,of⟩:=e
  refine aG aF Tryz.func106 (by kernel_rfl) rfl rfl rfl rfl (λst=> ?_)
  (try apply wO pk;rfl);(repeat' first|show All _;constructor|show Imp _ _;constructor|apply wC pk;rfl;rfl|apply wE pk;rfl;rfl|refine aA rfl ?_ ?_<;>intro h<;>(try simp at h)<;>try omega|(refine aC ?_;refine ⟨_,_,_,rfl,zwr _,zsr _, ?_,rfl⟩;try rfl)|(apply aH;rfl;rfl;rfl;(intro _;(first|apply h1|apply h3)<;>first|assumption|omega);rotate_left;rfl;rfl))
 ·have e1:EvalR e row=(v0,tQ e):=by unfold EvalR;rw [if_pos hm]
  rw [e1]
  generalize tQ e=M at*
  clear e1
  obtain ⟨k,n,v,of⟩:=e
  refine aG aF Tryz.func106 (by kernel_rfl) rfl rfl rfl rfl (λst=> ?_)
  (try apply wO pk;rfl);(repeat' first|show All _;constructor|show Imp _ _;constructor|apply wC pk;rfl;rfl|apply wE pk;rfl;rfl|refine aA rfl ?_ ?_<;>intro h<;>(try simp at h)<;>try omega|(refine aC ?_;refine ⟨_,_,_,rfl,zwr _,zsr _, ?_,rfl⟩;try rfl)|(apply aH;rfl;rfl;rfl;(intro _;apply h1<;>first|assumption|omega);rotate_left;rfl;rfl))
def mZ (f:Ex->Int->Int) (left:Int):Int->List Ex->Int
 |n,[]=>n
 |n,x::xs=>if n<=left then mZ f left (n+f x (left-n)) xs else n
def nodesR :Nat->Ex->Int->Int
 |0,_,left=>left+1
 |d+1,e,left=>mZ (nodesR d) left 1 e.of
theorem aeT {f:Ex->Int->Int} {left:Int} (hf:∀x l,0<=l->1<=f x l/\f x l<=l+1):∀(l:List Ex) (n:Int),1<=n->n<=left+1->1<=mZ f left n l/\mZ f left n l<=left+1
 |[],n,h1,h2=>⟨h1,h2⟩
 |x::xs,n,h1,h2=>by
  simp only [mZ]
  split
  ·rename_i h
   have:=hf x (left-n) (by omega)
   exact aeT hf xs _ (by omega) (by omega)
  ·exact ⟨h1,h2⟩
theorem aeS :∀(d:Nat) (e:Ex) (left:Int),0<=left->1<=nodesR d e left/\nodesR d e left<=left+1
 |0,_,left,h=>by simp only [nodesR];omega
 |d+1,e,left,h=>by
  simp only [nodesR]
  exact aeT (λx l hl=>aeS d x l hl) _ _ (by omega) (by omega)
theorem apY :∀(d:Nat) (e:Ex) (left z:Int),z=(d:Nat)->d<=1000->0<=left->left<=1000->e.ok->PF Tryz.prog 146 [.agg e.cells,(PV.val (Value.int .i64 (left))),(PV.val (Value.int .i64 (z)))] (PV.val (Value.int .i64 (nodesR d e left))):=by
 intro d
 induction d with
 |zero=>
  intro e left z hz _ h1 h2 hok
  subst hz
  obtain ⟨k,n,v,of⟩:=e
  refine aG aF Tryz.func146 (by kernel_rfl) rfl rfl rfl rfl (λst=> ?_)
  (try apply wO pk;rfl);(repeat' first|show All _;constructor|apply wC pk;rfl;rfl|refine aA rfl ?_ ?_<;>intro h<;>(try simp at h)<;>try omega|(refine aC ?_;refine ⟨_,_,_,rfl,zwr _,zsr _, ?_,rfl⟩;try rfl)|intros;(try simp only [zql]);omega)
 |succ d ih=>
  intro e left z hz hd h1 h2 hok
  subst hz
  obtain ⟨k,n,v,of⟩:=e
  simp only [Ex.ok] at hok
  have hrl:=Ex.rows_len of
  refine aG aF Tryz.func146 (by kernel_rfl) rfl rfl rfl rfl (λst=> ?_)
  focus ((try apply wO pk;rfl);(repeat' first|show All _;constructor|apply wC pk;rfl;rfl|refine aA rfl ?_ ?_<;>intro h<;>(try simp at h)<;>try omega))
  refine aK (X:={x:Nat×Int//x.1<=of.length/\1<=x.2/\x.2<=left+1/\nodesR (d+1) (.mk k n v of) left=mZ (nodesR d) left x.2 (of.drop x.1)}) (λi=>((((((St.nil 39 st).pv 1 ((PV.val (Value.int .i64 (left))))).pv 2 ((PV.val (Value.int .i64 ((d+1:Nat)))))).var 3 88 ((Ex.mk k n v of).cells)).pv 7 ((PV.val (Value.int .i64 (i.1.2))))).pv 8 ((PV.val (Value.int .i64 ((i.1.1:Nat))))))) (λi=>of.length-i.1.1) ⟨(0,1),by simp,by simp,by simp only;omega,rfl⟩ ?_ (λi=> ?_)
  ·((repeat (first|refine Sub.pv ?_ rfl|refine Sub.var ?_ rfl rfl));exact Sub.nil _ _ _ (zsr _) rfl)
  obtain ⟨⟨i,m⟩,hi,hm1,hm2,hinv⟩:=i
  simp only at hi hm1 hm2 hinv
  dsimp only
  by_cases hend:¬(i<of.length/\m<=left)
  ·have hfin:mZ (nodesR d) left m (of.drop i)=m:=by
    by_cases hlt:i<of.length
    ·obtain ⟨x,hx⟩:=fM hlt
     rw [yZ hx]
     simp only [mZ]
     rw [if_neg (λq=>hend ⟨hlt,q⟩)]
    ·rw [arZ hlt];rfl
   rw [hfin] at hinv
   (try apply wO pk;rfl);(repeat' first|show All _;constructor|show Imp _ _;constructor|show ImpX _ _ _ _;constructor|apply wC pk;rfl;rfl|refine aA rfl ?_ ?_<;>intro h<;>(try simp at h)<;>try omega|(refine aC ?_;refine ⟨_,_,_,rfl,zwr _,zsr _, ?_,rfl⟩;try first|rfl|(rw [hinv]);done))
  obtain ⟨hlt,hml⟩:=Decidable.of_not_not hend
  obtain ⟨x,hx⟩:=fM hlt
  have hrow:=Ex.rows_get hx
  have hx2:=aeS d x (left-m) (by omega)
  have ihx:=λz hz=>ih x (left-m) z hz (by omega) (by omega) (by omega) (Ex.oks_mem hok.2 (List.mem_of_getElem? hx))
  rw [yZ hx] at hinv
  simp only [mZ] at hinv
  rw [if_pos hml] at hinv
  generalize nodesR d x (left-m)=r at*
  obtain ⟨k',n',v',of'⟩:=x
  (try apply wO pk;rfl);(repeat' first|show All _;constructor|show Imp _ _;constructor|show ImpX _ _ _ _;constructor|apply wC pk;rfl;rfl|apply wE pk;rfl;rfl|refine aA rfl ?_ ?_<;>intro h<;>(try simp at h)<;>try omega|(apply aH;rfl;rfl;rfl;(intro _;apply ihx<;>first|assumption|omega);rotate_left;rfl;rfl)|apply aN pk;(iterate 6 rfl);rotate_left;rfl;(intro hw;rfl);(intro hw;apply hrow<;>omega);(intro _;exact (Ex.cells_len _));rfl|(refine ⟨⟨(i+1,m+r),by simp only;omega,by simp only;omega,by simp only;omega,hinv⟩, ?_,by simp only;omega⟩;((repeat (first|refine Sub.pv ?_ rfl|refine Sub.var ?_ rfl rfl));exact Sub.nil _ _ _ (zsr _) rfl))|intros;(try simp only [zql]);omega)
theorem Few_spec {e:Ex} (hok:e.ok):PF Tryz.prog 97 [.agg e.cells] (PV.val (Value.bool (decide (nodesR 25 e 60<=60)))):=by
 have h:=apY 25 e 60 25 rfl (by omega) (by omega) (by omega) hok
 generalize nodesR 25 e 60=N at*
 obtain ⟨k,n,v,of⟩:=e
 refine aG aF Tryz.func97 (by kernel_rfl) rfl rfl rfl rfl (λst=> ?_)
 (try apply wO pk;rfl);(repeat' first|show All _;constructor|show Imp _ _;constructor|apply wE pk;rfl;rfl|(refine aC ?_;refine ⟨_,_,_,rfl,zwr _,zsr _, ?_,rfl⟩;try rfl)|(apply aH;rfl;rfl;rfl;(intro _;apply h<;>first|assumption|omega);rotate_left;rfl;rfl))
end Go.Proofs.YtloecjjehapblaaGreatDoor.X
namespace Go.Proofs.YtloecjjehapblaaGreatDoor
open Go Go.Abs
namespace X
set_option maxRecDepth 10000
set_option maxHeartbeats 4000000
mutual
theorem Ex.inj :∀(a b:Ex),a.cells=b.cells->a=b
 | .mk k n v o, .mk k' n' v' o',h=>by
  simp only [Ex.cells,List.cons.injEq,PV.val.injEq,PV.seq.injEq,Value.int.injEq,Value.string.injEq,true_and,and_true] at h
  obtain ⟨rfl,rfl,h1,h2,h3,h4⟩:=h
  have e:=Ex.injs o o' h4
  obtain ⟨a,b,c⟩:=v
  obtain ⟨a',b',c'⟩:=v'
  simp only at h1 h2 h3
  subst h1 h2 h3 e
  rfl
theorem Ex.injs :∀(a b:List Ex),Ex.rows a=Ex.rows b->a=b
 |[],[],_=>rfl
 |[],_::_,h=>by simp [Ex.rows] at h
 |_::_,[],h=>by simp [Ex.rows] at h
 |a::l,b::m,h=>by
  simp only [Ex.rows,List.cons.injEq] at h
  rw [Ex.inj a b h.1,Ex.injs l m h.2]
end
def RightR (e:Ex) (l:List Int):Int:=if (jZ e l).2=0 then (if (jZ e l).1=2 then 6 else 0) else (jZ e l).2
end X
open Classical in
noncomputable def exOf (c:List PV):X.Ex:=if h:∃e:X.Ex,e.ok/\e.cells=c then h.choose else .mk 0 0 X.v0 []
theorem yH {c:List PV} (h:∃e:X.Ex,e.ok/\e.cells=c):(exOf c).ok/\(exOf c).cells=c:=by
 unfold exOf
 rw [dif_pos h]
 exact h.choose_spec
theorem asF {e:X.Ex} (h:e.ok):exOf e.cells=e:=X.Ex.inj _ _ (yH ⟨e,h,rfl⟩).2
def oT (t:Tb):Prop:=∀c∈t.checks,∃e:X.Ex,e.ok/\e.cells=c
def chE (p:Vl×Int):Int:=if p.2=0 then (if p.1=⟨1,0,e0⟩ then 9 else 0) else p.2
noncomputable def exR (t:Tb) (r:List Vl):Int:=dR (λc=>chE (X.EvalR (exOf c) r)) t.checks
noncomputable def rightX (t:Tb):Int:=dR (λc=>X.RightR (exOf c) (t.cols.map dW)) t.checks
noncomputable def rightC (s:Sc):Int:=if cL s=0 then dR rightX s else cL s
end Go.Proofs.YtloecjjehapblaaGreatDoor
namespace Go.Proofs.YtloecjjehapblaaGreatDoor
open Go Go.Abs
attribute [local irreducible] Ev PWp
set_option maxRecDepth 10000
set_option maxHeartbeats 4000000
def mS (t:Tb) (rows:List (List Vl)) (b:Bs):List PV:=t.cells++[.seq (rows.map roC), .seq (b.map Da.cells)]
variable (t:Tb) (rows:List (List Vl)) (b:Bs)
theorem aoL (hc:t.cols.length<1000000000000000) (hl:rows.length<1000000000000000) (hr:∀r∈rows,r.length<1000000000000000):PF Tryz.prog 57 [.agg (mS t rows b)] (PV.val (Value.int .i64 (dR (eM t) rows))):=by
 refine aG aF Tryz.func57 (by kernel_rfl) rfl rfl rfl rfl (λst=> ?_)
 focus ((try apply wO pk;rfl);(repeat' (show All _;constructor)))
 refine aK (X:={x:Nat//x<=rows.length/\∀j (h:j<rows.length),j<x->eM t rows[j]=0}) (λi=>(((((St.nil 22 st).var 1 123 ((mS t rows b))).pv 7 (.seq (rows.map roC))).pv 8 ((PV.val (Value.int .i64 (((rows.map roC).length:Nat)))))).pv 9 ((PV.val (Value.int .i64 ((i.1:Nat))))))) (λi=>rows.length-i.1) ⟨0,by omega,by omega⟩ ?_ (λi=> ?_)
 ·((repeat (first|refine Sub.pv ?_ rfl|refine Sub.var ?_ rfl rfl));exact Sub.nil _ _ _ (zsr _) rfl)
 obtain ⟨i,hi,hI⟩:=i
 dsimp only
 by_cases hend:rows.length<=i
 ·have e:dR (eM t) rows=0:=mU λj hj=>hI j hj (by omega)
  (try apply wO pk;rfl);(repeat' first|show All _;constructor|apply wC pk;rfl;rfl|refine aA rfl ?_ ?_<;>intro h<;>(try simp at h)<;>try omega|(refine aC ?_;refine ⟨_,_,_,rfl,zwr _,zsr _, ?_,rfl⟩;try first|rfl|(rw [e]);done))
 have hil:i<rows.length:=by omega
 have hk:=adQ t rows[i] hc (hr _ (zgm hil))
 have e:=sJ hI hil
 have hu:=sE hI hil
 generalize eM t rows[i]=E at*
 (try apply wO pk;rfl);(repeat' first|show All _;constructor|show Imp _ _;constructor|apply wC pk;rfl;rfl|apply wE pk;rfl;rfl|refine aA rfl ?_ ?_<;>intro h<;>(try simp at h)<;>try omega|(refine aC ?_;refine ⟨_,_,_,rfl,zwr _,zsr _, ?_,rfl⟩;try first|rfl|(rw [e ‹_›]);done)|(apply aH;rfl;rfl;rfl;(intro _;apply hk<;>first|assumption|omega);rotate_left;rfl;rfl)|apply aN pk;(iterate 6 rfl);rotate_left;rfl;(intro hw;rfl);(intro hw;apply aI<;>omega);(intro _;rfl);rfl|(refine ⟨⟨i+1,by omega,hu ‹_›⟩, ?_,by simp only;omega⟩;((repeat (first|refine Sub.pv ?_ rfl|refine Sub.var ?_ rfl rfl));exact Sub.nil _ _ _ (zsr _) rfl))|intros;(try simp only [zql]);omega)
def bF' (b:Bool):PV:=(PV.val (Value.bool (b)))
theorem pY {st:aJ} {id:Nat} {a b:Option AObj} (h:st id=none):StSub st (upd (upd st id a) id b):=λj=>by
 by_cases hj:j=id
 ·subst hj;left;exact h
 ·right;rw [aD hj,aD hj]
theorem nR {st:aJ} {id:Nat} {a:Option AObj} (h:st id=none):StSub st (upd st id a):=λj=>by
 by_cases hj:j=id
 ·subst hj;left;exact h
 ·right;rw [aD hj]
theorem alF (hl:rows.length<1000000000000000) (hu:t.unique.length<1000000000000000) (hr:∀u∈t.unique,0<=u/\∀r∈rows,u<r.length):PF Tryz.prog 58 [.agg (mS t rows b)] (PV.val (Value.int .i64 (if lK t rows=false then 8 else 0))):=by
 have hyes:=ayA (t:=t) (rows:=rows)
 have hno:=λj k hj h=>aCI (t:=t) (rows:=rows) (j:=j) (k:=k) hj h
 generalize lK t rows=B at*
 refine aG aF Tryz.func58 (by kernel_rfl) rfl rfl rfl rfl (λst=> ?_)
 focus ((try apply wO pk;rfl);(repeat' (show All _;constructor)))
 refine aK (X:={x:Nat//x<=t.unique.length/\∀j (h:j<t.unique.length),j<x->pwU t.unique[j].toNat rows}) (λi=>(((((St.nil 45 st).var 1 123 ((mS t rows b))).pv 10 (.seq (t.unique.map I1))).pv 11 ((PV.val (Value.int .i64 (((t.unique.map I1).length:Nat)))))).pv 12 ((PV.val (Value.int .i64 ((i.1:Nat))))))) (λi=>t.unique.length-i.1) ⟨0,by omega,by omega⟩ ?_ (λi=> ?_)
 ·((repeat (first|refine Sub.pv ?_ rfl|refine Sub.var ?_ rfl rfl));exact Sub.nil _ _ _ (zsr _) rfl)
 obtain ⟨i,hi,hI⟩:=i
 dsimp only
 by_cases hend:t.unique.length<=i
 ·have e:B=true:=hyes λj hj=>hI j hj (by omega)
  (try apply wO pk;rfl);(repeat' first|show All _;constructor|apply wC pk;rfl;rfl|refine aA rfl ?_ ?_<;>intro h<;>(try simp at h)<;>try omega|(refine aC ?_;refine ⟨_,_,_,rfl,zwr _,zsr _, ?_,rfl⟩;try first|rfl|(rw [e];rfl);done))
 have hil:i<t.unique.length:=by omega
 obtain ⟨hu0,hur⟩:=hr _ (zgm hil)
 have hno:=λk=>hno i k hil
 have hup:pwU t.unique[i].toNat rows->∀j (h:j<t.unique.length),j<i+1->pwU t.unique[j].toNat rows:=λh j hj hji=>by
  rcases Nat.lt_succ_iff_lt_or_eq.1 hji with q|q
  ·exact hI j hj q
  ·subst q;exact h
 focus ((try apply wO pk;rfl);(repeat' first|(apply mkM (enc:=Ie) (f:=bF');rfl;intro id hid)|show All _;constructor|show Imp _ _;constructor|apply wC pk;rfl;rfl|apply wE pk;rfl;rfl|refine aA rfl ?_ ?_<;>intro h<;>(try simp at h)<;>try omega|apply aN pk;(iterate 6 rfl);rotate_left;rfl;(intro hw;rfl);(intro hw;apply aI<;>omega);(intro _;rfl);rfl|intros;(try simp only [zql]);omega))
 have hid0:st id=none:=hid
 clear hid
 obtain ⟨u,hu⟩:∃u:Nat,t.unique[i]=(u:Int):=⟨t.unique[i].toNat,by omega⟩
 have hto:t.unique[i].toNat=u:=by omega
 rw [hto] at hno hup
 refine aK (X:={x:Nat//x<=rows.length/\pwU u (rows.take x)}) (λy=>((((((((((St.nil 45 (upd st id (some (.map (aY Ie bF' (amW u (rows.take y.1))))))).var 1 123 ((mS t rows b))).pv 4 ((PV.val (Value.int .i64 (t.unique[i]))))).pv 5 (.mref id)).pv 10 (.seq (t.unique.map I1))).pv 11 ((PV.val (Value.int .i64 (((t.unique.map I1).length:Nat)))))).pv 12 ((PV.val (Value.int .i64 ((i:Nat)))))).pv 18 (.seq (rows.map roC))).pv 19 ((PV.val (Value.int .i64 (((rows.map roC).length:Nat)))))).pv 20 ((PV.val (Value.int .i64 ((y.1:Nat))))))) (λy=>rows.length-y.1) ⟨0,by omega,by unfold pwU;simp⟩ ?_ (λy=> ?_)
 ·(((repeat (first|refine Sub.pv ?_ rfl|refine Sub.var ?_ rfl rfl));(exact Sub.nil _ _ _ (zsr _) rfl)))
 obtain ⟨y,hy,hyI⟩:=y
 dsimp only
 by_cases hend2:rows.length<=y
 ·rw [List.take_of_length_le hend2] at hyI
  (try apply wO pk;rfl);(repeat' first|show All _;constructor|apply wC pk;rfl;rfl|refine aA rfl ?_ ?_<;>intro h<;>(try simp at h)<;>try omega|(refine ⟨⟨i+1,by omega,hup hyI⟩, ?_,by simp only;omega⟩;(((repeat (first|refine Sub.pv ?_ rfl|refine Sub.var ?_ rfl rfl));(exact Sub.nil _ _ _ (nR hid0) rfl))))|intros;(try simp only [zql]);omega)
 have hyl:y<rows.length:=by omega
 have hru:=hur _ (zgm hyl)
 have hru':u<rows[y].length:=by rw [hu] at hru;omega
 have hgu:=getElem!_pos rows[y] u hru'
 have hup2:=aGw (u:=u) hyl
 have hno2:=hno (y+1)
 have hget:=ayP u rows[y][u]!.n (rows.take y)
 have hmet:=aDI u hyl
 rw [hgu] at hup2 hget hmet
 clear hgu
 generalize hM:amW u (rows.take y)=M at*
 generalize ((rows.take y).any λr=>decide (r[u]!.kind=1)&&decide (r[u]!.n=rows[y][u].n))=Q at*
 by_cases hk:rows[y][u].kind=1
 ·rw [if_pos hk] at hmet
  cases Q with
  |true=>
   have e:B=false:=hno2 λh=>by have:=(hup2.1 h).2 hk;cases this
   (try apply wO pk;rfl);(repeat' first|show All _;constructor|show Imp _ _;constructor|apply wC pk;rfl;rfl|apply wE pk;rfl;rfl|refine aA rfl ?_ ?_<;>intro h<;>(try simp at h)<;>try omega|(refine aC ?_;first|refine ⟨_,_,_,rfl,zwr _,zsr _, ?_,rfl⟩;(fail)|refine ⟨_,_,_,rfl,zwr _,aL ‹_›, ?_,rfl⟩;(((rw [e];rfl);done))|refine ⟨_,_,_,rfl,zwf _,zsr _, ?_,rfl⟩;(fail)|refine ⟨_,_,_,rfl,zwf _,aL ‹_›, ?_,rfl⟩;(fail)|(refine ⟨_,_,_,rfl,zwr _,zsr _, ?_,rfl⟩)|(refine ⟨_,_,_,rfl,zwf _,aL ‹_›, ?_,rfl⟩))|apply aN pk;(iterate 6 rfl);rotate_left;rfl;(first|(intro hw;rfl);(intro hw;apply aI<;>omega);(intro _;rfl)|(intro hw;exact hu);(intro hw;apply aI<;>omega);(intro _;rfl));rfl|apply lkD pk zD (f:=bF') (z:=false) (k:=rows[y][u].n) (n:=true);(iterate 5 rfl);rotate_left;rfl;exact aB _ _ _;rfl;exact hget)
  |false=>
   have hw:=hup2.2 ⟨hyI,λ_=>rfl⟩
   (try apply wO pk;rfl);(repeat' first|show All _;constructor|show Imp _ _;constructor|apply wC pk;rfl;rfl|apply wE pk;rfl;rfl|refine aA rfl ?_ ?_<;>intro h<;>(try simp at h)<;>try omega|apply aN pk;(iterate 6 rfl);rotate_left;rfl;(first|(intro hw;rfl);(intro hw;apply aI<;>omega);(intro _;rfl)|(intro hw;exact hu);(intro hw;apply aI<;>omega);(intro _;rfl));rfl|apply lkD pk zD (f:=bF') (z:=false) (k:=rows[y][u].n) (n:=false);(iterate 5 rfl);rotate_left;rfl;exact aB _ _ _;rfl;exact hget|apply muA pk zD (f:=bF') (k:=rows[y][u].n) (v:=true);(exact .inr rfl);(iterate 5 rfl);exact aB _ _ _;rfl|(refine ⟨⟨y+1,by omega,hw⟩, ?_,by simp only;omega⟩;((dsimp only;rw [hmet]));(((repeat (first|refine Sub.pv ?_ rfl|refine Sub.var ?_ rfl rfl));(exact Sub.nil _ _ _ (eY (by first|rfl|exact fT ‹_›|((simp only [St.pv,St.put,St.sst,St.setv,St.nil,St.var,fF]);first|done|rfl))) rfl))))|intros;(try simp only [zql]);omega)
 ·rw [if_neg hk] at hmet
  have hw:=hup2.2 ⟨hyI,λq=>absurd q hk⟩
  (try apply wO pk;rfl);(repeat' first|show All _;constructor|show Imp _ _;constructor|apply wC pk;rfl;rfl|apply wE pk;rfl;rfl|refine aA rfl ?_ ?_<;>intro h<;>(try simp at h)<;>try omega|apply aN pk;(iterate 6 rfl);rotate_left;rfl;(first|(intro hw;rfl);(intro hw;apply aI<;>omega);(intro _;rfl)|(intro hw;exact hu);(intro hw;apply aI<;>omega);(intro _;rfl));rfl|(refine ⟨⟨y+1,by omega,hw⟩, ?_,by simp only;omega⟩;((dsimp only;rw [hmet]));(((repeat (first|refine Sub.pv ?_ rfl|refine Sub.var ?_ rfl rfl));(exact Sub.nil _ _ _ (zsr _) rfl))))|intros;(try simp only [zql]);omega)
end Go.Proofs.YtloecjjehapblaaGreatDoor
