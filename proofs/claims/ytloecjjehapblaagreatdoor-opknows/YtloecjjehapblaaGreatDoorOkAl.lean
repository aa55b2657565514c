import Derived.Test.YtloecjjehapblaaGreatDoorOkAe
import Derived.Test.YtloecjjehapblaaGreatDoorOkAk
import Derived.Test.YtloecjjehapblaaGreatDoorOkAg
import Derived.Test.YtloecjjehapblaaGreatDoorOkAh
set_option linter.unusedSimpArgs false
set_option linter.unusedVariables false
namespace Go.Proofs.YtloecjjehapblaaGreatDoor
open Go Go.Abs
attribute [local irreducible] Ev PWp
set_option maxRecDepth 10000
set_option maxHeartbeats 4000000
def fS (a b:Vl):Bool:=if a.kind≠b.kind then decide (a.kind<b.kind) else if a.n≠b.n then decide (a.n<b.n) else Op.bytesLess a.s.toList b.s.toList
def aaC (a b:Vl):Bool:= !fS a b&& !fS b a
theorem rQ (a b:Vl):PF Tryz.prog 142 [.agg a.cells, .agg b.cells] (.val (.bool (fS a b))):=by
 unfold fS
 refine aG aF Tryz.func142 (by kernel_rfl) rfl rfl rfl rfl (λst=> ?_)
 (try apply wO pk;rfl);(repeat' first|show Cn _;constructor|apply wC pk;rfl;rfl|refine aB rfl ?_ ?_<;>intro h<;>(try simp at h)<;>try omega|(refine aC ?_;refine ⟨_,_,_,rfl,zwr _,zsr _, ?_,rfl⟩;try first|rfl|(simp [*];done);done))
theorem anV (a b:Vl):PF Tryz.prog 144 [.agg a.cells, .agg b.cells] (.val (.bool (aaC a b))):=by
 have h1:=rQ a b
 have h2:=rQ b a
 unfold aaC
 refine aG aF Tryz.func144 (by kernel_rfl) rfl rfl rfl rfl (λst=> ?_)
 (try apply wO pk;rfl);(repeat' first|show Cn _;constructor|apply wE pk;rfl;rfl|(refine aC ?_;refine ⟨_,_,_,rfl,zwr _,zsr _, ?_,rfl⟩;try rfl)|(apply aH;rfl;rfl;rfl;(intro _;(first|apply h1|apply h2)<;>first|assumption|omega);rotate_left;rfl;rfl))
def atV (o:List Vl) (v:Vl):Nat:=(o.findIdx? λx=> !fS x v).getD o.length
def zO (o:List Vl) (v:Vl):List Vl:=if atV o v<o.length/\aaC o[atV o v]! v=true then o else dO o (atV o v) [v]
def jN (l:List Pt):List Vl:=l.foldl (λo p=>zO o p.val) []
theorem aFf (o:List Vl) (v:Vl):atV o v<=o.length:=by
 unfold atV
 cases h:o.findIdx? λx=> !fS x v with
 |none=>exact Nat.le_refl _
 |some k=>exact Nat.le_of_lt (List.findIdx?_eq_some_iff_getElem.1 h).1
theorem ayW {o:List Vl} {v:Vl} {a:Nat} (ha:a<=o.length) (h1:∀j (h:j<o.length),j<a->fS o[j] v=true) (h2:∀h:a<o.length,fS o[a] v=false):atV o v=a:=by
 unfold atV
 rcases Nat.lt_or_ge a o.length with h|h
 ·rw [List.findIdx?_eq_some_iff_getElem.2 ⟨h,by rw [h2 h];rfl,λj hj=>by rw [h1 j (by omega) hj];simp⟩];rfl
 ·rw [List.findIdx?_eq_none_iff.2 λx hx=>by
   obtain ⟨j,hj,rfl⟩:=zgo hx
   rw [h1 j hj (by omega)];rfl]
  show o.length=a
  omega
theorem aBy (o:List Vl) (v:Vl):(zO o v).length<=o.length+1:=by
 unfold zO
 split
 ·omega
 ·rw [xI (aFf o v)];exact Nat.le_refl _
theorem arO {l:List Pt} {i:Nat} (h:i<l.length):jN (l.take (i+1))=zO (jN (l.take i)) l[i].val:=by
 unfold jN
 rw [List.take_succ_eq_append_getElem h,List.foldl_append];rfl
theorem alF (l:List Pt):(jN l).length<=l.length:=by
 have key:∀i,i<=l.length->(jN (l.take i)).length<=i:=by
  intro i
  induction i with
  |zero=>intro _;simp [jN]
  |succ i ih=>
   intro h
   rw [arO (by omega)]
   have:=aBy (jN (l.take i)) l[i].val
   have:=ih (by omega)
   omega
 have:=key l.length (Nat.le_refl _)
 rwa [List.take_length] at this
theorem aCl (c:Cl) (hl:c.parts.length<1000000000) (st:aI):PC Tryz.prog 111 [.agg c.cells] st λr S=>∃id,r= .vec id 3 0 (jN c.parts).length/\st id=none/\S=upd st id (some (.arr 57 ((jN c.parts).map Vl.cells))):=by
 refine cB aF Tryz.func111 (by kernel_rfl) rfl rfl rfl rfl ?_
 focus ((try apply wO pk;rfl);(repeat' ((show Cn _;constructor))))
 refine mZ 3 57 3 rfl rfl rfl (λid hid=> ?_)
 refine aK (X:={x:Nat×Nat×List Vl//x.1<=c.parts.length/\st x.2.1=none/\x.2.2=jN (c.parts.take x.1)}) (λi=>(((((St.nil 51 (upd st i.1.2.1 (some (.arr 57 (i.1.2.2.map Vl.cells))))).pv 3 (.vec i.1.2.1 3 0 i.1.2.2.length)).pv 8 (.seq (c.parts.map Pt.cells))).pv 9 ((PV.val (Value.int .i64 (((c.parts.map Pt.cells).length:Nat)))))).pv 10 ((PV.val (Value.int .i64 ((i.1.1:Nat))))))) (λi=>c.parts.length-i.1.1) ⟨(0,id,[]),by simp,hid,rfl⟩ ?_ (λi=> ?_)
 ·dsimp only
  (((repeat refine Sub.pv ?_ rfl);(exact Sub.nil _ _ _ (zsr _) rfl)))
 obtain ⟨⟨i,id,o⟩,hi,hid,ho⟩:=i
 simp only at hi hid ho
 dsimp only
 have hol:o.length<=i:=by rw [ho];have:=alF (c.parts.take i);rw [zlt] at this;omega
 by_cases hend:c.parts.length<=i
 have e:o=jN c.parts:=by rw [ho,ztl hend]
 subst e
 focus ((try apply wO pk;rfl);(repeat' first|show Cn _;constructor|apply wC pk;rfl;rfl|refine aB rfl ?_ ?_<;>intro h<;>(try simp at h)<;>try omega|(try refine aC ?_);((refine ⟨_,_,_,rfl,zwr _,zsr _, ?_⟩;(exact ⟨id,rfl,hid,rfl⟩);done))))
 have hil:i<c.parts.length:=by omega
 have hu:=arO hil
 rw [<-ho] at hu
 focus ((try apply wO pk;rfl);(repeat' first|show Cn _;constructor|apply wC pk;rfl;rfl|apply wE pk;rfl;rfl|refine aB rfl ?_ ?_<;>intro h<;>(try simp at h)<;>try omega|apply aP pk;(iterate 6 rfl);rotate_left;rfl;(intro hw;rfl);(intro hw;apply aJ<;>omega);(intro _;rfl);rfl|intros;(try simp only [zql]);omega))
 refine aK (X:={x:Nat//x<=o.length/\∀j (h:j<o.length),j<x->fS o[j] c.parts[i].val=true}) (λy=>(((((((St.nil 51 (upd st id (some (.arr 57 (o.map Vl.cells))))).pv 3 (.vec id 3 0 o.length)).var 5 190 (c.parts[i].cells)).pv 6 ((PV.val (Value.int .i64 ((y.1:Nat)))))).pv 8 (.seq (c.parts.map Pt.cells))).pv 9 ((PV.val (Value.int .i64 (((c.parts.map Pt.cells).length:Nat)))))).pv 10 ((PV.val (Value.int .i64 ((i:Nat))))))) (λy=>o.length-y.1) ⟨0,by omega,by omega⟩ ?_ (λy=> ?_)
 ·(((repeat (first|refine Sub.pv ?_ rfl|refine Sub.var ?_ rfl rfl));(exact Sub.nil _ _ _ (zsr _) rfl)))
 obtain ⟨a,ha,hA⟩:=y
 dsimp only
 by_cases hlt:a<o.length
 have ea:o.toArray[a]! =o[a]:=by rw [getElem!_pos o.toArray a (by simpa using hlt)];simp
 have hless:=rQ o.toArray[a]! c.parts[i].val
 have hsame:=anV o.toArray[a]! c.parts[i].val
 have hup:fS o[a] c.parts[i].val=true->∀j (h:j<o.length),j<a+1->fS o[j] c.parts[i].val=true:=λh j hj hja=>by
  rcases zls.1 hja with q|q
  ·exact hA j hj q
  ·subst q;exact h
 have hat:=λh:fS o[a] c.parts[i].val=false=>ayW (v:=c.parts[i].val) ha hA λ_=>h
 have hIf:zO o c.parts[i].val=if atV o c.parts[i].val<o.length/\aaC o[atV o c.parts[i].val]! c.parts[i].val=true then o else dO o (atV o c.parts[i].val) [c.parts[i].val]:=rfl
 cases hF:fS o[a] c.parts[i].val with
 |true=>
  rw [show fS o.toArray[a]! c.parts[i].val=true from by rw [ea];exact hF] at hless
  have hA2:=hup hF
  (try apply wO pk;rfl);(repeat' first|show Cn _;constructor|apply wC pk;rfl;rfl|apply wE pk;rfl;rfl|apply wDx pk;rfl;kernel_rfl;rfl;rfl|refine aB rfl ?_ ?_<;>intro h<;>(try simp at h)<;>try omega|(apply aH;rfl;rfl;rfl;(intro _;apply hless<;>first|assumption|omega);rotate_left;rfl;rfl)|apply ixA pk;(iterate 5 rfl);rotate_left;rfl;(intro hw;(exact (show _=((a:Nat):Int) from by omega)));(intro hw;(omega));rfl;(exact Nat.zero_add _)|apply ldA pk Vl.elem;rfl;rfl;rotate_left;rfl;(exact aA _ _ _);(intro hw;(omega));rfl|(refine ⟨⟨a+1,by omega,hA2⟩, ?_,by simp only;omega⟩;(((repeat (first|refine Sub.pv ?_ rfl|refine Sub.var ?_ rfl rfl));(exact Sub.nil _ _ _ (zsr _) rfl))))|intros;(try simp only [zql]);omega)
 |false=>
  rw [show fS o.toArray[a]! c.parts[i].val=false from by rw [ea];exact hF] at hless
  rw [hat hF,getElem!_pos o a hlt] at hIf
  cases hG:aaC o[a] c.parts[i].val with
  |true=>
   rw [show aaC o.toArray[a]! c.parts[i].val=true from by rw [ea];exact hG] at hsame
   rw [hG] at hIf
   rw [zp ⟨hlt,rfl⟩] at hIf
   rw [hIf] at hu
   have hu2:o=jN (c.parts.take (i+1)):=hu.symm
   (try apply wO pk;rfl);(repeat' first|show Cn _;constructor|apply wC pk;rfl;rfl|apply wE pk;rfl;rfl|apply wDx pk;rfl;kernel_rfl;rfl;rfl|refine aB rfl ?_ ?_<;>intro h<;>(try simp at h)<;>try omega|(apply aH;rfl;rfl;rfl;(intro _;(first|apply hless|apply hsame)<;>first|assumption|omega);rotate_left;rfl;rfl)|apply ixA pk;(iterate 5 rfl);rotate_left;rfl;(intro hw;(exact (show _=((a:Nat):Int) from by omega)));(intro hw;(omega));rfl;(exact Nat.zero_add _)|apply ldA pk Vl.elem;rfl;rfl;rotate_left;rfl;(exact aA _ _ _);(intro hw;(omega));rfl|refine ⟨⟨(i+1,id,o),by simp only;omega,hid,hu2⟩, ?_,by simp only;omega⟩;(((repeat refine Sub.pv ?_ rfl);(exact Sub.nil _ _ _ (zsr _) rfl)))|intros;(try simp only [zql]);omega)
  |false=>
   rw [show aaC o.toArray[a]! c.parts[i].val=false from by rw [ea];exact hG] at hsame
   rw [hG] at hIf
   rw [zn (by simp)] at hIf
   rw [hIf] at hu
   have hu2:dO o a [c.parts[i].val]=jN (c.parts.take (i+1)):=hu.symm
   (try apply wO pk;rfl);(repeat' first|show Cn _;constructor|apply wC pk;rfl;rfl|apply wE pk;rfl;rfl|apply wDx pk;rfl;kernel_rfl;rfl;rfl|refine aB rfl ?_ ?_<;>intro h<;>(try simp at h)<;>try omega|(apply aH;rfl;rfl;rfl;(intro _;(first|apply hless|apply hsame)<;>first|assumption|omega);rotate_left;rfl;rfl)|apply ixA pk;(iterate 5 rfl);rotate_left;rfl;(intro hw;(exact (show _=((a:Nat):Int) from by omega)));(intro hw;(omega));rfl;(exact Nat.zero_add _)|apply ldA pk Vl.elem;rfl;rfl;rotate_left;rfl;(exact aA _ _ _);(intro hw;(omega));rfl|(apply cD;rfl;rfl;(apply (aiO o [c.parts[i].val] a id o.length _ (aA _ _ _) rfl (by omega) (by simp) (by simp;omega))<;>first|exact aA _ _ _|assumption|omega|(fail));rfl;rfl;rfl;intro _ st' hR;obtain ⟨id2,rfl,hid2,rfl⟩:=hR)|refine ⟨⟨(i+1,id2,dO o a [c.parts[i].val]),by simp only;omega,gR hid hid2,hu2⟩, ?_,by simp only;omega⟩;(((repeat refine Sub.pv ?_ rfl);(exact Sub.nil _ _ _ (cR ‹_›) rfl)))|intros;(try simp only [zql]);omega)
 have hIf:zO o c.parts[i].val=dO o a [c.parts[i].val]:=by
  unfold zO
  rw [ayW (v:=c.parts[i].val) ha hA λh=>absurd h hlt,zn (by simp [hlt])]
 rw [hIf] at hu
 have hu2:dO o a [c.parts[i].val]=jN (c.parts.take (i+1)):=hu.symm
 obtain rfl:a=o.length:=by omega
 (try apply wO pk;rfl);(repeat' first|show Cn _;constructor|apply wC pk;rfl;rfl|apply wE pk;rfl;rfl|apply wDx pk;rfl;kernel_rfl;rfl;rfl|refine aB rfl ?_ ?_<;>intro h<;>(try simp at h)<;>try omega|(apply aH;rfl;rfl;rfl;(intro _;(first|apply (show PF Tryz.prog 142 [_,_] (PV.val (Value.bool (false))) from by rename_i hh;simp [gw] at hh)|apply (show PF Tryz.prog 144 [_,_] (PV.val (Value.bool (false))) from by rename_i hh;simp [gw] at hh))<;>first|assumption|omega);rotate_left;rfl;rfl)|apply ixA pk;(iterate 5 rfl);rotate_left;rfl;(intro hw;(exact (show _=((o.length:Nat):Int) from by omega)));(intro hw;((focus (simp [gw] at hw;done))));rfl;(exact Nat.zero_add _)|apply ldA pk Vl.elem;rfl;rfl;rotate_left;rfl;(exact aA _ _ _);(intro hw;((focus (simp [gw] at hw;done))));rfl|(apply cD;rfl;rfl;(apply (aiO o [c.parts[i].val] o.length id o.length _ (aA _ _ _) rfl (by omega) (by simp) (by simp;omega))<;>first|exact aA _ _ _|assumption|omega|(fail));rfl;rfl;rfl;intro _ st' hR;obtain ⟨id2,rfl,hid2,rfl⟩:=hR)|refine ⟨⟨(i+1,id2,dO o o.length [c.parts[i].val]),by simp only;omega,gR hid hid2,hu2⟩, ?_,by simp only;omega⟩;(((repeat refine Sub.pv ?_ rfl);(exact Sub.nil _ _ _ (cR ‹_›) rfl)))|intros;(try simp only [zql]);omega)
def dN (xs:Array Int):Nat->Nat
 |0=>0
 |1=>0
 |i+2=>dN xs (i+1)+if xs[i+1]! =xs[i]! then 0 else 1
theorem aAN (xs:Array Int) {k:Nat} (h:1<=k):dN xs (k+1)=dN xs k+if xs[k]! =xs[k-1]! then 0 else 1:=by
 obtain ⟨i,rfl⟩:∃i,k=i+1:=⟨k-1,by omega⟩
 rfl
theorem aDZ (xs:Array Int) (k:Nat):∀y,1<=k->dN xs (k+y)<=dN xs k+y
 |0,_=>Nat.le_refl _
 |y+1,h=>by
  have:=aDZ xs k y h
  rw [show k+(y+1)=k+y+1 from rfl,aAN xs (by omega)]
  split<;>omega
def afK (xs:Array Int):Nat:=if xs.size<2 then xs.size else 1+dN xs xs.size
theorem anR (xs:Array Int) {st:aI} {id n:Nat} (hst:st id=some (.arr 3 (xs.toList.map I1))) (hn:xs.size=n) (h12:n<1000000000000):
  PC Tryz.prog 184 [.vec id 1 0 n] st λr S=>r= .vec id 1 0 (afK xs)/\∃rows,S=upd st id (some (.arr 3 rows)):=by
 by_cases h2:n<2
 ·have e:afK xs=n:=by unfold afK;rw [zp (by omega),hn]
  rw [e]
  refine cB aF Tryz.func184 (by kernel_rfl) rfl rfl rfl rfl ?_
  (try apply wO pk;rfl);(repeat' first|show Cn _;constructor|apply wC pk;rfl;rfl|refine aB rfl ?_ ?_<;>intro h<;>(try simp at h)<;>try omega|(try refine aC ?_);((refine ⟨_,_,_,rfl,zwr _,zsr _, ?_⟩;(exact ⟨rfl,_,(fV hst).symm⟩);done)))
 have e:afK xs=1+dN xs n:=by unfold afK;rw [zn (by omega),hn]
 rw [e]
 refine cB aF Tryz.func184 (by kernel_rfl) rfl rfl rfl rfl ?_
 focus ((try apply wO pk;rfl);(repeat' first|show Cn _;constructor|apply wC pk;rfl;rfl|refine aB rfl ?_ ?_<;>intro h<;>(try simp at h)<;>try omega))
 refine aK (X:={x:Nat//1<=x/\x<=n/\dN xs x+1=x}) (λi=>(((St.nil 61 (st)).pv 0 (.vec id 1 0 n)).pv 3 ((PV.val (Value.int .i64 ((i.1:Nat))))))) (λi=>n-i.1) ⟨1,by omega,by omega,rfl⟩ ?_ (λi=> ?_)
 ·(((repeat refine Sub.pv ?_ rfl);(exact Sub.nil _ _ _ (zsr _) rfl)))
 obtain ⟨k,hk1,hk2,hk3⟩:=i
 dsimp only
 by_cases hend:n<=k
 ·obtain rfl:k=n:=by omega
  have e2:1+dN xs k=k:=by omega
  rw [e2]
  (try apply wO pk;rfl);(repeat' first|show Cn _;constructor|apply wC pk;rfl;rfl|refine aB rfl ?_ ?_<;>intro h<;>(try simp at h)<;>try omega|(try refine aC ?_);((refine ⟨_,_,_,rfl,zwr _,zsr _, ?_⟩;(exact ⟨rfl,_,(fV hst).symm⟩);done)))
 have hkn:k<n:=by omega
 have hu:=aAN xs hk1
 by_cases hd:¬xs[k]! =xs[k-1]!
 ·rw [zn hd] at hu
  have hu2:dN xs (k+1)+1=k+1:=by omega
  (try apply wO pk;rfl);(repeat' first|show Cn _;constructor|apply wC pk;rfl;rfl|apply wE pk;rfl;rfl|apply wDx pk;rfl;kernel_rfl;rfl;rfl|refine aB rfl ?_ ?_<;>intro h<;>(try simp at h)<;>try omega|apply ixA pk;(iterate 5 rfl);rotate_left;rfl;(intro hw;(first|exact (show _=((k:Nat):Int) from by omega)|exact (show _=((k-1:Nat):Int) from by omega)));(intro hw;(omega));rfl;(exact Nat.zero_add _)|apply ldA pk I1.elem;rfl;rfl;rotate_left;rfl;(assumption);(intro hw;(omega));rfl|refine ⟨⟨k+1,by omega,by omega,hu2⟩, ?_,by simp only;omega⟩;(((repeat refine Sub.pv ?_ rfl);(exact Sub.nil _ _ _ (zsr _) rfl)))|intros;(try simp only [zql]);omega)
 replace hd:=zdn hd
 rw [zp hd] at hu
 focus ((try apply wO pk;rfl);(repeat' first|show Cn _;constructor|apply wC pk;rfl;rfl|apply wE pk;rfl;rfl|apply wDx pk;rfl;kernel_rfl;rfl;rfl|refine aB rfl ?_ ?_<;>intro h<;>(try simp at h)<;>try omega|apply ixA pk;(iterate 5 rfl);rotate_left;rfl;(intro hw;(first|exact (show _=((k:Nat):Int) from by omega)|exact (show _=((k-1:Nat):Int) from by omega)));(intro hw;(omega));rfl;(exact Nat.zero_add _)|apply ldA pk I1.elem;rfl;rfl;rotate_left;rfl;(assumption);(intro hw;(omega));rfl|apply eO pk k (n-k);(iterate 4 rfl);rotate_left;rfl;(intro _;exact ⟨_,aU rfl rfl,by omega⟩);(intro _;exact ⟨_,bE,by omega⟩);(intro _;omega);(intro _;omega);rfl|intros;(try simp only [zql]);omega))
 refine aK (X:={x:Nat×Array Int//1<=x.1/\x.1<=n-k/\x.2.size=n/\∀j,k+x.1<=j+1->j<n->x.2[j]! =xs[j]!}) (λy=>(((((St.nil 61 (upd st id (some (.arr 3 (y.1.2.toList.map I1))))).pv 0 (.vec id 1 0 n)).pv 3 ((PV.val (Value.int .i64 (((1+dN xs (k+y.1.1):Nat):Int)))))).pv 4 (.vec id 1 k (n-k))).pv 5 ((PV.val (Value.int .i64 ((y.1.1:Nat))))))) (λy=>n-y.1.1) ⟨(1,xs),by omega,by omega,hn,λ_ _ _=>rfl⟩ ?_ (λy=> ?_)
 ·dsimp only
  (((repeat (first|refine Sub.pv ?_ rfl|refine Sub.pv' ?_ rfl (by (congr 2;omega))));(exact Sub.nil _ _ _ (eY (by first|rfl|exact fV ‹_›|((simp only [St.pv,St.put,St.sst,St.setv,St.nil,St.var,fG]);first|done|rfl))) rfl)))
 obtain ⟨⟨y,ys⟩,hy1,hy2,hys,hy⟩:=y
 simp only at hy1 hy2 hys hy
 dsimp only
 have hle:=aDZ xs (k+1) (y-1) (by omega)
 rw [show k+1+(y-1)=k+y by omega] at hle
 by_cases hend2:n-k<=y
 ·obtain rfl:y=n-k:=by omega
  rw [show k+(n-k)=n by omega] at hle⊢
  have hr:(ys.toList.map I1).length=n:=by rw [zql,Array.length_toList,hys]
  (try apply wO pk;rfl);(repeat' first|show Cn _;constructor|apply wC pk;rfl;rfl|apply wE pk;rfl;rfl|refine aB rfl ?_ ?_<;>intro h<;>(try simp at h)<;>try omega|(try refine aC ?_);((refine ⟨_,_,_,rfl,zwr _,zsr _, ?_⟩;(exact ⟨rfl,_,fG _ _ _ _⟩);done))|apply eO pk (1+dN xs n) (n-(1+dN xs n));(iterate 4 rfl);rotate_left;rfl;(intro _;exact ⟨_,aU rfl rfl,by omega⟩);(intro _;exact ⟨_,bE,by omega⟩);(intro _;omega);(intro _;omega);rfl|(refine aEP pk (id:=id) (off:=1+dN xs n) (len:=n-(1+dN xs n)) (rows:=ys.toList.map I1) rfl rfl rfl rfl rfl rfl rfl rfl (aA _ _ _) (by omega) (by omega) (by omega) rfl ?_)|apply aGx pk (1+dN xs n);(iterate 4 rfl);rotate_left;rfl;(intro _;exact aU rfl rfl);(intro _;omega);(intro _;omega);rfl)
 have hr1:=hy (k+y) (by omega) (by omega)
 have hr2:=hy (k+(y-1)) (by omega) (by omega)
 have hup:=aAN xs (show 1<=k+y by omega)
 rw [show k+y-1=k+(y-1) by omega,show k+y+1=k+(y+1) from rfl] at hup
 by_cases he:xs[k+y]! =xs[k+(y-1)]!
 ·rw [zp he] at hup
  have hya:∀j,k+(y+1)<=j+1->j<n->ys[j]! =xs[j]!:=λj h1 h2=>hy j (by omega) h2
  rw [<-hr1,<-hr2] at he
  (try apply wO pk;rfl);(repeat' first|show Cn _;constructor|apply wC pk;rfl;rfl|apply wE pk;rfl;rfl|apply wDx pk;rfl;kernel_rfl;rfl;rfl|refine aB rfl ?_ ?_<;>intro h<;>(try simp at h)<;>try omega|apply ixA pk;(iterate 5 rfl);rotate_left;rfl;(intro hw;(first|exact (show _=((y:Nat):Int) from by omega)|exact (show _=((y-1:Nat):Int) from by omega)));(intro hw;(omega));rfl;(rfl)|apply ldA pk I1.elem;rfl;rfl;rotate_left;rfl;(exact aA _ _ _);(intro hw;(omega));rfl|(refine ⟨⟨(y+1,ys),by simp only;omega,by simp only;omega,hys,hya⟩, ?_,by simp only;omega⟩;((dsimp only));(((repeat (first|refine Sub.pv ?_ rfl|refine Sub.pv' ?_ rfl (by (congr 2;omega))));(exact Sub.nil _ _ _ (zsr _) rfl))))|intros;(try simp only [zql]);omega)
 ·rw [zn he] at hup
  have hya:∀j,k+(y+1)<=j+1->j<n->(ys.setIfInBounds (1+dN xs (k+y)) ys[k+y]!)[j]! =xs[j]!:=λj h1 h2=>by
   rw [getElem!_pos _ j (by rw [zqs];omega),Array.getElem_setIfInBounds_ne (by omega) (by omega),<-getElem!_pos ys j (by omega)]
   exact hy j (by omega) h2
  rw [<-hr1,<-hr2] at he
  (try apply wO pk;rfl);(repeat' first|show Cn _;constructor|apply wC pk;rfl;rfl|apply wE pk;rfl;rfl|apply wDx pk;rfl;kernel_rfl;rfl;rfl|refine aB rfl ?_ ?_<;>intro h<;>(try simp at h)<;>try omega|(apply ixA pk;(iterate 5 rfl);rotate_left;rfl;(intro hw;(first|exact (show _=((y:Nat):Int) from by omega)|exact (show _=((y-1:Nat):Int) from by omega)|exact (show _=((1+dN xs (k+y):Nat):Int) from by omega)));(intro hw;(omega));rfl;(first|exact Nat.zero_add _|rfl))|apply ldA pk I1.elem;rfl;rfl;rotate_left;rfl;(exact aA _ _ _);(intro hw;(omega));rfl|apply stA pk I1.elem;rfl;rfl;rfl;(exact aA _ _ _);(omega);rfl|(refine ⟨⟨(y+1,ys.setIfInBounds (1+dN xs (k+y)) ys[k+y]!),by simp only;omega,by simp only;omega,by rw [zqs];exact hys,hya⟩, ?_,by simp only;omega⟩;((dsimp only));(((repeat (first|refine Sub.pv ?_ rfl|refine Sub.pv' ?_ rfl (by (congr 2;omega))));(exact Sub.nil _ _ _ (eY (by first|rfl|exact fV ‹_›|((simp only [St.pv,St.put,St.sst,St.setv,St.nil,St.var,fG]);first|done|rfl))) rfl))))|intros;(try simp only [zql]);omega)
end Go.Proofs.YtloecjjehapblaaGreatDoor
namespace Go.Proofs.YtloecjjehapblaaGreatDoor.T
open Go Go.Abs
attribute [local irreducible] Ev PWp
set_option maxRecDepth 10000
set_option maxHeartbeats 4000000
def vG :List Pt->List Int->List Int
 |[],acc=>acc
 |p::r,acc=>vG r (if p.gone=false/\acc.length<200 then acc++[p.val.n] else acc)
def showP (c:Cl):Vl:=if rightP c=0 then ⟨2,0,xM (vG c.parts [])⟩ else Vl.zero
theorem alG {l:List Pt} {i:Nat} (h:i<l.length) (acc:List Int):vG (l.drop i) acc=vG (l.drop (i+1)) (if l[i].gone=false/\acc.length<200 then acc++[l[i].val.n] else acc):=by
 rw [List.drop_eq_getElem_cons h];rfl
theorem aFa :Tryz.prog.bytesOf 5=1:=by kernel_rfl
theorem jP {c:Cl} (h:rightP c=0):c.kind=4/\c.val=Vl.zero/\Whole c.parts/\c.parts.length<=2000/\dD c.parts=c.parts:=by
 unfold rightP at h
 split at h
 ·cases h
 ·split at h
  ·cases h
  ·split at h
   ·cases h
   ·split at h
    ·cases h
    ·rename_i h1 h2 h3 h4
     simp only [ne_eq,not_or,Decidable.not_not,Bool.not_eq_false] at h1 h2 h4
     exact ⟨h1,h2.1,(fX _).1 h2.2,by omega,h4⟩
theorem aAZ {p:Pt} (h:bS p=true):0<=p.val.n/\p.val.n<=255:=by
 simp only [bS,withinB,zba,zde] at h
 exact ⟨h.1.1.1.2.1,h.1.1.1.2.2⟩
theorem iO {st:aI} {id id':Nat} {o:AObj} (h:upd st id (some o) id'=none):st id'=none:=by
 by_cases e:id'=id
 ·rw [e,aA] at h;cases h
 ·rwa [aD e] at h
theorem show_spec (c:Cl) (hl:c.parts.length<4611686018427387904):PF Tryz.prog 69 [.agg c.cells] (.agg (showP c).cells):=by
 refine aG aF Tryz.func69 (by kernel_rfl) rfl rfl rfl rfl (λst=> ?_)
 (try apply wO pk;rfl);(repeat' first|show Cn _;constructor|apply wC pk;rfl;rfl|apply wE pk;rfl;rfl|refine aB rfl ?_ ?_<;>intro h<;>(try simp at h)<;>try omega|(refine aC ?_;refine ⟨_,_,_,rfl,zwr _,zsr _, ?_,rfl⟩;try first|rfl|(rw [showP,zn ‹_›];rfl);done)|(apply aH;rfl;rfl;rfl;(intro _;apply (right_spec c hl)<;>first|assumption|omega);rotate_left;rfl;rfl))
 have h0:rightP c=0:=h
 have hb:=λp (hp:p∈c.parts)=>aAZ ((jP h0).2.2.1.formed p hp)
 refine yC 3 5 rfl rfl (λid hid=> ?_)
 have hid:st id=none:=hid
 refine aK (X:={x:Nat×List Int×Nat//x.1<=c.parts.length/\st x.2.2=none/\x.2.1.length<=200/\vG (c.parts.drop x.1) x.2.1=vG c.parts []}) (λi=>((((((St.nil 36 (upd st i.1.2.2 (some (.tok 5)))).var 2 57 ([(PV.val (Value.int .i64 (0))),(PV.val (Value.int .i64 (0))),(PV.val (Value.string (e0)))])).pv 3 (.own i.1.2.2 (i.1.2.1.map U8))).pv 11 (.seq (c.parts.map Pt.cells))).pv 12 ((PV.val (Value.int .i64 ((c.parts.length:Nat)))))).pv 13 ((PV.val (Value.int .i64 ((i.1.1:Nat))))))) (λi=>c.parts.length-i.1.1) ⟨(0,[],id),by simp,hid,by simp,rfl⟩ ?_ (λi=> ?_)
 ·(((repeat (first|refine Sub.pv ?_ rfl|refine Sub.var ?_ rfl rfl|refine Sub.pv' ?_ rfl (by first|rfl|simp)));(exact Sub.nil _ _ _ (zsr _) rfl)))
 obtain ⟨⟨i,acc,id⟩,hi,hid,ha,hinv⟩:=i
 simp only at hi hid ha hinv
 dsimp only
 have hs:=λh:i<c.parts.length=>alG h acc
 have hb2:=λh:i<c.parts.length=>hb _ (zgm h)
 (try apply wO pk;rfl);(repeat' first|show Cn _;constructor|apply wC pk;rfl;rfl|apply wE pk;rfl;rfl|refine aB rfl ?_ ?_<;>intro h<;>(try simp at h)<;>try omega|(refine aC ?_;first|refine ⟨_,_,_,rfl,zwr _,zsr _, ?_,rfl⟩;(fail)|refine ⟨_,_,_,rfl,zwr _,aL ‹_›, ?_,rfl⟩;(((rw [showP,zp h0,<-hinv,List.drop_eq_nil_of_le (by omega)];rfl);done))|refine ⟨_,_,_,rfl,zwf _,zsr _, ?_,rfl⟩;(fail)|refine ⟨_,_,_,rfl,zwf _,aL ‹_›, ?_,rfl⟩;(fail)|(refine ⟨_,_,_,rfl,zwr _,zsr _, ?_,rfl⟩)|(refine ⟨_,_,_,rfl,zwf _,aL ‹_›, ?_,rfl⟩))|apply aP pk;(iterate 6 rfl);rotate_left;rfl;(intro hw;rfl);(intro hw;apply aJ<;>omega);(intro _;rfl);rfl|apply cvA pk.htt;(iterate 5 rfl);(refine ⟨?_, ?_⟩<;>(first|exact (hb2 ‹_›).1|have:=(hb2 ‹_›).2;omega));rfl|apply aG7 pk acc;(iterate 6 rfl);rotate_left;rfl;rfl|((first|refine ⟨⟨(i+1,acc++[(c.parts[i]'‹_›).val.n],id'),by simp only;omega,iO hid',by simp only [zla,List.length_singleton];omega,by rw [<-hinv,hs ‹_›,zp ⟨h.1,by omega⟩]⟩, ?_,by simp only;omega⟩|refine ⟨⟨(i+1,acc,id),by simp only;omega,hid,ha,by rw [<-hinv,hs ‹_›,zn (λq=>by have:=h q.1;omega)]⟩, ?_,by simp only;omega⟩);(((repeat (first|refine Sub.pv ?_ rfl|refine Sub.var ?_ rfl rfl));(first|exact Sub.nil _ _ _ (zsr _) rfl|exact Sub.nil _ _ _ (cR ‹_›) rfl))))|(apply apS pk ((c.parts[i]'‹_›).val.n) 1;(iterate 8 rfl);exact aA _ _ _;exact λ_=>rfl;exact λ_=>rfl;exact aFa;(omega);(omega);rfl;intro id' hid')|intros;(try simp only [zql]);omega)
end Go.Proofs.YtloecjjehapblaaGreatDoor.T
namespace Go.Proofs.YtloecjjehapblaaGreatDoor
open Go Go.Abs
section
attribute [local irreducible] Ev PWp
set_option maxRecDepth 10000
set_option maxHeartbeats 4000000
def rD (c:Cl):List Int:=(c.parts.map (·.val.n)).mergeSort λx y=>decide (x<=y)
theorem aDC {c:Cl} {i:Nat} (h:i<c.parts.length):(c.parts.take (i+1)).map (·.val.n)=(c.parts.take i).map (·.val.n)++[c.parts[i].val.n]:=by
 rw [List.take_succ_eq_append_getElem h,List.map_append];rfl
theorem aCf (c:Cl) (hl:c.parts.length<1000000000) (st:aI):PC Tryz.prog 113 [.agg c.cells] st λr S=>∃id,r= .vec id 1 0 (afK (rD c).toArray)/\st id=none/\∃o,S=upd st id (some o):=by
 refine cB aF Tryz.func113 (by kernel_rfl) rfl rfl rfl rfl ?_
 focus ((try apply wO pk;rfl);(repeat' ((show Cn _;constructor))))
 refine mZ 3 3 1 rfl rfl rfl (λid hid=> ?_)
 refine aK (X:={x:Nat×Nat//x.1<=c.parts.length/\st x.2=none}) (λi=>(((((St.nil 24 (upd st i.1.2 (some (.arr 3 (((c.parts.take i.1.1).map (·.val.n)).map I1))))).pv 3 (.vec i.1.2 1 0 i.1.1)).pv 7 (.seq (c.parts.map Pt.cells))).pv 8 ((PV.val (Value.int .i64 (((c.parts.map Pt.cells).length:Nat)))))).pv 9 ((PV.val (Value.int .i64 ((i.1.1:Nat))))))) (λi=>c.parts.length-i.1.1) ⟨(0,id),by simp,hid⟩ ?_ (λi=> ?_)
 ·dsimp only
  (((repeat refine Sub.pv ?_ rfl);(exact Sub.nil _ _ _ (zsr _) rfl)))
 obtain ⟨⟨i,id⟩,hi,hid⟩:=i
 simp only at hi hid
 dsimp only
 by_cases hend:c.parts.length<=i
 ·obtain rfl:i=c.parts.length:=by omega
  rw [List.take_length]
  have hso:=avT (c.parts.map (·.val.n)) (st:=upd st id (some (.arr 3 ((c.parts.map (·.val.n)).map I1)))) (id:=id) (n:=c.parts.length) (aA _ _ _) (zql _) (by omega)
  have hnl:(rD c).toArray.size=c.parts.length:=by simp [rD]
  have hco:=anR (rD c).toArray (st:=upd (upd st id (some (.arr 3 ((c.parts.map (·.val.n)).map I1)))) id (some (.arr 3 ((rD c).map I1)))) (id:=id) (n:=c.parts.length) (aA _ _ _) hnl (by omega)
  (try apply wO pk;rfl);(repeat' first|show Cn _;constructor|apply wC pk;rfl;rfl|apply wE pk;rfl;rfl|refine aB rfl ?_ ?_<;>intro h<;>(try simp at h)<;>try omega|(try refine aC ?_);((refine ⟨_,_,_,rfl,zwr _,zsr _, ?_⟩;(exact ⟨id,rfl,hid,_,(fG _ _ _ _).trans (fG _ _ _ _)⟩);done))|(apply cD;rfl;rfl;(apply hso<;>first|exact aA _ _ _|assumption|omega|(fail));rfl;rfl;rfl;intro _ st' hR;obtain rfl:=hR)|(apply cD;rfl;rfl;(apply hco<;>first|exact aA _ _ _|assumption|omega|(fail));rfl;rfl;rfl;intro _ st' hR;obtain ⟨rfl,rows,rfl⟩:=hR))
 have hil:i<c.parts.length:=by omega
 have hlen:((c.parts.take i).map (·.val.n)).length=i:=by rw [zql,zlt];omega
 have e:=aDC hil
 (try apply wO pk;rfl);(repeat' first|show Cn _;constructor|apply wC pk;rfl;rfl|apply wE pk;rfl;rfl|refine aB rfl ?_ ?_<;>intro h<;>(try simp at h)<;>try omega|apply aP pk;(iterate 6 rfl);rotate_left;rfl;(intro hw;rfl);(intro hw;apply aJ<;>omega);(intro _;rfl);rfl|(apply apV pk (f:=I1) [c.parts[i].val.n] 8;(iterate 9 rfl);(exact aA _ _ _);(omega);exact λ_=>rfl;exact λ_=>rfl;exact vR;((focus (simp;omega)));((focus (simp;omega)));rfl;intro id' hid')|refine ⟨⟨(i+1,id'),by simp only;omega,iL hid'⟩, ?_,by simp only;omega⟩;((dsimp only;try rw [e]));(((repeat refine Sub.pv ?_ rfl);(exact Sub.nil _ _ _ (cR ‹_›) rfl)))|intros;(try simp only [zql]);omega)
def yQ (c:Cl):Vl:=⟨1,(afK (rD c).toArray:Nat),e0⟩
theorem amL (c:Cl) (hl:c.parts.length<1000000000):PF Tryz.prog 68 [.agg c.cells] (.agg (yQ c).cells):=by
 intro st
 have hn:=aCf c hl st
 refine cB aF Tryz.func68 (by kernel_rfl) rfl rfl rfl rfl ?_
 (try apply wO pk;rfl);(repeat' first|refine aC ?_;exact ⟨_,_,st,rfl,zwr _,bN (zsr _) hid,rfl,rfl⟩|show Cn _;constructor|apply wE pk;rfl;rfl|(apply cD;rfl;rfl;(apply hn<;>first|exact aA _ _ _|assumption|omega|(fail));rfl;rfl;rfl;intro _ st' hR;obtain ⟨id,rfl,hid,o,rfl⟩:=hR))
def aqN (c:Cl):Vl:=((jN c.parts).getLast?).getD Vl.zero
theorem apX (c:Cl) (hl:c.parts.length<1000000000):PF Tryz.prog 66 [.agg c.cells] (.agg (aqN c).cells):=by
 intro st
 have hn:=aCl c hl st
 have hvl:=alF c.parts
 unfold aqN
 generalize jN c.parts=o at*
 rcases Nat.eq_zero_or_pos o.length with h0|h0
 ·obtain rfl:o=[]:=List.eq_nil_of_length_eq_zero h0
  refine cB aF Tryz.func66 (by kernel_rfl) rfl rfl rfl rfl ?_
  (try apply wO pk;rfl);(repeat' first|refine aC ?_;exact ⟨_,_,st,rfl,zwr _,bN (zsr _) hid,rfl,rfl⟩|show Cn _;constructor|apply wC pk;rfl;rfl|apply wE pk;rfl;rfl|refine aB rfl ?_ ?_<;>intro h<;>(try simp at h)<;>try omega|(apply cD;rfl;rfl;(apply hn<;>first|exact aA _ _ _|assumption|omega|(fail));rfl;rfl;rfl;intro _ st' hR;obtain ⟨id,rfl,hid,rfl⟩:=hR))
 ·have e:o.getLast?.getD Vl.zero=o.toArray[o.length-1]!:=by
   rw [List.getLast?_eq_getElem?,zgg (by omega),getElem!_pos o.toArray (o.length-1) (by simp;omega)];simp
  rw [e]
  refine cB aF Tryz.func66 (by kernel_rfl) rfl rfl rfl rfl ?_
  (try apply wO pk;rfl);(repeat' first|refine aC ?_;exact ⟨_,_,st,rfl,zwr _,bN (zsr _) hid,rfl,rfl⟩|exact absurd (by assumption:o=[]) (List.ne_nil_of_length_pos h0)|show Cn _;constructor|apply wC pk;rfl;rfl|apply wE pk;rfl;rfl|refine aB rfl ?_ ?_<;>intro h<;>(try simp at h)<;>try omega|apply ixA pk;(iterate 5 rfl);rotate_left;rfl;(intro hw;(exact (show _=((o.length-1:Nat):Int) from by omega)));(intro hw;(omega));rfl;(exact Nat.zero_add _)|(apply cD;rfl;rfl;(apply hn<;>first|exact aA _ _ _|assumption|omega|(fail));rfl;rfl;rfl;intro _ st' hR;obtain ⟨id,rfl,hid,rfl⟩:=hR)|apply ldA pk Vl.elem;rfl;rfl;rotate_left;rfl;exact aA _ _ _;(intro _;exact (show o.length-1<o.length by omega));rfl|intros;(try simp only [zql]);omega)
def bO (c:Cl):Vl:=if c.kind=0 then c.val else if c.kind=1 then aqN c else if c.kind=2 then arP c else if c.kind=3 then yQ c else if c.kind=4 then T.showP c else Vl.zero
theorem arQ (c:Cl) (hl:c.parts.length<=1000):auT bO c:=by
 have h1:=apX c (by omega)
 have h2:=anZ c
 have h3:=amL c (by omega)
 have h4:=T.show_spec c (by omega)
 show PF Tryz.prog 30 [.agg c.cells] (.agg (bO c).cells)
 unfold bO
 generalize aqN c=A at*
 generalize arP c=B at*
 generalize yQ c=C at*
 generalize T.showP c=D at*
 refine aG aF Tryz.func30 (by kernel_rfl) rfl rfl rfl rfl (λst=> ?_)
 (try apply wO pk;rfl);(repeat' first|show Cn _;constructor|apply wC pk;rfl;rfl|apply wE pk;rfl;rfl|refine aB rfl ?_ ?_<;>intro h<;>(try simp at h)<;>try omega|(refine aC ?_;refine ⟨_,_,_,rfl,zwr _,zsr _, ?_,rfl⟩;try first|rfl|((repeat first|rw [zp ‹_›]|rw [zn ‹_›]);rfl);done)|(apply aH;rfl;rfl;rfl;(intro _;(first|apply h1|apply h2|apply h3|apply h4)<;>first|assumption|omega);rotate_left;rfl;rfl))
end
section
attribute [local irreducible] Ev PWp
set_option maxRecDepth 10000
set_option maxHeartbeats 4000000
section
variable {tx:Cl->Int}
theorem aEN :∀c:Cl,c.kind=0->bO c=c.val:=λc h=>by unfold bO;rw [zp h]
theorem rows_len {s:Sc} {b:Bs} (hg:cE tx s b=true) {k:Nat} (hk:k<s.length):(eP bO b k).length<=2000:=by
 obtain ⟨⟨h1,h2⟩,h3⟩:=bU.1 hg
 have hkb:k<b.length:=by omega
 have:=(gA.1 (h3 k hkb)).1
 unfold eP
 rw [yJ hkb,zql]
 rw [getElem!_pos b k hkb] at this
 exact this
theorem azQ {s:Sc} {b:Bs} (hg:cE tx s b=true) {k:Nat} (hk:k<s.length) {m:Su} (hm:m∈s[k].sums):TotOK m (eP bO b k):=by
 obtain ⟨⟨h1,h2⟩,_⟩:=bU.1 hg
 have hs:=aFW h1 hk hm
 refine ⟨rows_len hg hk,by have:=hs.c1;omega,by have:=hs.b1;omega,λr hr=> ?_,λr hr=> ?_⟩
 ·have:=(aoJ aEN hg hk hr).len
  have:=hs.c2
  have:=hs.b2
  omega
 ·have hc:=hs.c1
  have hc2:=hs.c2
  exact aBG ((aoJ aEN hg hk hr).num m.col.toNat (by omega) hs.kc)
theorem aEr {s:Sc} (h:cM s=0) {k:Nat} (hk:k<s.length):s[k].cols.length<=16/\s[k].checks.length<=16/\s[k].unique.length<=16/\s[k].foreign.length<=16/\s[k].sums.length<=16:=by
 have h1:=fM h hk (lk1 s[k]!) (by simp [lks])
 rw [getElem!_pos s k hk] at h1
 unfold lk1 at h1
 split at h1
 ·cases h1
 ·omega
theorem aDN {t:Tb} {r:List Vl} (h:eG t r=0) (hl:r.length<=1000):X.rowOK r:=by
 refine ⟨by omega,λv hv=> ?_⟩
 obtain ⟨j,hj,rfl⟩:=zgo hv
 unfold eG at h
 split at h
 ·have:=fP.1 h j (List.mem_range.2 hj)
  rw [getElem!_pos r j hj] at this
  unfold lC at this
  split at this
  ·cases this
  ·rename_i q
   have q:bB r[j]=true:=by simpa using q
   have:=(aBG q).1
   unfold X.lim
   omega
 ·cases h
end
section
variable (ex:Tb->List Vl->Int) (b:Bs) (t:Tb) (rows:List (List Vl))
def stT :Nat->Int
 |0=>dT (eG t) rows
 |1=>if jM t rows=false then 8 else 0
 |2=>dT (ex t) rows
 |3=>if tI b t rows=false then 10 else 0
 |_=>if vA t rows=false then 11 else 0
variable {ex b t rows}
theorem aAV (h:∀j<5,stT ex b t rows j=0):ckT ex b t rows=0:=by
 have h0:dT (eG t) rows=0:=h 0 (by omega)
 have h1:(if jM t rows=false then (8:Int) else 0)=0:=h 1 (by omega)
 have h2:dT (ex t) rows=0:=h 2 (by omega)
 have h3:(if tI b t rows=false then (10:Int) else 0)=0:=h 3 (by omega)
 have h4:(if vA t rows=false then (11:Int) else 0)=0:=h 4 (by omega)
 unfold ckT
 rw [zn (λq=>q h0),zn (λq=>by rw [zp q] at h1;cases h1),zn (λq=>q h2),zn (λq=>by rw [zp q] at h3;cases h3),zn (λq=>by rw [zp q] at h4;cases h4)]
theorem aEo {y:Nat} (hy:y<5) (hI:∀j<y,stT ex b t rows j=0) (h:stT ex b t rows y≠0):ckT ex b t rows=stT ex b t rows y:=by
 unfold ckT
 match y,hy with
 |0,_=>rw [zp (show dT (eG t) rows≠0 from h)];rfl
 |1,_=>
  have h0:dT (eG t) rows=0:=hI 0 (by omega)
  have q:jM t rows=false:=by
   cases e:jM t rows with
   |false=>rfl
   |true=>exact absurd (show stT ex b t rows 1=0 from by unfold stT;rw [e];rfl) h
  rw [zn (λq=>q h0),zp q]
  exact (show stT ex b t rows 1=8 from zp q).symm
 |2,_=>
  have h0:dT (eG t) rows=0:=hI 0 (by omega)
  have h1:(if jM t rows=false then (8:Int) else 0)=0:=hI 1 (by omega)
  rw [zn (λq=>q h0),zn (λq=>by rw [zp q] at h1;cases h1),zp (show dT (ex t) rows≠0 from h)];rfl
 |3,_=>
  have h0:dT (eG t) rows=0:=hI 0 (by omega)
  have h1:(if jM t rows=false then (8:Int) else 0)=0:=hI 1 (by omega)
  have h2:dT (ex t) rows=0:=hI 2 (by omega)
  have q:tI b t rows=false:=by
   cases e:tI b t rows with
   |false=>rfl
   |true=>exact absurd (show stT ex b t rows 3=0 from by unfold stT;rw [e];rfl) h
  rw [zn (λq=>q h0),zn (λq=>by rw [zp q] at h1;cases h1),zn (λq=>q h2),zp q]
  exact (show stT ex b t rows 3=10 from zp q).symm
 |4,_=>
  have h0:dT (eG t) rows=0:=hI 0 (by omega)
  have h1:(if jM t rows=false then (8:Int) else 0)=0:=hI 1 (by omega)
  have h2:dT (ex t) rows=0:=hI 2 (by omega)
  have h3:(if tI b t rows=false then (10:Int) else 0)=0:=hI 3 (by omega)
  have q:vA t rows=false:=by
   cases e:vA t rows with
   |false=>rfl
   |true=>exact absurd (show stT ex b t rows 4=0 from by unfold stT;rw [e];rfl) h
  rw [zn (λq=>q h0),zn (λq=>by rw [zp q] at h1;cases h1),zn (λq=>q h2),zn (λq=>by rw [zp q] at h3;cases h3),zp q]
  exact (show stT ex b t rows 4=11 from zp q).symm
end
structure CkB (n:Nat) (s:Sc) (b:Bs):Prop where
 sb:ScB s
 len:s.length<=20
 col:∀t∈s,t.cols.length<10000000000
 chk:∀t∈s,zI t
 bs:BsS n b
 hn:n<=1000
noncomputable def mayC (s:Sc) (b:Bs):Bool:=decide (rightC s=0)&&cE T.rightP s b
noncomputable def whyC (s:Sc) (b:Bs):Int:=if mayC s b=true then ckW bO exR s b else 1
theorem azD {s:Sc} (h:rightC s=0):cM s=0:=by
 unfold rightC at h
 split at h
 ·assumption
 ·rename_i q;exact absurd h q
section
variable {n:Nat} {s:Sc} {b:Bs} (hB:CkB n s b)
include hB
theorem CkB.right :PF Tryz.prog 98 [.agg (scC s)] (.val (.int .i64 (rightC s))):=ajL s (by have:=hB.len;omega) hB.sb hB.chk hB.col
theorem iW :PF Tryz.prog 56 [.agg (scC s), .agg (bsC b)] (.val (.bool (mayC s b))):=by
 have h1:=hB.right
 have h2:=qD hB.bs hB.hn hB.sb hB.len
 unfold mayC
 generalize rightC s=R at*
 generalize cE T.rightP s b=B at*
 refine aG aF Tryz.func56 (by kernel_rfl) rfl rfl rfl rfl (λst=> ?_)
 (try apply wO pk;rfl);(repeat' first|show Cn _;constructor|apply wE pk;rfl;rfl|(refine aC ?_;refine ⟨_,_,_,rfl,zwr _,zsr _, ?_,rfl⟩;try rfl)|(apply aH;rfl;rfl;rfl;(intro _;(first|apply h1|apply h2)<;>first|assumption|omega);rotate_left;rfl;rfl))
theorem pI {k:Nat} (hk:k<b.length):PF Tryz.prog 38 [.agg (bsC b),(.val (.int .i64 ((k:Nat))))] (.seq ((eP bO b k).map roC)):=by
 obtain ⟨hL1,hL2⟩:=hB.bs.2 _ (zgm hk)
 have hn:=hB.hn
 have e:eP bO b k=b[k].lines.map (abO bO):=by unfold eP;rw [yJ hk];rfl
 rw [e]
 exact anI bO b k hk (by omega) λl hl=>by
  obtain ⟨u1,u2,u3⟩:=hL2 l hl
  exact ⟨by omega,λc hc=>arQ c (u3 c hc)⟩
theorem aiZ :PF Tryz.prog 20 [.agg (scC s), .agg (bsC b)] (.val (.int .i64 (whyC s b))):=by
 have hm:=iW hB
 have hsl:=hB.len
 cases hmay:mayC s b with
 |false=>
  rw [hmay] at hm
  have e:whyC s b=1:=by unfold whyC;rw [hmay];rfl
  rw [e]
  refine aG aF Tryz.func20 (by kernel_rfl) rfl rfl rfl rfl (λst=> ?_)
  (try apply wO pk;rfl);(repeat' first|show Cn _;constructor|apply wC pk;rfl;rfl|apply wE pk;rfl;rfl|refine aB rfl ?_ ?_<;>intro h<;>(try simp at h)<;>try omega|(refine aC ?_;refine ⟨_,_,_,rfl,zwr _,zsr _, ?_,rfl⟩;try rfl)|(apply aH;rfl;rfl;rfl;(intro _;apply hm<;>first|assumption|omega);rotate_left;rfl;rfl))
 |true=>
 rw [hmay] at hm
 have e:whyC s b=ckW bO exR s b:=by unfold whyC;rw [hmay];rfl
 rw [e]
 clear e
 unfold mayC at hmay
 rw [zba,zde] at hmay
 obtain ⟨hrc,hg⟩:=hmay
 have hrs:=azD hrc
 obtain ⟨⟨_,hbl⟩,_⟩:=bU.1 hg
 have hfin0:(∀j<s.length,ckT exR b s[j]! (eP bO b j)=0)->ckW bO exR s b=0:=λh=>acR h
 have hfin1:∀i<s.length,(∀j<i,ckT exR b s[j]! (eP bO b j)=0)->ckT exR b s[i]! (eP bO b i)≠0->ckW bO exR s b=ckT exR b s[i]! (eP bO b i):=λi hi h1 h2=>asR (f:=λk:Nat=>ckT exR b s[k]! (eP bO b k)) hi h1 h2
 generalize ckW bO exR s b=W at*
 refine aG aF Tryz.func20 (by kernel_rfl) rfl rfl rfl rfl (λst=> ?_)
 focus ((try apply wO pk;rfl);(repeat' first|show Cn _;constructor|apply wC pk;rfl;rfl|apply wE pk;rfl;rfl|refine aB rfl ?_ ?_<;>intro h<;>(try simp at h)<;>try omega|(apply aH;rfl;rfl;rfl;(intro _;apply hm<;>first|assumption|omega);rotate_left;rfl;rfl)))
 refine aK (X:={x:Nat//x<=s.length/\∀j<x,ckT exR b s[j]! (eP bO b j)=0}) (λi=>(((((St.nil 41 st).var 3 27 ((bsC b))).pv 16 (.seq (s.map Tb.cells))).pv 17 ((PV.val (Value.int .i64 (((s.map Tb.cells).length:Nat)))))).pv 18 ((PV.val (Value.int .i64 ((i.1:Nat))))))) (λi=>s.length-i.1) ⟨0,by omega,by omega⟩ ?_ (λi=> ?_)
 ·((repeat (first|refine Sub.pv ?_ rfl|refine Sub.var ?_ rfl rfl));exact Sub.nil _ _ _ (zsr _) rfl)
 obtain ⟨i,hi,hI⟩:=i
 dsimp only
 by_cases hend:s.length<=i
 ·have e:W=0:=hfin0 λj hj=>hI j (by omega)
  (try apply wO pk;rfl);(repeat' first|show Cn _;constructor|apply wC pk;rfl;rfl|refine aB rfl ?_ ?_<;>intro h<;>(try simp at h)<;>try omega|(refine aC ?_;refine ⟨_,_,_,rfl,zwr _,zsr _, ?_,rfl⟩;try first|rfl|(rw [e]);done))
 have hil:i<s.length:=by omega
 have hib:i<b.length:=by omega
 have hsh:=pI hB hib
 have hfin1:=hfin1 i hil hI
 have hup:ckT exR b s[i]! (eP bO b i)=0->∀j<i+1,ckT exR b s[j]! (eP bO b j)=0:=λh j hj=>by
  rcases zls.1 hj with q|q
  ·exact hI j q
  ·subst q;exact h
 rw [getElem!_pos s i hil] at hfin1 hup
 obtain ⟨n1,n2,n3,n4,n5⟩:=aEr hrs hil
 have hrl:=rows_len hg hil
 have hro:=λr (hr:r∈eP bO b i)=>aoJ aEN hg hil hr
 have hto:=λm (hm:m∈s[i].sums)=>azQ hg hil hm
 have hun:=λu (hu:u∈s[i].unique)=>aFR hrs hil hu
 have hfr:=λf (hf:f∈s[i].foreign)=>aAM hrs hil hf
 have hchk:=hB.chk _ (zgm hil)
 generalize eP bO b i=rows at*
 have hrn:∀r∈rows,r.length<=1000:=λr hr=>by have:=(hro r hr).len;omega
 have f0:PF Tryz.prog 57 [.agg (mW s[i] rows b)] (.val (.int .i64 (stT exR b s[i] rows 0))):=aoQ s[i] rows b (by omega) (by omega) λr hr=>by have:=hrn r hr;omega
 have f1:PF Tryz.prog 58 [.agg (mW s[i] rows b)] (.val (.int .i64 (stT exR b s[i] rows 1))):=alE s[i] rows b (by omega) (by omega) λu hu=>⟨by have:=(hun u hu).c1;omega,λr hr=>by have:=(hun u hu).c2;have:=(hro r hr).len;omega⟩
 have f2:stT exR b s[i] rows 0=0->PF Tryz.prog 59 [.agg (mW s[i] rows b)] (.val (.int .i64 (stT exR b s[i] rows 2))):=λh=>akL s[i] rows b (by omega) (by omega) hchk λr hr=>aDN (fP.1 h r hr) (hrn r hr)
 have f3:PF Tryz.prog 60 [.agg (mW s[i] rows b)] (.val (.int .i64 (stT exR b s[i] rows 3))):=afJ s[i] rows b (by omega) (by omega) (λf hf=>⟨by have:=(hfr f hf).c1;omega,λr hr=>by have:=(hfr f hf).c2;have:=(hro r hr).len;omega⟩) hB.bs hB.hn
 have f4:PF Tryz.prog 61 [.agg (mW s[i] rows b)] (.val (.int .i64 (stT exR b s[i] rows 4))):=amF s[i] rows b (by omega) hto
 have hnone:=aAV (ex:=exR) (b:=b) (t:=s[i]) (rows:=rows)
 have hat:=λy (hy:y<5)=>aEo (ex:=exR) (b:=b) (t:=s[i]) (rows:=rows) hy
 generalize ckT exR b s[i] rows=C at*
 generalize stT exR b s[i] rows=S at*
 focus ((try apply wO pk;rfl);(repeat' first|show Cn _;constructor|apply wC pk;rfl;rfl|apply wE pk;rfl;rfl|apply wD pk [] [];kernel_rfl;rfl;rfl|refine aB rfl ?_ ?_<;>intro h<;>(try simp at h)<;>try omega|(apply aH;rfl;rfl;rfl;(intro _;apply hsh<;>first|assumption|omega);rotate_left;rfl;rfl)|apply aP pk;(iterate 6 rfl);rotate_left;rfl;(intro hw;rfl);(intro hw;apply aJ<;>omega);(intro _;rfl);rfl|intros;(try simp only [zql]);omega))
 refine aK (X:={x:Nat//x<=5/\∀j<x,S j=0}) (λy=>((((((((St.nil 41 st).var 3 27 ((bsC b))).var 7 123 (mW s[i] rows b)).pv 16 (.seq (s.map Tb.cells))).pv 17 ((PV.val (Value.int .i64 (((s.map Tb.cells).length:Nat)))))).pv 18 ((PV.val (Value.int .i64 ((i:Nat)))))).pv 29 (.agg [.fn 57 [], .fn 58 [], .fn 59 [], .fn 60 [], .fn 61 []])).pv 30 ((PV.val (Value.int .i64 ((y.1:Nat))))))) (λy=>5-y.1) ⟨0,by omega,by omega⟩ ?_ (λy=> ?_)
 ·((repeat (first|refine Sub.pv ?_ rfl|refine Sub.var ?_ rfl rfl));exact Sub.nil _ _ _ (zsr _) rfl)
 obtain ⟨y,hy,hyI⟩:=y
 dsimp only
 by_cases hend2:5<=y
 ·have hw:=hup (hnone λj hj=>hyI j (by omega))
  (try apply wO pk;rfl);(repeat' first|show Cn _;constructor|apply wC pk;rfl;rfl|refine aB rfl ?_ ?_<;>intro h<;>(try simp at h)<;>try omega|(refine ⟨⟨i+1,by omega,hw⟩, ?_,by simp only;omega⟩;((repeat (first|refine Sub.pv ?_ rfl|refine Sub.var ?_ rfl rfl));exact Sub.nil _ _ _ (zsr _) rfl))|intros;(try simp only [zql]);omega)
 have hfin:S y≠0->W=S y:=λh=>by
  have e:=hat y (by omega) hyI h
  rw [hfin1 (by rw [e];exact h),e]
 have hyu:S y=0->∀j<y+1,S j=0:=λh j hj=>by
  rcases zls.1 hj with q|q
  ·exact hyI j q
  ·subst q;exact h
 have h5:y=0\/y=1\/y=2\/y=3\/y=4:=by omega
 rcases h5 with rfl|rfl|rfl|rfl|rfl
 ·generalize S 0=Z at*
  (try apply wO pk;rfl);(repeat' first|show Cn _;constructor|apply wC pk;rfl;rfl|apply wE pk;rfl;rfl|refine aB rfl ?_ ?_<;>intro h<;>(try simp at h)<;>try omega|(refine aC ?_;refine ⟨_,_,_,rfl,zwr _,zsr _, ?_,rfl⟩;try first|rfl|(rw [hfin ‹_›]);done)|(apply aH;rfl;rfl;rfl;(intro _;apply f0<;>first|assumption|omega);rotate_left;rfl;rfl)|apply ixV pk 0;(iterate 6 rfl);(focus repeat' constructor);rfl;(intro _;rfl);(intro _;decide);(intro _;rfl);rfl|(refine ⟨⟨1,by omega,hyu ‹_›⟩, ?_,by simp only;omega⟩;((repeat (first|refine Sub.pv ?_ rfl|refine Sub.var ?_ rfl rfl));exact Sub.nil _ _ _ (zsr _) rfl))|intros;(try simp only [zql]);omega)
 ·generalize S 1=Z at*
  (try apply wO pk;rfl);(repeat' first|show Cn _;constructor|apply wC pk;rfl;rfl|apply wE pk;rfl;rfl|refine aB rfl ?_ ?_<;>intro h<;>(try simp at h)<;>try omega|(refine aC ?_;refine ⟨_,_,_,rfl,zwr _,zsr _, ?_,rfl⟩;try first|rfl|(rw [hfin ‹_›]);done)|(apply aH;rfl;rfl;rfl;(intro _;apply f1<;>first|assumption|omega);rotate_left;rfl;rfl)|apply ixV pk 1;(iterate 6 rfl);(focus repeat' constructor);rfl;(intro _;rfl);(intro _;decide);(intro _;rfl);rfl|(refine ⟨⟨2,by omega,hyu ‹_›⟩, ?_,by simp only;omega⟩;((repeat (first|refine Sub.pv ?_ rfl|refine Sub.var ?_ rfl rfl));exact Sub.nil _ _ _ (zsr _) rfl))|intros;(try simp only [zql]);omega)
 ·have f2:=f2 (hyI 0 (by omega))
  generalize S 2=Z at*
  (try apply wO pk;rfl);(repeat' first|show Cn _;constructor|apply wC pk;rfl;rfl|apply wE pk;rfl;rfl|refine aB rfl ?_ ?_<;>intro h<;>(try simp at h)<;>try omega|(refine aC ?_;refine ⟨_,_,_,rfl,zwr _,zsr _, ?_,rfl⟩;try first|rfl|(rw [hfin ‹_›]);done)|(apply aH;rfl;rfl;rfl;(intro _;apply f2<;>first|assumption|omega);rotate_left;rfl;rfl)|apply ixV pk 2;(iterate 6 rfl);(focus repeat' constructor);rfl;(intro _;rfl);(intro _;decide);(intro _;rfl);rfl|(refine ⟨⟨3,by omega,hyu ‹_›⟩, ?_,by simp only;omega⟩;((repeat (first|refine Sub.pv ?_ rfl|refine Sub.var ?_ rfl rfl));exact Sub.nil _ _ _ (zsr _) rfl))|intros;(try simp only [zql]);omega)
 ·generalize S 3=Z at*
  (try apply wO pk;rfl);(repeat' first|show Cn _;constructor|apply wC pk;rfl;rfl|apply wE pk;rfl;rfl|refine aB rfl ?_ ?_<;>intro h<;>(try simp at h)<;>try omega|(refine aC ?_;refine ⟨_,_,_,rfl,zwr _,zsr _, ?_,rfl⟩;try first|rfl|(rw [hfin ‹_›]);done)|(apply aH;rfl;rfl;rfl;(intro _;apply f3<;>first|assumption|omega);rotate_left;rfl;rfl)|apply ixV pk 3;(iterate 6 rfl);(focus repeat' constructor);rfl;(intro _;rfl);(intro _;decide);(intro _;rfl);rfl|(refine ⟨⟨4,by omega,hyu ‹_›⟩, ?_,by simp only;omega⟩;((repeat (first|refine Sub.pv ?_ rfl|refine Sub.var ?_ rfl rfl));exact Sub.nil _ _ _ (zsr _) rfl))|intros;(try simp only [zql]);omega)
 ·generalize S 4=Z at*
  (try apply wO pk;rfl);(repeat' first|show Cn _;constructor|apply wC pk;rfl;rfl|apply wE pk;rfl;rfl|refine aB rfl ?_ ?_<;>intro h<;>(try simp at h)<;>try omega|(refine aC ?_;refine ⟨_,_,_,rfl,zwr _,zsr _, ?_,rfl⟩;try first|rfl|(rw [hfin ‹_›]);done)|(apply aH;rfl;rfl;rfl;(intro _;apply f4<;>first|assumption|omega);rotate_left;rfl;rfl)|apply ixV pk 4;(iterate 6 rfl);(focus repeat' constructor);rfl;(intro _;rfl);(intro _;decide);(intro _;rfl);rfl|(refine ⟨⟨5,by omega,hyu ‹_›⟩, ?_,by simp only;omega⟩;((repeat (first|refine Sub.pv ?_ rfl|refine Sub.var ?_ rfl rfl));exact Sub.nil _ _ _ (zsr _) rfl))|intros;(try simp only [zql]);omega)
end
end
end Go.Proofs.YtloecjjehapblaaGreatDoor
