import Derived.Test.YtnogfoojjaainaaGreatDoorClAl
import Derived.Test.YtnogfoojjaainaaGreatDoorClAf
import Derived.Test.YtnogfoojjaainaaGreatDoorClAk
set_option linter.unusedSimpArgs false
set_option linter.unusedVariables false
namespace Go.Proofs.YtnogfoojjaainaaGreatDoor
open Go Go.Abs
section
attribute [local irreducible] Ev PWp
set_option maxRecDepth 10000
set_option maxHeartbeats 4000000
theorem adR :ptR none= .tup [vi 0,vb false]:=rfl
theorem nM(g:Int):ptR (some g)= .tup [vi g,vb true]:=rfl
theorem aeO(b:Bs)(k:Int)(m:Su)(above:Int)(all:Bool)(r:∀l∈aF b k,eV l m.by_)(hl:(aF b k).length<4611686018427387904):PF Tryz.prog 50 [.agg (bsC b),vi k, .agg m.cells,vi above,vb all] (ptR (gR (aF b k) m.by_ above all)):=by
 have n:=afL b k;generalize aF b k=L at*;have p:(L.map Ln.cells).length=L.length:=zql _;refine pF Tryz.func50 rfl λst=>?_
 focus(repeat' first|apply wZ;rfl|show Cn _;constructor|apply n|apply wY;rfl)
 refine aC (X:={x:Nat//x<=L.length}) (λi=>((((((((St.nil 58 st).pv 3 (vi above)).pv 4 (vb all)).var 7 74 (m.cells)).pv 12 (vi ((gR (L.take i.1) m.by_ above all).getD 0))).pv 13 (vb ((gR (L.take i.1) m.by_ above all).isSome))).pv 14 (.seq (L.map Ln.cells))).pv 15 (vi (i.1:Nat)))) (λi=>L.length-i.1) ⟨0,by omega⟩ ?_ λi=>?_
 ·repeat' first|show Cn _;constructor|exact rfl
 obtain⟨i,hi⟩:=i;dsimp only;by_cases f:L.length<=i
 ·rw[ztl f]
  repeat' first|apply wZ;rfl|show Cn _;constructor|exact rfl|omega|intro h;simp at h
 have d:i<L.length:=by omega
 have a:=aEO (c:=m.by_) (above:=above) (all:=all) d;have hp:=alU L[i] m.by_ (r _ (zgm d));generalize gR (L.take i) m.by_ above all=o at*;cases j:ptP L[i] m.by_ with
 |none=>
  rw[j]at hp a;rw[adR]at hp;have e:gR (L.take (i+1)) m.by_ above all=o:=a
  (repeat' first|refine⟨⟨i+1,d⟩,?_,?_⟩;(dsimp only;rw[e])|apply wZ;rfl|show Cn _;constructor|exact rfl|apply KR.mk;kernel_rfl|apply hp|apply wY;rfl|apply wI;rfl|apply gE;omega|omega|simp only[zql];omega|intro h;simp at h)
 |some g=>
  rw[j]at hp a;rw[nM]at hp;unfold aiI at a;dsimp only at a;by_cases hc:(all=true\/g>above)/\(o=none\/g<o.getD 0)
  ·rw[zp hc]at a
   obtain⟨c1,c2⟩:=hc;cases o with
   |none=>
    (repeat' first|refine⟨⟨i+1,d⟩,?_,?_⟩;(dsimp only;rw[a])|apply wZ;rfl|show Cn _;constructor|exact rfl|apply KR.mk;kernel_rfl|apply hp|show _=_;(simp)|apply wY;rfl|apply wI;rfl|apply gE;omega|omega|simp only[zql];omega|(exfalso;rcases c1 with q|q<;>simp_all<;>omega)|intro h;simp at h)
   |some w=>
    have c2:g<w:=by rcases c2 with q|q;cases q;exact q
    repeat' first|refine⟨⟨i+1,d⟩,?_,?_⟩;(dsimp only;rw[a])|apply wZ;rfl|show Cn _;constructor|exact rfl|apply KR.mk;kernel_rfl|apply hp|show _=_;(simp)|apply wY;rfl|apply wI;rfl|apply gE;omega|omega|simp only[zql];omega|(exfalso;rcases c1 with q|q<;>simp_all<;>omega)|intro h;simp at h
  ·rw[zn hc]at a
   cases o with
   |none=>
    have c1:¬(all=true\/g>above):=λq=>hc ⟨q, .inl rfl⟩
    (repeat' first|refine⟨⟨i+1,d⟩,?_,?_⟩;(dsimp only;rw[a])|apply wZ;rfl|show Cn _;constructor|exact rfl|apply KR.mk;kernel_rfl|apply hp|show _=_;(simp)|apply wY;rfl|apply wI;rfl|apply gE;omega|omega|simp only[zql];omega|exfalso;apply c1;simp_all;done|intro h;simp at h)
   |some w=>
    have c1:¬((all=true\/g>above)/\g<w):=λq=>hc ⟨q.1, .inr q.2⟩
    repeat' first|refine⟨⟨i+1,d⟩,?_,?_⟩;(dsimp only;rw[a])|apply wZ;rfl|show Cn _;constructor|exact rfl|apply KR.mk;kernel_rfl|apply hp|show _=_;(simp)|apply wY;rfl|apply wI;rfl|apply gE;omega|omega|simp only[zql];omega|exfalso;apply c1;simp_all;done|intro h;simp at h
theorem aBV(b c:Bs)(k:Int)(m:Su)(above:Int)(all:Bool)(n:∀l∈aF b k,eV l m.by_)(hl:(aF b k).length<4611686018427387904)(j:∀l∈aF c k,eV l m.by_)(f:(aF c k).length<4611686018427387904):PF Tryz.prog 25 [.agg (bsC b), .agg (bsC c),vi k, .agg m.cells,vi above,vb all] (ptR (aiB (gR (aF b k) m.by_ above all) (gR (aF c k) m.by_ above all))):=by
 have d:=aeO b k m above all n hl;have a:=aeO c k m above all j f;generalize gR (aF b k) m.by_ above all=A at*;generalize gR (aF c k) m.by_ above all=B at*;cases A with
 |none=>
  rw[show aiB none B=B from rfl];rw[adR]at d;unfold ptR at a⊢;generalize B.isSome=i at*;generalize B.getD 0=g at*;refine pF Tryz.func25 rfl λst=>?_
  (repeat' first|apply wZ;rfl|show Cn _;constructor|exact rfl|(first|apply d|apply a)|apply wY;rfl)
 |some x=>
  rw[nM]at d;cases B with
  |none=>
   rw[show aiB (some x) none=some x from rfl];rw[adR]at a;rw[nM];refine pF Tryz.func25 rfl λst=>?_
   (repeat' first|apply wZ;rfl|show Cn _;constructor|exact rfl|(first|apply d|apply a)|apply wY;rfl)
  |some y=>
   rw[nM]at a;rw[show aiB (some x) (some y)=if x<y then some x else some y from rfl];by_cases e:x<y
   ·rw[zp e,nM]
    refine pF Tryz.func25 rfl λst=>?_
    repeat' first|apply wZ;rfl|show Cn _;constructor|exact rfl|(first|apply d|apply a)|apply wY;rfl|omega|intro h
   ·rw[zn e,nM]
    refine pF Tryz.func25 rfl λst=>?_
    repeat' first|apply wZ;rfl|show Cn _;constructor|exact rfl|(first|apply d|apply a)|apply wY;rfl|omega|intro h;simp at h
theorem aE2{s:Sc}{was is:Bs}(d:CkB 200 s was)(g:CkB 200 s is)(u:bC T.rightP s was=true)(v:bC T.rightP s is=true)(st:aD):
  PC Tryz.prog 8 [.agg (scC s), .agg (bsC was), .agg (bsC is)] st λr S=>∃id,r= .vec id 4 0 ((List.range s.length).flatMap (sumK s was is)).length/\st id=none/\S=upd st id (some (.arr 32 (((List.range s.length).flatMap (sumK s was is)).map s4C))):=by
 have K:=iM d.bs d.hn d.sb d.len
 have L:=iM g.bs g.hn g.sb g.len
 rw[u]at K
 rw[v]at L
 obtain⟨⟨C,e1⟩,_⟩:=aU.1 u
 obtain⟨⟨_,e2⟩,_⟩:=aU.1 v
 have hsl:=jT C
 have hml:(s.map Tb.cells).length=s.length:=zql _
 have p:=λk:Int=>(d.bs.lines k).1
 have q:=λk:Int=>(g.bs.lines k).1
 have H:=λk i=>xN (s:=s) (was:=was) (is:=is) p q k i
 have V:∀k<s.length,(sumK s was is k).length<=6400:=λk hk=>by
  unfold sumK
  have:=iK (f:=sumI s was is k) (List.range s[k]!.sums.length) λi _=>H k i
  rw[List.length_range,getElem!_pos s k hk]at this
  have:=(lH C hk).2.2.2.2
  rw[getElem!_pos s k hk]
  omega
 have W:∀i≤s.length,((List.range i).flatMap (sumK s was is)).length<=6400*16:=λi hi=>by
  have:=iK (f:=sumK s was is) (List.range i) λk hk=>V k (by have:=List.mem_range.1 hk;omega)
  rw[List.length_range]at this
  omega
 refine pC Tryz.func8 rfl ?_
 focus(repeat' first|apply Cn.cf;focus(((first|apply K|apply L));done)|apply wZ;rfl|show Cn _;constructor|apply wY;rfl)
 refine eC 7 32 4 rfl rfl rfl λid a=>?_
 have a:st id=none:=a
 refine aC (X:={x:Nat×Nat//x.1<=s.length/\st x.2=none}) (λi=>((((((St.nil 93 (upd st i.1.2 (some (.arr 32 (((List.range i.1.1).flatMap (sumK s was is)).map s4C))))).var 3 24 (scC s)).var 4 27 (bsC was)).var 5 27 (bsC is)).pv 7 (.vec i.1.2 4 0 ((List.range i.1.1).flatMap (sumK s was is)).length)).pv 8 (vi (i.1.1:Nat)))) (λi=>s.length-i.1.1) ⟨(0,id),by simp,a⟩ ?_ λi=>?_
 ·dsimp only
  repeat' first|show Cn (.t _ _);exact Cn.t0|show Cn _;constructor|exact rfl
 obtain⟨⟨i,id⟩,hi,a⟩:=i
 simp only at hi a
 dsimp only
 by_cases hend:s.length<=i
 ·obtain rfl:i=s.length:=by omega
  repeat' first|show Cn (.r _ _ _);refine .rr ?_;(exact⟨id,rfl,a,rfl⟩);done|apply wZ;rfl|show Cn _;constructor|omega|intro h;simp at h
 have hk:i<s.length:=by omega
 have k1:i<was.length:=by omega
 have k2:i<is.length:=by omega
 have Q:=pE (sumK s was is) i
 have hO:=W i hi
 have U:sumK s was is i=(List.range s[i].sums.length).flatMap (sumI s was is i):=by unfold sumK;rw[getElem!_pos s i hk]
 have hsn:=(lH C hk).2.2.2.2
 have Y:∀y≤s[i].sums.length,((List.range y).flatMap (sumI s was is i)).length<=6400:=λy hy=>by
  have:=iK (f:=sumI s was is i) (List.range y) λj _=>H i j
  rw[List.length_range]at this
  omega
 rw[U]at Q
 generalize(List.range i).flatMap (sumK s was is)=A at*
 focus(repeat' first|apply wZ;rfl|show Cn _;constructor|omega|intro h;simp at h)
 refine aC (X:={x:Nat×Nat//x.1<=s[i].sums.length/\st x.2=none}) (λy=>(((((((St.nil 93 (upd st y.1.2 (some (.arr 32 ((A++(List.range y.1.1).flatMap (sumI s was is i)).map s4C))))).var 3 24 (scC s)).var 4 27 (bsC was)).var 5 27 (bsC is)).pv 7 (.vec y.1.2 4 0 (A++(List.range y.1.1).flatMap (sumI s was is i)).length)).pv 8 (vi (i:Nat))).pv 9 (vi (y.1.1:Nat)))) (λy=>s[i].sums.length-y.1.1) ⟨(0,id),by simp,a⟩ ?_ λy=>?_
 ·dsimp only
  rw[show A++(List.range 0).flatMap (sumI s was is i)=A from by simp]
  repeat' first|show Cn (.t _ _);exact Cn.t0|show Cn _;constructor|exact rfl
 obtain⟨⟨y,id⟩,hy,a⟩:=y
 simp only at hy a
 dsimp only
 by_cases Z:s[i].sums.length<=y
 ·obtain rfl:y=s[i].sums.length:=by omega
  repeat' first|refine⟨⟨(i+1,id),by simp only;omega,a⟩,?_,?_⟩;(dsimp only;rw[Q])|apply wZ;rfl|show Cn _;constructor|exact rfl|apply wI;rfl|apply gE;omega|omega|simp only[zql];omega|intro h;simp at h
 have F:y<s[i].sums.length:=by omega
 have o:=pE (sumI s was is i) y
 have hA:=Y y hy
 have hDl:(iU (gI was i s[i].sums[y]++gI is i s[i].sums[y])).length<=400:=by
  have q2:=zK (gI was i s[i].sums[y]++gI is i s[i].sums[y]);rw[zla]at q2;have q3:=List.length_filterMap_le (λl=>ptP l s[i].sums[y].by_) (aF was (i:Int));have q4:=List.length_filterMap_le (λl=>ptP l s[i].sums[y].by_) (aF is (i:Int));have q5:=p (i:Int);have q6:=q (i:Int);unfold gI at q2⊢;omega
 have R:sumI s was is i y=(iU (gI was i s[i].sums[y]++gI is i s[i].sums[y])).filterMap (moreS s was is i y):=by unfold sumI;rw[getElem!_pos s i hk,getElem!_pos s[i].sums y F]
 rw[R]at o
 have M:∀l∈aF was (i:Int),eV l s[i].sums[y].by_:=by rw[gJ k1];exact akR u hk (zgm F)
 have N:∀l∈aF is (i:Int),eV l s[i].sums[y].by_:=by rw[gJ k2];exact akR v hk (zgm F)
 have J:=λabove all=>aBV was is (i:Int) s[i].sums[y] above all M (by have:=p (i:Int);omega) N (by have:=q (i:Int);omega)
 generalize hD:iU (gI was i s[i].sums[y]++gI is i s[i].sums[y])=D at*
 have w:=J 0 true
 rw[axW hD (j:=0) (.inl ⟨rfl,rfl⟩)]at w
 have hnz:∀z (h:z<D.length),PF Tryz.prog 25 [.agg (bsC was), .agg (bsC is),vi (i:Nat), .agg s[i].sums[y].cells,vi (D[z]),vb false] (ptR D[z+1]?):=λz h=>by
  have:=J D[z] false
  rw[axW hD (j:=z+1) (.inr ⟨rfl,by omega,by rw[Nat.add_sub_cancel,zgg h]⟩)]at this
  exact this
 generalize(List.range y).flatMap (sumI s was is i)=B at*
 unfold ptR at w
 focus(repeat' first|apply Cn.cf;focus((apply w);done)|apply wZ;rfl|show Cn _;constructor|exact rfl|apply wY;rfl|apply wI;rfl|apply gE;omega|simp only[zql];omega|intro h;simp at h)
 refine aC (X:={x:Nat×Nat//x.1<=D.length/\st x.2=none}) (λz=>((((((((((St.nil 93 (upd st z.1.2 (some (.arr 32 ((A++B++(D.take z.1.1).filterMap (moreS s was is i y)).map s4C))))).var 3 24 (scC s)).var 4 27 (bsC was)).var 5 27 (bsC is)).pv 7 (.vec z.1.2 4 0 (A++B++(D.take z.1.1).filterMap (moreS s was is i y)).length)).pv 8 (vi (i:Nat))).pv 9 (vi (y:Nat))).var 10 74 (s[i].sums[y].cells)).pv 11 (vi (D[z.1.1]?.getD 0))).pv 12 (vb (D[z.1.1]?.isSome)))) (λz=>D.length-z.1.1) ⟨(0,id),by simp,a⟩ ?_ λz=>?_
 ·dsimp only
  rw[show A++B++(D.take 0).filterMap (moreS s was is i y)=A++B from by simp]
  repeat' first|show Cn (.t _ _);exact Cn.t0|show Cn _;constructor|exact rfl
 obtain⟨⟨z,id⟩,hz,a⟩:=z
 simp only at hz a
 dsimp only
 have hll:=List.length_filterMap_le (moreS s was is i y) (D.take z)
 rw[zlt]at hll
 by_cases hend2:D.length<=z
 ·obtain rfl:z=D.length:=by omega
  rw[List.take_length,List.append_assoc,<-o,List.getElem?_eq_none (Nat.le_refl _)]
  repeat' first|refine⟨⟨(y+1,id),by simp only;omega,a⟩,?_,?_⟩;(dsimp only)|apply wZ;rfl|show Cn _;constructor|exact rfl|omega|simp only[zql];omega
 have G:z<D.length:=by omega
 have m:=hnz z G
 have O:=zV g (i:Int) (y:Int) D[z]
 have P:=zV d (i:Int) (y:Int) D[z]
 obtain⟨b1,b2⟩:=lD (s:=s) (b:=is) i y D[z]
 obtain⟨b3,b4⟩:=lD (s:=s) (b:=was) i y D[z]
 have c:=ajH (f:=moreS s was is i y) G
 rw[zgg G]
 unfold ptR at m
 by_cases n:totC s is (i:Int) (y:Int) D[z]-totC s was (i:Int) (y:Int) D[z]≠0
 ·have e:moreS s was is i y D[z]=some ((i:Int),(y:Int),D[z],totC s is (i:Int) (y:Int) D[z]-totC s was (i:Int) (y:Int) D[z]):=by unfold moreS;rw[zp n]
  rw[e]at c;dsimp only at c;generalize totC s is (i:Int) (y:Int) D[z]=V1 at*;generalize totC s was (i:Int) (y:Int) D[z]=V2 at*;generalize(D.take z).filterMap (moreS s was is i y)=E at*
  repeat' first|refine⟨⟨(z+1,id'),by simp only;omega,cG I⟩,?_,?_⟩;(dsimp only;rw[c,<-List.append_assoc])|show Cn (.t _ _);exact .any (bI ‹_›)|apply wZ;rfl|show Cn _;constructor|exact rfl|apply KR.mk;kernel_rfl|(first|apply O|apply P|apply m)|show _=_;(simp;omega)|apply apV pk (f:=s4C) [((i:Int),(y:Int),D[z],V1-V2)] 32;(iterate 9 rfl);(exact aA _ _ _);(omega);exactλ_=>rfl;exactλ_=>rfl;exact aAa;(focus(simp;omega));(focus(simp;omega));rfl;intro id' I|apply wY;rfl|omega|simp only[zql];omega|intro h
 ·have e:moreS s was is i y D[z]=none:=by unfold moreS;rw[zn n]
  rw[e]at c;dsimp only at c;rw[List.append_nil]at c;have n:=zdn n;generalize totC s is (i:Int) (y:Int) D[z]=V1 at*;generalize totC s was (i:Int) (y:Int) D[z]=V2 at*
  repeat' first|refine⟨⟨(z+1,id),by simp only;omega,a⟩,?_,?_⟩;(dsimp only;rw[c])|apply wZ;rfl|show Cn _;constructor|exact rfl|apply KR.mk;kernel_rfl|(first|apply O|apply P|apply m)|apply wY;rfl|omega|simp only[zql];omega|intro h
theorem anK{s:Sc}{was is:Bs}(a:CkB 200 s was)(b:CkB 200 s is):PF Tryz.prog 8 [.agg (scC s), .agg (bsC was), .agg (bsC is)] (.seq ((sumsP s was is).map s4C)):=by
 unfold sumsP;by_cases hb:bC T.rightP s was=true/\bC T.rightP s is=true
 ·rw[zp hb]
  exactλst=>fD (sz:=4) (aE2 a b hb.1 hb.2 st) λp st' h=>by
   obtain⟨id,rfl,e,rfl⟩:=h
   exact .inl ⟨id,32,((List.range s.length).flatMap (sumK s was is)).map s4C,_,st,aA _ _ _,axZ,eQ (by simp),bU e,rfl,rfl⟩
 ·rw[zn hb]
  have c:=iM a.bs a.hn a.sb a.len;have d:=iM b.bs b.hn b.sb b.len;generalize bC T.rightP s was=X at*;generalize bC T.rightP s is=Y at*;refine pF Tryz.func8 rfl λst=>?_
  repeat' first|exact Cn.any ⟨_,_,_,rfl,axC,zsr _,rfl,rfl⟩|apply wZ;rfl|show Cn _;constructor|(first|apply c|apply d)|apply wY;rfl|exfalso;simp_all;done|intro h;simp at h
end
section
attribute [local irreducible] Ev PWp
set_option maxRecDepth 10000
set_option maxHeartbeats 4000000
theorem avA{s:Sc}{was is:Bs}(b:CkB 200 s was)(c:CkB 200 s is):(sumsP s was is).length<=102400:=by
 unfold sumsP;split
 ·rename_i hb
  obtain⟨⟨a,_⟩,_⟩:=aU.1 hb.1;have g:=jT a;have d:=λk i=>xN (s:=s) (was:=was) (is:=is) (λk:Int=>(b.bs.lines k).1) (λk:Int=>(c.bs.lines k).1) k i;have e:∀k<s.length,(sumK s was is k).length<=6400:=λk hk=>by
   unfold sumK
   have:=iK (f:=sumI s was is k) (List.range s[k]!.sums.length) λi _=>d k i
   rw[List.length_range,getElem!_pos s k hk]at this
   have:=(lH a hk).2.2.2.2
   rw[getElem!_pos s k hk]
   omega
  have:=iK (f:=sumK s was is) (List.range s.length) λk hk=>e k (List.mem_range.1 hk);rw[List.length_range]at this;omega
 ·simp
section
variable(hA:PF Tryz.prog 6 [] (vb (true)))
include hA
end
end
section
attribute [local irreducible] Ev PWp
set_option maxRecDepth 10000
set_option maxHeartbeats 4000000
theorem apT{w:Wr}{s:Sc}{x:P4}:∀{l:List Ot}{b:Bs},aB0 w s b l x->x.1≠3
 |[],_,h=>h.elim
 |o::r,b,h=>by
  rcases h with h|h
  ·obtain⟨k,hk,key,_,h⟩:=h
   rcases h with h|⟨f,_,n,_,_,h⟩|⟨u,_,n,_,_,h⟩<;>rw[h]<;>simp
  ·exact apT h
theorem apJ{s:Sc}{was is:Bs}{x:S4}(h:x∈sumsP s was is):x.2.2.2=totC s is x.1 x.2.1 x.2.2.1-totC s was x.1 x.2.1 x.2.2.1:=by
 unfold sumsP at h;split at h
 ·obtain⟨k,_,h⟩:=List.mem_flatMap.1 h
  unfold sumK at h;obtain⟨i,_,h⟩:=List.mem_flatMap.1 h;unfold sumI at h;obtain⟨g,_,h⟩:=List.mem_filterMap.1 h;unfold moreS at h;split at h
  ·cases h;rfl
  ·cases h
 ·cases h
theorem aJJ{w:Wr}{s:Sc}{b:Bs}{l:List Ot}(c:Goes w s b l)(f:OpW 0 b)(hf:∀o∈l,nF o)(hl:l.length≠0)(h0:(fY w s b l).2=0){r:Rg}(d:r∈(ofP w s b l).1)(hk:r.kind=3):1<=r.amt/\totC s (fY w s b l).1 r.table r.col r.lo=totC s b r.table r.col r.lo+r.amt:=by
 unfold ofP at d;rw[zn hl,zn (by simp[h0])]at d;rcases zma.1 d with q|q
 ·obtain⟨p,hp,rfl⟩:=List.mem_map.1 q
  rw[(eW kW _).mem_iff]at hp;rcases(alO c.may c.was f hf c.fold).1 hp with w|w
  ·cases w
  ·exact absurd hk (apT w)
 ·obtain⟨x,hx,rfl⟩:=List.mem_map.1 q
  obtain⟨e,a⟩:=List.mem_filter.1 hx;have a:x.2.2.2>0:=of_decide_eq_true a;have g:=apJ e;exact⟨a,by show totC s _ x.1 x.2.1 x.2.2.1=totC s b x.1 x.2.1 x.2.2.1+x.2.2.2;omega⟩
theorem aJy{w:Wr}{s:Sc}{b:Bs}{l:List Ot}(hl:l.length≠0)(h0:(fY w s b l).2=0){x:S4}(hx:x∈sumsP s b (fY w s b l).1)(hp:¬x.2.2.2<=0):rgS x∈(ofP w s b l).1:=by
 unfold ofP;rw[zn hl,zn (by simp[h0])];exact zma.2 (.inr (List.mem_map_of_mem (List.mem_filter.2 ⟨hx,decide_eq_true (by omega)⟩)))
theorem qV{s:Sc}{b:Bs}(k y g:Int): -2199023255552000<=totC s b k y g/\totC s b k y g<=2199023255552000:=by
 by_cases h:0<=k/\0<=y
 ·obtain⟨i,rfl⟩:=Int.eq_ofNat_of_zero_le h.1
  obtain⟨j,rfl⟩:=Int.eq_ofNat_of_zero_le h.2;exact lD i j g
 ·have:totC s b k y g=0:=by
   unfold totC;rw[dif_neg];rintro⟨_,⟨a,_⟩,⟨c,_⟩⟩;exact h ⟨a,c⟩
  rw[this];decide
theorem aJQ{w:Wr}{s:Sc}{b:Bs}{l:List Ot}{r:Rg}(a:r∈(ofP w s b l).1): -4398046511104000<=r.amt/\r.amt<=4398046511104000:=by
 unfold ofP at a;split at a
 ·cases a
 ·split at a
  ·cases a
  ·rcases zma.1 a with q|q
   ·obtain⟨p,hp,rfl⟩:=List.mem_map.1 q
    show-4398046511104000<=(0:Int)/\(0:Int)<=4398046511104000
    decide
   ·obtain⟨x,hx,rfl⟩:=List.mem_map.1 q
    have c:=apJ (List.mem_filter.1 hx).1;have b1:=qV (s:=s) (b:=(fY w s b l).1) x.1 x.2.1 x.2.2.1;have b2:=qV (s:=s) (b:=b) x.1 x.2.1 x.2.2.1;show-4398046511104000<=x.2.2.2/\x.2.2.2<=4398046511104000;omega
def rgB(z:Rg)(x:S4):Bool:=decide (z.kind=3/\z.table=x.1/\z.col=x.2.1/\z.lo=x.2.2.1/\z.hi=0/\z.amt=x.2.2.2)
def amQ(R:List Rg)(x:S4)(j:Nat):Bool:=decide (x.2.2.2<=0)||(R.take j).any λz=>rgB z x
theorem aJU{R:List Rg}{x:S4}{j:Nat}(h:j<R.length):amQ R x (j+1)=(amQ R x j||rgB R[j] x):=by
 unfold amQ;rw[List.take_succ_eq_append_getElem h,List.any_append,Bool.or_assoc];simp
theorem aGl{R:List Rg}{x:S4}(h:¬x.2.2.2<=0->rgS x∈R):amQ R x R.length=true:=by
 unfold amQ;rw[List.take_length];by_cases q:x.2.2.2<=0
 ·simp[q]
 ·rw[Bool.or_eq_true]
  exact .inr (List.any_eq_true.2 ⟨_,h q,by simp[rgB,rgS]⟩)
section
variable(hA:PF Tryz.prog 6 [] (vb (true)))
include hA
theorem yI(s:Sc)(b:Bs)(l:List Ot)(who:T.Sp)(kn:List Int)(hs:ScG s)(hb:BsB b)(hl:l.length<200000000000000)(hro:∀o∈l,o.row.length<200000000000000)(hkn:kn.length<200000000000000):PF Tryz.prog 4 [.agg (scC s), .agg (bsC b), .seq (l.map Ot.cells), .agg who.cells, .seq (kn.map I1)] (vb true):=by
 have hf:=awT s b l kn hs hb hl hro;by_cases g0:¬(((fewC s b=true/\((l.length:Int)<=12/\l.all gY=true))/\(kn.length:Int)<=80)/\l.length≠0)
 ·have e:((fewC s b&&(decide ((l.length:Int)<=12)&&l.all gY))&&decide ((kn.length:Int)<=80))=false\/l.length=0:=by
   rw[<-Bool.not_eq_true];simp only[zba,zde];exact Decidable.or_iff_not_imp_left.2 λq=>Decidable.byContradiction λq2=>g0 ⟨zdn q,q2⟩
  rcases e with e|e
  ·rw[e]at hf
   refine pF Tryz.func4 rfl λst=>?_
   repeat' first|apply wZ;rfl|show Cn _;constructor|exact rfl|(first|apply hA|apply hf)|apply wY;rfl
  ·generalize((fewC s b&&(decide ((l.length:Int)<=12)&&l.all gY))&&decide ((kn.length:Int)<=80))=F at*
   refine pF Tryz.func4 rfl λst=>?_
   repeat' first|apply wZ;rfl|show Cn _;constructor|exact rfl|(first|apply hA|apply hf)|apply wY;rfl|(exfalso;first|simp only[zql]at*;omega|simp_all;done)|intro h;simp at h
 obtain⟨⟨⟨g1,g2,p⟩,g3⟩,n⟩:=zdn g0;rw[g1,p,decide_eq_true g2,decide_eq_true g3]at hf;rw[zal]at p;obtain⟨D,v⟩:=ScK.of g1 hs.b hs.k;have f:∀o∈l,nF o:=λo ho=>yF.1 (p o ho);have a:=sG (w:=⟨who,kn⟩) D v (l:=l) (by omega) (by dsimp only;omega) f;dsimp only at a;by_cases j:(fY ⟨who,kn⟩ s b l).2≠0
 ·have c:=aH7 (w:=⟨who,kn⟩) D v (by omega) (by dsimp only;omega) f n j
  have e:ofP ⟨who,kn⟩ s b l=([],(fY ⟨who,kn⟩ s b l).2):=by unfold ofP;rw[zn n,zp j]
  rw[e]at c;generalize fY ⟨who,kn⟩ s b l=R at*;obtain⟨B,e⟩:=R;unfold aHO at c;unfold oS at a;dsimp only at a j c;refine pF Tryz.func4 rfl λst=>?_
  repeat' first|apply wZ;rfl|show Cn _;constructor|exact rfl|(first|apply hA|apply hf|apply a|apply c)|show(_:PV)=_;(simp[j];done);done|apply wY;rfl|simp only[zql];omega|intro h;simp at h;omega|intro h;simp at h
 have j:=zdn j;have c:=aH2 (w:=⟨who,kn⟩) D v (by omega) (by dsimp only;omega) f n j;have hG:=aFA v f j;have N:=fun{r:Rg} hr hk=>aJJ (r:=r) hG v f n j hr hk;have I:=fun{r:Rg} hr=>aJQ (w:=⟨who,kn⟩) (s:=s) (b:=b) (l:=l) (r:=r) hr;have K:=fun{x:S4} hx hp=>aJy (x:=x) (w:=⟨who,kn⟩) (b:=b) n j hx hp;have t:CkB 200 s b:=D.ck (v.S (by omega)) (by omega);have u:CkB 200 s (fY ⟨who,kn⟩ s b l).1:=hG.eq▸D.ck (hG.size.S (by omega)) (by omega);have hrs:=anK t u;have hSn:=avA t u;have hRn:=aEo (w:=⟨who,kn⟩) D v (l:=l) (by omega) f;have ht1:=λk y g=>pQ u k y g;have ht2:=λk y g=>pQ t k y g;unfold oS at a;rw[j]at a;dsimp only at a c;generalize(fY ⟨who,kn⟩ s b l).1=B at*;generalize(ofP ⟨who,kn⟩ s b l).1=R at*;generalize sumsP s b B=S at*;have hRl:(R.map Rg.cells).length=R.length:=zql _;have hSl:(S.map s4C).length=S.length:=zql _;refine pF Tryz.func4 rfl λst=>?_
 focus(repeat' first|apply wZ;rfl|show Cn _;constructor|(first|apply hf|apply a|apply c)|apply wY;rfl|simp only[zql];omega|intro h;simp at h)
 refine aC (X:={x:Nat//x<=R.length}) (λi=>((((((((St.nil 140 st).var 5 24 (scC s)).var 6 27 (bsC b)).pv 11 (.seq (R.map Rg.cells))).var 13 27 (bsC B)).pv 64 (.seq (R.map Rg.cells))).pv 65 (vi (R.length:Nat))).pv 66 (vi (i.1:Nat)))) (λi=>R.length-i.1) ⟨0,by omega⟩ ?_ λi=>?_
 ·repeat' first|show Cn _;constructor|exact rfl|rw[zql]
 obtain⟨i,hi⟩:=i;dsimp only;by_cases hend:R.length<=i
 ·focus(repeat' first|apply Cn.cf;focus((apply hrs);done)|apply wZ;rfl|show Cn _;constructor|apply wY;rfl|omega|intro h;simp at h)
  refine aC (X:={x:Nat//x<=S.length}) (λy=>(((((St.nil 140 st).pv 11 (.seq (R.map Rg.cells))).pv 106 (.seq (S.map s4C))).pv 107 (vi (S.length:Nat))).pv 108 (vi (y.1:Nat)))) (λy=>S.length-y.1) ⟨0,by omega⟩ ?_ λy=>?_
  ·repeat' first|show Cn _;constructor|exact rfl|rw[zql]
  obtain⟨y,hy⟩:=y;dsimp only;by_cases hend1:S.length<=y
  ·repeat' first|apply wZ;rfl|show Cn _;constructor|exact rfl|apply hA|apply wY;rfl|omega|intro h;simp at h
  have C:y<S.length:=by omega
  have hmt:=K (zgm C);have d:(S.map s4C)[y]?=some (s4C S[y]):=by simp[C]
  generalize S[y]=x at*;obtain⟨W,Q,P,Y⟩:=x;have J:=aGl hmt
  focus(repeat' first|apply wZ;rfl|show Cn _;constructor|apply cL pk;(iterate 6 rfl);rotate_left;rfl;(intro hw;rfl);(intro hw;apply d<;>omega);(intro _;rfl);rfl|apply iD pk 3;(iterate 5 rfl);(focus repeat' constructor);rfl;(intro _;rfl);(intro _;omega);rfl|omega|intro h;simp at h)
  refine aC (X:={x:Nat//x<=R.length}) (λz=>((((((((((St.nil 140 st).pv 11 (.seq (R.map Rg.cells))).var 18 32 (s4C (W,Q,P,Y))).pv 19 (vb (amQ R (W,Q,P,Y) z.1))).pv 106 (.seq (S.map s4C))).pv 107 (vi (S.length:Nat))).pv 108 (vi (y:Nat))).pv 115 (.seq (R.map Rg.cells))).pv 116 (vi (R.length:Nat))).pv 117 (vi (z.1:Nat)))) (λz=>R.length-z.1) ⟨0,by omega⟩ ?_ λz=>?_
  ·repeat' first|show Cn _;constructor|exact rfl|(first|rw[zql]|unfold amQ;simp)
  obtain⟨z,hz⟩:=z;dsimp only;by_cases hend2:R.length<=z
  ·obtain rfl:z=R.length:=by omega
   rw[J]
   repeat' first|refine⟨⟨y+1,C⟩,?_,?_⟩|apply wZ;rfl|show Cn _;constructor|exact rfl|omega|simp only[zql];omega|intro h;simp at h
  have O:z<R.length:=by omega
  have A:=aJU (x:=(W,Q,P,Y)) O;unfold rgB at A;dsimp only at A;generalize amQ R (W,Q,P,Y) z=M at*
  repeat' first|refine⟨⟨z+1,O⟩,?_,?_⟩;(dsimp only;rw[A])|apply wZ;rfl|show Cn _;constructor|exact rfl|show _=_;(simp only[Bool.decide_and];done)|apply iD pk 0;(iterate 5 rfl);(focus repeat' constructor);rfl;(intro _;rfl);(intro _;omega);rfl|apply iD pk 1;(iterate 5 rfl);(focus repeat' constructor);rfl;(intro _;rfl);(intro _;omega);rfl|apply iD pk 2;(iterate 5 rfl);(focus repeat' constructor);rfl;(intro _;rfl);(intro _;omega);rfl|apply iD pk 3;(iterate 5 rfl);(focus repeat' constructor);rfl;(intro _;rfl);(intro _;omega);rfl|apply wI;rfl|apply gE;omega|omega|simp only[zql];omega|intro h;simp at h
 have m:i<R.length:=by omega
 have L:=N (zgm m);have ham:=I (zgm m);have d:(R.map Rg.cells)[i]?=some R[i].cells:=by simp[m]
 generalize R[i]=r at*;obtain⟨rk,H,E,G,rh,ra⟩:=r;dsimp only at L;have Z:=ht1 H E G;have h2:=ht2 H E G;have hv:=qV (s:=s) (b:=b) H E G;by_cases hk:rk=3
 ·obtain⟨a1,a2⟩:=L hk
  rw[a2]at Z;generalize totC s b H E G=V at*
  repeat' first|refine⟨⟨i+1,m⟩,?_,?_⟩|apply wZ;rfl|show Cn _;constructor|exact rfl|apply KR.mk;kernel_rfl|apply cL pk;(iterate 6 rfl);rotate_left;rfl;(intro hw;rfl);(intro hw;apply d<;>omega);(intro _;rfl);rfl|(first|apply Z|apply h2)|apply wY;rfl|omega|simp only[zql];omega|intro h;simp at h;omega|intro h;simp at h
 ·generalize totC s b H E G=V at*
  generalize totC s B H E G=U at*
  repeat' first|refine⟨⟨i+1,m⟩,?_,?_⟩|apply wZ;rfl|show Cn _;constructor|exact rfl|apply KR.mk;kernel_rfl|apply cL pk;(iterate 6 rfl);rotate_left;rfl;(intro hw;rfl);(intro hw;apply d<;>omega);(intro _;rfl);rfl|(first|apply Z|apply h2)|apply wY;rfl|omega|simp only[zql];omega|intro h;simp at h;omega|intro h;simp at h
end
end
end Go.Proofs.YtnogfoojjaainaaGreatDoor
