import Derived.Test.YtnogfoojjaainaaGreatDoorClAl
import Derived.Test.YtnogfoojjaainaaGreatDoorClAf
import Derived.Test.YtnogfoojjaainaaGreatDoorClAk
set_option linter.unusedSimpArgs false
set_option linter.unusedVariables false
namespace Go.Proofs.YtnogfoojjaainaaGreatDoor
open Go Go.Abs
section
attribute [local irreducible] Ev PWp
set_option maxRecDepth 10000
set_option maxHeartbeats 4000000
theorem adK :ptR none= .tup [(vi (0)),(vb (false))]:=rfl
theorem nI (g:Int):ptR (some g)= .tup [(vi (g)),(vb (true))]:=rfl
theorem aeI (b:Bs) (k:Int) (m:Su) (above:Int) (all:Bool) (r:∀l∈aF b k,eU l m.by_) (hl:(aF b k).length<4611686018427387904):PF Tryz.prog 50 [.agg (bsC b),(vi (k)), .agg m.cells,(vi (above)),(vb (all))] (ptR (gQ (aF b k) m.by_ above all)):=by
 have n:=afF b k;generalize aF b k=L at*;have p:(L.map Ln.cells).length=L.length:=zql _;refine pF Tryz.func50 rfl (λst=> ?_)
 focus ((repeat' first|apply wZ;rfl|show Cn _;constructor|(apply n)|apply wY;rfl))
 refine aC (X:={x:Nat//x<=L.length}) (λi=>((((((((St.nil 58 st).pv 3 ((vi (above)))).pv 4 ((vb (all)))).var 7 74 (m.cells)).pv 12 ((vi ((gQ (L.take i.1) m.by_ above all).getD 0)))).pv 13 ((vb ((gQ (L.take i.1) m.by_ above all).isSome)))).pv 14 (.seq (L.map Ln.cells))).pv 15 ((vi ((i.1:Nat)))))) (λi=>L.length-i.1) ⟨0,by omega⟩ ?_ (λi=> ?_)
 ·(repeat' first|show Cn _;constructor|exact rfl)
 obtain ⟨i,hi⟩:=i;dsimp only;by_cases f:L.length<=i
 ·rw [ztl f]
  (repeat' first|apply wZ;rfl|show Cn _;constructor|exact rfl|omega|(intro h;simp at h))
 have d:i<L.length:=by omega
 have a:=aED (c:=m.by_) (above:=above) (all:=all) d;have hp:=alQ L[i] m.by_ (r _ (zgm d));generalize gQ (L.take i) m.by_ above all=o at*;cases j:ptP L[i] m.by_ with
 |none=>
  rw [j] at hp a;rw [adK] at hp;have e:gQ (L.take (i+1)) m.by_ above all=o:=a
  (repeat' first|refine ⟨⟨i+1,d⟩, ?_, ?_⟩;((dsimp only;rw [e]))|apply wZ;rfl|show Cn _;constructor|exact rfl|apply KR.mk;kernel_rfl|(apply hp)|apply wY;rfl|apply wI;rfl|apply gE;omega|omega|simp only [zql];omega|(intro h;simp at h))
 |some g=>
  rw [j] at hp a;rw [nI] at hp;unfold aiE at a;dsimp only at a;by_cases hc:(all=true\/g>above)/\(o=none\/g<o.getD 0)
  ·rw [zp hc] at a
   obtain ⟨c1,c2⟩:=hc;cases o with
   |none=>
    (repeat' first|refine ⟨⟨i+1,d⟩, ?_, ?_⟩;((dsimp only;rw [a]))|apply wZ;rfl|show Cn _;constructor|exact rfl|apply KR.mk;kernel_rfl|(apply hp)|show _=_;(simp)|apply wY;rfl|apply wI;rfl|apply gE;omega|omega|simp only [zql];omega|((exfalso;rcases c1 with q|q<;>simp_all<;>omega))|(intro h;simp at h))
   |some w=>
    have c2:g<w:=by rcases c2 with q|q;cases q;exact q
    (repeat' first|refine ⟨⟨i+1,d⟩, ?_, ?_⟩;((dsimp only;rw [a]))|apply wZ;rfl|show Cn _;constructor|exact rfl|apply KR.mk;kernel_rfl|(apply hp)|show _=_;(simp)|apply wY;rfl|apply wI;rfl|apply gE;omega|omega|simp only [zql];omega|((exfalso;rcases c1 with q|q<;>simp_all<;>omega))|(intro h;simp at h))
  ·rw [zn hc] at a
   cases o with
   |none=>
    have c1:¬(all=true\/g>above):=λq=>hc ⟨q, .inl rfl⟩
    (repeat' first|refine ⟨⟨i+1,d⟩, ?_, ?_⟩;((dsimp only;rw [a]))|apply wZ;rfl|show Cn _;constructor|exact rfl|apply KR.mk;kernel_rfl|(apply hp)|show _=_;(simp)|apply wY;rfl|apply wI;rfl|apply gE;omega|omega|simp only [zql];omega|exfalso;apply c1;simp_all;done|(intro h;simp at h))
   |some w=>
    have c1:¬((all=true\/g>above)/\g<w):=λq=>hc ⟨q.1, .inr q.2⟩
    (repeat' first|refine ⟨⟨i+1,d⟩, ?_, ?_⟩;((dsimp only;rw [a]))|apply wZ;rfl|show Cn _;constructor|exact rfl|apply KR.mk;kernel_rfl|(apply hp)|show _=_;(simp)|apply wY;rfl|apply wI;rfl|apply gE;omega|omega|simp only [zql];omega|exfalso;apply c1;simp_all;done|(intro h;simp at h))
theorem aBI (b c:Bs) (k:Int) (m:Su) (above:Int) (all:Bool) (n:∀l∈aF b k,eU l m.by_) (hl:(aF b k).length<4611686018427387904) (j:∀l∈aF c k,eU l m.by_) (f:(aF c k).length<4611686018427387904):PF Tryz.prog 25 [.agg (bsC b), .agg (bsC c),(vi (k)), .agg m.cells,(vi (above)),(vb (all))] (ptR (ahX (gQ (aF b k) m.by_ above all) (gQ (aF c k) m.by_ above all))):=by
 have d:=aeI b k m above all n hl;have a:=aeI c k m above all j f;generalize gQ (aF b k) m.by_ above all=A at*;generalize gQ (aF c k) m.by_ above all=B at*;cases A with
 |none=>
  rw [show ahX none B=B from rfl];rw [adK] at d;unfold ptR at a⊢;generalize B.isSome=i at*;generalize B.getD 0=g at*;refine pF Tryz.func25 rfl (λst=> ?_)
  (repeat' first|apply wZ;rfl|show Cn _;constructor|exact rfl|((first|apply d|apply a))|apply wY;rfl)
 |some x=>
  rw [nI] at d;cases B with
  |none=>
   rw [show ahX (some x) none=some x from rfl];rw [adK] at a;rw [nI];refine pF Tryz.func25 rfl (λst=> ?_)
   (repeat' first|apply wZ;rfl|show Cn _;constructor|exact rfl|((first|apply d|apply a))|apply wY;rfl)
  |some y=>
   rw [nI] at a;rw [show ahX (some x) (some y)=if x<y then some x else some y from rfl];by_cases e:x<y
   ·rw [zp e,nI]
    refine pF Tryz.func25 rfl (λst=> ?_)
    (repeat' first|apply wZ;rfl|show Cn _;constructor|exact rfl|((first|apply d|apply a))|apply wY;rfl|omega|intro h)
   ·rw [zn e,nI]
    refine pF Tryz.func25 rfl (λst=> ?_)
    (repeat' first|apply wZ;rfl|show Cn _;constructor|exact rfl|((first|apply d|apply a))|apply wY;rfl|omega|(intro h;simp at h))
theorem aES {s:Sc} {was is:Bs} (d:CkB 200 s was) (g:CkB 200 s is) (u:bC T.rightP s was=true) (v:bC T.rightP s is=true) (st:aD):
  PC Tryz.prog 8 [.agg (scC s), .agg (bsC was), .agg (bsC is)] st λr S=>∃id,r= .vec id 4 0 ((List.range s.length).flatMap (sumK s was is)).length/\st id=none/\S=upd st id (some (.arr 32 (((List.range s.length).flatMap (sumK s was is)).map s4C))):=by
 have K:=iJ d.bs d.hn d.sb d.len
 have L:=iJ g.bs g.hn g.sb g.len
 rw [u] at K
 rw [v] at L
 obtain ⟨⟨C,e1⟩,_⟩:=aT.1 u
 obtain ⟨⟨_,e2⟩,_⟩:=aT.1 v
 have hsl:=jQ C
 have hml:(s.map Tb.cells).length=s.length:=zql _
 have p:=λk:Int=>(d.bs.lines k).1
 have q:=λk:Int=>(g.bs.lines k).1
 have H:=λk i=>xH (s:=s) (was:=was) (is:=is) p q k i
 have V:∀k<s.length,(sumK s was is k).length<=6400:=λk hk=>by
  unfold sumK
  have:=iH (f:=sumI s was is k) (List.range s[k]!.sums.length) λi _=>H k i
  rw [List.length_range,getElem!_pos s k hk] at this
  have:=(lD C hk).2.2.2.2
  rw [getElem!_pos s k hk]
  omega
 have W:∀i≤s.length,((List.range i).flatMap (sumK s was is)).length<=6400*16:=λi hi=>by
  have:=iH (f:=sumK s was is) (List.range i) λk hk=>V k (by have:=List.mem_range.1 hk;omega)
  rw [List.length_range] at this
  omega
 refine pC Tryz.func8 rfl ?_
 focus ((repeat' first|(apply Cn.cf;focus (((first|apply K|apply L));done))|apply wZ;rfl|show Cn _;constructor|apply wY;rfl))
 refine eB 7 32 4 rfl rfl rfl (λid a=> ?_)
 have a:st id=none:=a
 refine aC (X:={x:Nat×Nat//x.1<=s.length/\st x.2=none}) (λi=>((((((St.nil 93 (upd st i.1.2 (some (.arr 32 (((List.range i.1.1).flatMap (sumK s was is)).map s4C))))).var 3 24 ((scC s))).var 4 27 ((bsC was))).var 5 27 ((bsC is))).pv 7 (.vec i.1.2 4 0 ((List.range i.1.1).flatMap (sumK s was is)).length)).pv 8 ((vi ((i.1.1:Nat)))))) (λi=>s.length-i.1.1) ⟨(0,id),by simp,a⟩ ?_ (λi=> ?_)
 ·dsimp only
  (repeat' first|show Cn (.t _ _);exact Cn.t0|show Cn _;constructor|exact rfl)
 obtain ⟨⟨i,id⟩,hi,a⟩:=i
 simp only at hi a
 dsimp only
 by_cases hend:s.length<=i
 ·obtain rfl:i=s.length:=by omega
  (repeat' first|show Cn (.r _ _ _);refine .rr ?_;(exact ⟨id,rfl,a,rfl⟩);done|apply wZ;rfl|show Cn _;constructor|omega|(intro h;simp at h))
 have hk:i<s.length:=by omega
 have k1:i<was.length:=by omega
 have k2:i<is.length:=by omega
 have Q:=oZ (sumK s was is) i
 have hO:=W i hi
 have U:sumK s was is i=(List.range s[i].sums.length).flatMap (sumI s was is i):=by unfold sumK;rw [getElem!_pos s i hk]
 have hsn:=(lD C hk).2.2.2.2
 have Y:∀y≤s[i].sums.length,((List.range y).flatMap (sumI s was is i)).length<=6400:=λy hy=>by
  have:=iH (f:=sumI s was is i) (List.range y) λj _=>H i j
  rw [List.length_range] at this
  omega
 rw [U] at Q
 generalize (List.range i).flatMap (sumK s was is)=A at*
 focus ((repeat' first|apply wZ;rfl|show Cn _;constructor|omega|(intro h;simp at h)))
 refine aC (X:={x:Nat×Nat//x.1<=s[i].sums.length/\st x.2=none}) (λy=>(((((((St.nil 93 (upd st y.1.2 (some (.arr 32 ((A++(List.range y.1.1).flatMap (sumI s was is i)).map s4C))))).var 3 24 ((scC s))).var 4 27 ((bsC was))).var 5 27 ((bsC is))).pv 7 (.vec y.1.2 4 0 (A++(List.range y.1.1).flatMap (sumI s was is i)).length)).pv 8 ((vi ((i:Nat))))).pv 9 ((vi ((y.1.1:Nat)))))) (λy=>s[i].sums.length-y.1.1) ⟨(0,id),by simp,a⟩ ?_ (λy=> ?_)
 ·dsimp only
  rw [show A++(List.range 0).flatMap (sumI s was is i)=A from by simp]
  (repeat' first|show Cn (.t _ _);exact Cn.t0|show Cn _;constructor|exact rfl)
 obtain ⟨⟨y,id⟩,hy,a⟩:=y
 simp only at hy a
 dsimp only
 by_cases Z:s[i].sums.length<=y
 ·obtain rfl:y=s[i].sums.length:=by omega
  (repeat' first|refine ⟨⟨(i+1,id),by simp only;omega,a⟩, ?_, ?_⟩;((dsimp only;rw [Q]))|apply wZ;rfl|show Cn _;constructor|exact rfl|apply wI;rfl|apply gE;omega|omega|simp only [zql];omega|(intro h;simp at h))
 have F:y<s[i].sums.length:=by omega
 have o:=oZ (sumI s was is i) y
 have hA:=Y y hy
 have hDl:(iR (gG was i s[i].sums[y]++gG is i s[i].sums[y])).length<=400:=by
  have q2:=zC (gG was i s[i].sums[y]++gG is i s[i].sums[y]);rw [zla] at q2;have q3:=List.length_filterMap_le (λl=>ptP l s[i].sums[y].by_) (aF was (i:Int));have q4:=List.length_filterMap_le (λl=>ptP l s[i].sums[y].by_) (aF is (i:Int));have q5:=p (i:Int);have q6:=q (i:Int);unfold gG at q2⊢;omega
 have R:sumI s was is i y=(iR (gG was i s[i].sums[y]++gG is i s[i].sums[y])).filterMap (moreS s was is i y):=by unfold sumI;rw [getElem!_pos s i hk,getElem!_pos s[i].sums y F]
 rw [R] at o
 have M:∀l∈aF was (i:Int),eU l s[i].sums[y].by_:=by rw [gH k1];exact akO u hk (zgm F)
 have N:∀l∈aF is (i:Int),eU l s[i].sums[y].by_:=by rw [gH k2];exact akO v hk (zgm F)
 have J:=λabove all=>aBI was is (i:Int) s[i].sums[y] above all M (by have:=p (i:Int);omega) N (by have:=q (i:Int);omega)
 generalize hD:iR (gG was i s[i].sums[y]++gG is i s[i].sums[y])=D at*
 have w:=J 0 true
 rw [axK hD (j:=0) (.inl ⟨rfl,rfl⟩)] at w
 have hnz:∀z (h:z<D.length),PF Tryz.prog 25 [.agg (bsC was), .agg (bsC is),(vi ((i:Nat))), .agg s[i].sums[y].cells,(vi (D[z])),(vb (false))] (ptR D[z+1]?):=λz h=>by
  have:=J D[z] false
  rw [axK hD (j:=z+1) (.inr ⟨rfl,by omega,by rw [Nat.add_sub_cancel,zgg h]⟩)] at this
  exact this
 generalize (List.range y).flatMap (sumI s was is i)=B at*
 unfold ptR at w
 focus ((repeat' first|(apply Cn.cf;focus ((apply w);done))|apply wZ;rfl|show Cn _;constructor|exact rfl|apply wY;rfl|apply wI;rfl|apply gE;omega|simp only [zql];omega|(intro h;simp at h)))
 refine aC (X:={x:Nat×Nat//x.1<=D.length/\st x.2=none}) (λz=>((((((((((St.nil 93 (upd st z.1.2 (some (.arr 32 ((A++B++(D.take z.1.1).filterMap (moreS s was is i y)).map s4C))))).var 3 24 ((scC s))).var 4 27 ((bsC was))).var 5 27 ((bsC is))).pv 7 (.vec z.1.2 4 0 (A++B++(D.take z.1.1).filterMap (moreS s was is i y)).length)).pv 8 ((vi ((i:Nat))))).pv 9 ((vi ((y:Nat))))).var 10 74 (s[i].sums[y].cells)).pv 11 ((vi (D[z.1.1]?.getD 0)))).pv 12 ((vb (D[z.1.1]?.isSome))))) (λz=>D.length-z.1.1) ⟨(0,id),by simp,a⟩ ?_ (λz=> ?_)
 ·dsimp only
  rw [show A++B++(D.take 0).filterMap (moreS s was is i y)=A++B from by simp]
  (repeat' first|show Cn (.t _ _);exact Cn.t0|show Cn _;constructor|exact rfl)
 obtain ⟨⟨z,id⟩,hz,a⟩:=z
 simp only at hz a
 dsimp only
 have hll:=List.length_filterMap_le (moreS s was is i y) (D.take z)
 rw [zlt] at hll
 by_cases hend2:D.length<=z
 ·obtain rfl:z=D.length:=by omega
  rw [List.take_length,List.append_assoc,<-o,List.getElem?_eq_none (Nat.le_refl _)]
  (repeat' first|refine ⟨⟨(y+1,id),by simp only;omega,a⟩, ?_, ?_⟩;((dsimp only))|apply wZ;rfl|show Cn _;constructor|exact rfl|omega|simp only [zql];omega)
 have G:z<D.length:=by omega
 have m:=hnz z G
 have O:=zO g (i:Int) (y:Int) D[z]
 have P:=zO d (i:Int) (y:Int) D[z]
 obtain ⟨b1,b2⟩:=oJ (s:=s) (b:=is) i y D[z]
 obtain ⟨b3,b4⟩:=oJ (s:=s) (b:=was) i y D[z]
 have c:=ajE (f:=moreS s was is i y) G
 rw [zgg G]
 unfold ptR at m
 by_cases n:totC s is (i:Int) (y:Int) D[z]-totC s was (i:Int) (y:Int) D[z]≠0
 ·have e:moreS s was is i y D[z]=some ((i:Int),(y:Int),D[z],totC s is (i:Int) (y:Int) D[z]-totC s was (i:Int) (y:Int) D[z]):=by unfold moreS;rw [zp n]
  rw [e] at c;dsimp only at c;generalize totC s is (i:Int) (y:Int) D[z]=V1 at*;generalize totC s was (i:Int) (y:Int) D[z]=V2 at*;generalize (D.take z).filterMap (moreS s was is i y)=E at*
  (repeat' first|refine ⟨⟨(z+1,id'),by simp only;omega,cE I⟩, ?_, ?_⟩;((dsimp only;rw [c,<-List.append_assoc]))|show Cn (.t _ _);exact .any (bH ‹_›)|apply wZ;rfl|show Cn _;constructor|exact rfl|apply KR.mk;kernel_rfl|((first|apply O|apply P|apply m))|show _=_;((simp;omega))|(apply apV pk (f:=s4C) [((i:Int),(y:Int),D[z],V1-V2)] 32;(iterate 9 rfl);(exact aA _ _ _);(omega);exact λ_=>rfl;exact λ_=>rfl;exact azP;((focus (simp;omega)));((focus (simp;omega)));rfl;intro id' I)|apply wY;rfl|omega|simp only [zql];omega|intro h)
 ·have e:moreS s was is i y D[z]=none:=by unfold moreS;rw [zn n]
  rw [e] at c;dsimp only at c;rw [List.append_nil] at c;have n:=zdn n;generalize totC s is (i:Int) (y:Int) D[z]=V1 at*;generalize totC s was (i:Int) (y:Int) D[z]=V2 at*
  (repeat' first|refine ⟨⟨(z+1,id),by simp only;omega,a⟩, ?_, ?_⟩;((dsimp only;rw [c]))|apply wZ;rfl|show Cn _;constructor|exact rfl|apply KR.mk;kernel_rfl|((first|apply O|apply P|apply m))|apply wY;rfl|omega|simp only [zql];omega|intro h)
theorem anE {s:Sc} {was is:Bs} (a:CkB 200 s was) (b:CkB 200 s is):PF Tryz.prog 8 [.agg (scC s), .agg (bsC was), .agg (bsC is)] (.seq ((sumsP s was is).map s4C)):=by
 unfold sumsP;by_cases hb:bC T.rightP s was=true/\bC T.rightP s is=true
 ·rw [zp hb]
  exact λst=>fB (sz:=4) (aES a b hb.1 hb.2 st) λp st' h=>by
   obtain ⟨id,rfl,e,rfl⟩:=h
   exact .inl ⟨id,32,((List.range s.length).flatMap (sumK s was is)).map s4C,_,st,aA _ _ _,axN,eP (by simp),bT e,rfl,rfl⟩
 ·rw [zn hb]
  have c:=iJ a.bs a.hn a.sb a.len;have d:=iJ b.bs b.hn b.sb b.len;generalize bC T.rightP s was=X at*;generalize bC T.rightP s is=Y at*;refine pF Tryz.func8 rfl (λst=> ?_)
  (repeat' first|exact Cn.any ⟨_,_,_,rfl,awR,zsr _,rfl,rfl⟩|apply wZ;rfl|show Cn _;constructor|((first|apply c|apply d))|apply wY;rfl|exfalso;simp_all;done|(intro h;simp at h))
end
section
attribute [local irreducible] Ev PWp
set_option maxRecDepth 10000
set_option maxHeartbeats 4000000
theorem CkB.up {n m:Nat} {s:Sc} {b:Bs} (h:CkB n s b) (a:n<=m) (hm:m<=1000):CkB m s b:=⟨h.sb,h.len,h.col,h.chk,⟨h.bs.1,λd hd=>⟨Nat.le_trans (h.bs.2 d hd).1 a,(h.bs.2 d hd).2⟩⟩,hm⟩
theorem auQ {s:Sc} {was is:Bs} (b:CkB 200 s was) (c:CkB 200 s is):(sumsP s was is).length<=102400:=by
 unfold sumsP;split
 ·rename_i hb
  obtain ⟨⟨a,_⟩,_⟩:=aT.1 hb.1;have g:=jQ a;have d:=λk i=>xH (s:=s) (was:=was) (is:=is) (λk:Int=>(b.bs.lines k).1) (λk:Int=>(c.bs.lines k).1) k i;have e:∀k<s.length,(sumK s was is k).length<=6400:=λk hk=>by
   unfold sumK
   have:=iH (f:=sumI s was is k) (List.range s[k]!.sums.length) λi _=>d k i
   rw [List.length_range,getElem!_pos s k hk] at this
   have:=(lD a hk).2.2.2.2
   rw [getElem!_pos s k hk]
   omega
  have:=iH (f:=sumK s was is) (List.range s.length) λk hk=>e k (List.mem_range.1 hk);rw [List.length_range] at this;omega
 ·simp
section
variable (hA:PF Tryz.prog 6 [] (vb (true)))
include hA
theorem afV (s:Sc) (was is:Bs) (hs:ScG s) (hw:BsB was) (hi:BsB is):PF Tryz.prog 3 [.agg (scC s), .agg (bsC was), .agg (bsC is)] (vb (true)):=by
 have d:=aiK s was hs.l hs.b hs.k hw;have e:=aiK s is hs.l hs.b hs.k hi;by_cases g:¬(fewC s was=true/\fewC s is=true)
 ·generalize fewC s was=F at*
  generalize fewC s is=G at*;refine pF Tryz.func3 rfl (λst=> ?_)
  (repeat' first|apply wZ;rfl|show Cn _;constructor|exact rfl|apply KR.mk;kernel_rfl|((first|apply hA|apply d|apply e))|apply wY;rfl|exfalso;simp_all;done|(intro h;simp at h))
 obtain ⟨j,n⟩:=zdn g;have a:=(CkB.of j hs.b hs.k).up (m:=200) (by decide) (by decide);have c:=(CkB.of n hs.b hs.k).up (m:=200) (by decide) (by decide);have p:=auQ a c;have r:=uV a c;have t:=anE a c;rw [j] at d;rw [n] at e;generalize sumsP s was is=L at*;have q:(L.map s4C).length=L.length:=zql _;refine pF Tryz.func3 rfl (λst=> ?_)
 focus ((repeat' first|apply wZ;rfl|show Cn _;constructor|apply KR.mk;kernel_rfl|((first|apply d|apply e|apply r|apply t))|apply wY;rfl|omega|(intro h;simp at h)))
 refine aC (X:={x:Nat//x<=L.length}) (λi=>(((((St.nil 50 st).pv 7 (.seq (L.map s4C))).pv 8 (.seq (L.map s4C))).pv 35 ((vi ((L.length:Nat))))).pv 36 ((vi ((i.1:Nat)))))) (λi=>L.length-i.1) ⟨0,by omega⟩ ?_ (λi=> ?_)
 ·(repeat' first|show Cn _;constructor|exact rfl|rw [zql])
 obtain ⟨i,hi⟩:=i;dsimp only;by_cases o:L.length<=i
 ·(repeat' first|apply wZ;rfl|show Cn _;constructor|exact rfl|(apply hA)|apply wY;rfl|omega|(intro h;simp at h))
 have f:i<L.length:=by omega
 (repeat' first|(refine ⟨⟨i+1,f⟩, ?_, ?_⟩)|apply wZ;rfl|show Cn _;constructor|exact rfl|apply KR.mk;kernel_rfl|apply wI;rfl|apply gE;omega|omega|simp only [zql];omega|intro h;simp at h;done|(intro h;simp at h))
end
end
section
attribute [local irreducible] Ev PWp
set_option maxRecDepth 10000
set_option maxHeartbeats 4000000
section
variable (hA:PF Tryz.prog 6 [] (vb (true)))
include hA
end
end
end Go.Proofs.YtnogfoojjaainaaGreatDoor
