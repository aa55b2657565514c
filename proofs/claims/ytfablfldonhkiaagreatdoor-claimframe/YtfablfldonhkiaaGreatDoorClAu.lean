import Derived.Test.YtfablfldonhkiaaGreatDoorClAt
import Derived.Test.YtfablfldonhkiaaGreatDoorAbsG
import Derived.Test.YtfablfldonhkiaaGreatDoorClAl
set_option linter.unusedSimpArgs false
set_option linter.unusedVariables false
namespace Go.Proofs.YtfablfldonhkiaaGreatDoor
open Go Go.Abs
section
attribute [local irreducible] Ev PWp
set_option maxRecDepth 10000
set_option maxHeartbeats 4000000
def s4C (x:S4):List PV:=[(vi (x.1)),(vi (x.2.1)),(vi (x.2.2.1)),(vi (x.2.2.2))]
theorem aHy :Tryz.prog.bytesOf 87=32:=by kernel_rfl
theorem aFS :Tryz.prog.cellsOf 87=4:=by kernel_rfl
theorem abU {s:Sc} {b:Bs} (k y:Nat) (g:Int): -2199023255552000<=totC s b k y g/\totC s b k y g<=2199023255552000:=by
 unfold totC;split
 ·rename_i h
  obtain ⟨a,e,c⟩:=h;rw [Int.toNat_natCast] at c⊢;rw [Int.toNat_natCast];have hk:k<s.length:=by omega
  rw [getElem!_pos s k hk] at c⊢;have hy:y<s[k].sums.length:=by omega
  rw [getElem!_pos s[k].sums y hy];have hg:aV T.rightP s b=true:=by
   unfold mayC at a;rw [zba] at a;exact a.2
  have hT:=acV hg hk (zgm hy);have hl:=hT.len;obtain ⟨f,i⟩:=xZ (m:=s[k].sums[y]) (g:=g) λr d=>(hT.num r d).1;omega
 ·omega
theorem sC {α β:Type} {f:α->List β} {c:Nat}:∀(l:List α),(∀a∈l,(f a).length<=c)->(l.flatMap f).length<=c*l.length
 |[],_=>by simp
 |a::l,h=>by
  have b:=sC l λx hx=>h x (List.mem_cons_of_mem _ hx)
  have d:=h a List.mem_cons_self
  rw [List.flatMap_cons,zla,zlc,Nat.mul_add]
  omega
theorem aqO {s:Sc} {was is:Bs} (b:∀k:Int,(aF was k).length<=200) (c:∀k:Int,(aF is k).length<=200) (k i:Nat):(sumI s was is k i).length<=400:=by
 unfold sumI;have d:=List.length_filterMap_le (moreS s was is k i) (iL (iJ was k s[k]!.sums[i]!++iJ is k s[k]!.sums[i]!));have a:=aiF (iJ was k s[k]!.sums[i]!++iJ is k s[k]!.sums[i]!);rw [zla] at a;have e:=List.length_filterMap_le (λl=>ptP l s[k]!.sums[i]!.by_) (aF was (k:Int));have f:=List.length_filterMap_le (λl=>ptP l s[k]!.sums[i]!.by_) (aF is (k:Int));have g:=b (k:Int);have h:=c (k:Int);unfold iJ at d a⊢;omega
theorem aBF {α β:Type} {f:α->Option β} {L:List α} {i:Nat} (h:i<L.length):(L.take (i+1)).filterMap f=(L.take i).filterMap f++(match f L[i] with|none=>[]|some n=>[n]):=by
 rw [List.take_succ_eq_append_getElem h,List.filterMap_append]
 congr 1
theorem aeF {β:Type} (f:Nat->List β) (i:Nat):(List.range (i+1)).flatMap f=(List.range i).flatMap f++f i:=by
 rw [List.range_succ,List.flatMap_append];simp
theorem aDc {s:Sc} {b:Bs} (hb:aV T.rightP s b=true) {k:Nat} (hk:k<s.length) {m:Su} (hm:m∈s[k].sums):∀l∈(b[k]'(by have:=(aI.1 hb).1.2;omega)).lines,fS l m.by_:=λl hl=>by
 obtain ⟨⟨a,c⟩,_⟩:=aI.1 hb
 have q:=aCx a hk hm
 exact qQ hb hk (u:=m.by_) ⟨by have:=q.b1;omega,by rw [getElem!_pos s k hk];exact q.b2,by rw [getElem!_pos s k hk];exact q.kb⟩ (by rw [dV (by omega)];exact hl)
theorem aFv :Wk (.val (.slice none 0 0)) (.seq (([]:List S4).map s4C)):=Wk.nil
theorem aHn {s:Sc} {was is:Bs} (m:CkB 200 s was) (o:CkB 200 s is) (F:aV T.rightP s was=true) (G:aV T.rightP s is=true) (st:aD):
  PC Tryz.prog 26 [.agg (scC s), .agg (bsC was), .agg (bsC is)] st λr S=>∃id,r= .vec id 4 0 ((List.range s.length).flatMap (sumK s was is)).length/\st id=none/\S=upd st id (some (.arr 87 (((List.range s.length).flatMap (sumK s was is)).map s4C))):=by
 have P:=fB m.bs m.hn m.sb m.len
 have Q:=fB o.bs o.hn o.sb o.len
 rw [F] at P
 rw [G] at Q
 obtain ⟨⟨J,e1⟩,_⟩:=aI.1 F
 obtain ⟨⟨_,e2⟩,_⟩:=aI.1 G
 have hsl:=oH J
 have hml:(s.map Tb.cells).length=s.length:=zql _
 have w:=λk:Int=>(m.bs.lines k).1
 have C:=λk:Int=>(o.bs.lines k).1
 have L:=λk i=>aqO (s:=s) (was:=was) (is:=is) w C k i
 have hKl:∀k<s.length,(sumK s was is k).length<=6400:=λk hk=>by
  unfold sumK
  have:=sC (f:=sumI s was is k) (List.range s[k]!.sums.length) λi _=>L k i
  rw [List.length_range,getElem!_pos s k hk] at this
  have:=(tX J hk).2.2.2.2
  rw [getElem!_pos s k hk]
  omega
 have hOl:∀i≤s.length,((List.range i).flatMap (sumK s was is)).length<=6400*16:=λi hi=>by
  have:=sC (f:=sumK s was is) (List.range i) λk hk=>hKl k (by have:=List.mem_range.1 hk;omega)
  rw [List.length_range] at this
  omega
 refine pC Tryz.func26 rfl ?_
 focus ((repeat' first|(apply Cn.cf;focus (((first|apply P|apply Q));done))|apply wZ;rfl|show Cn _;constructor|apply wY;rfl))
 refine fG 7 87 4 rfl rfl rfl (λid a=> ?_)
 refine aC (X:={x:Nat×Nat//x.1<=s.length/\st x.2=none}) (λi=>((((((((St.nil 88 (upd st i.1.2 (some (.arr 87 (((List.range i.1.1).flatMap (sumK s was is)).map s4C))))).var 3 24 ((scC s))).var 4 27 ((bsC was))).var 5 27 ((bsC is))).pv 7 (.vec i.1.2 4 0 ((List.range i.1.1).flatMap (sumK s was is)).length)).pv 27 (.seq (s.map Tb.cells))).pv 28 ((vi (((s.map Tb.cells).length:Nat))))).pv 29 ((vi ((i.1.1:Nat)))))) (λi=>s.length-i.1.1) ⟨(0,id),by simp,a⟩ ?_ (λi=> ?_)
 ·dsimp only
  (repeat' first|show Cn (.t _ _);exact Cn.t0|show Cn _;constructor|exact rfl)
 obtain ⟨⟨i,id⟩,hi,a⟩:=i
 simp only at hi a
 dsimp only
 by_cases hend:s.length<=i
 ·obtain rfl:i=s.length:=by omega
  (repeat' first|show Cn (.r _ _ _);refine .rr ?_;(exact ⟨id,rfl,a,rfl⟩);done|apply wZ;rfl|show Cn _;constructor|omega|(intro h;simp at h))
 have hk:i<s.length:=by omega
 have k1:i<was.length:=by omega
 have k2:i<is.length:=by omega
 have Y:=aeF (sumK s was is) i
 have hO:=hOl i hi
 have hKi:sumK s was is i=(List.range s[i].sums.length).flatMap (sumI s was is i):=by unfold sumK;rw [getElem!_pos s i hk]
 have hsn:=(tX J hk).2.2.2.2
 have hSl:∀y≤s[i].sums.length,((List.range y).flatMap (sumI s was is i)).length<=6400:=λy hy=>by
  have:=sC (f:=sumI s was is i) (List.range y) λj _=>L i j
  rw [List.length_range] at this
  omega
 rw [hKi] at Y
 generalize (List.range i).flatMap (sumK s was is)=A at*
 focus ((repeat' first|apply wZ;rfl|show Cn _;constructor|exact rfl|apply wI;rfl|apply gE;omega|omega|(intro h;simp at h)))
 refine aC (X:={x:Nat×Nat//x.1<=s[i].sums.length/\st x.2=none}) (λy=>((((((((((((St.nil 88 (upd st y.1.2 (some (.arr 87 ((A++(List.range y.1.1).flatMap (sumI s was is i)).map s4C))))).var 3 24 ((scC s))).var 4 27 ((bsC was))).var 5 27 ((bsC is))).pv 7 (.vec y.1.2 4 0 (A++(List.range y.1.1).flatMap (sumI s was is i)).length)).pv 8 ((vi ((i:Nat))))).pv 27 (.seq (s.map Tb.cells))).pv 28 ((vi (((s.map Tb.cells).length:Nat))))).pv 29 ((vi ((i:Nat))))).pv 35 (.seq (s[i].sums.map Su.cells))).pv 36 ((vi (((s[i].sums.map Su.cells).length:Nat))))).pv 37 ((vi ((y.1.1:Nat)))))) (λy=>s[i].sums.length-y.1.1) ⟨(0,id),by simp,a⟩ ?_ (λy=> ?_)
 ·dsimp only
  rw [show A++(List.range 0).flatMap (sumI s was is i)=A from by simp]
  (repeat' first|show Cn (.t _ _);exact Cn.t0|show Cn _;constructor|exact rfl)
 obtain ⟨⟨y,id⟩,hy,a⟩:=y
 simp only at hy a
 dsimp only
 by_cases hend1:s[i].sums.length<=y
 ·obtain rfl:y=s[i].sums.length:=by omega
  (repeat' first|refine ⟨⟨(i+1,id),by simp only;omega,a⟩, ?_, ?_⟩;((dsimp only;rw [Y]))|apply wZ;rfl|show Cn _;constructor|exact rfl|omega|simp only [zql];omega|(intro h;simp at h))
 have K:y<s[i].sums.length:=by omega
 have v:=aeF (sumI s was is i) y
 have hA:=hSl y hy
 have hDl:(iL (iJ was i s[i].sums[y]++iJ is i s[i].sums[y])).length<=400:=by
  have q2:=aiF (iJ was i s[i].sums[y]++iJ is i s[i].sums[y]);rw [zla] at q2;have q3:=List.length_filterMap_le (λl=>ptP l s[i].sums[y].by_) (aF was (i:Int));have q4:=List.length_filterMap_le (λl=>ptP l s[i].sums[y].by_) (aF is (i:Int));have q5:=w (i:Int);have q6:=C (i:Int);unfold iJ at q2⊢;omega
 have hIi:sumI s was is i y=(iL (iJ was i s[i].sums[y]++iJ is i s[i].sums[y])).filterMap (moreS s was is i y):=by unfold sumI;rw [getElem!_pos s i hk,getElem!_pos s[i].sums y K]
 rw [hIi] at v
 have hg1:=zK k1 s[i].sums[y] (aDc F hk (zgm K)) (by have:=(m.bs.2 _ (zgm k1)).1;omega)
 have hg2:=zK k2 s[i].sums[y] (aDc G hk (zgm K)) (by have:=(o.bs.2 _ (zgm k2)).1;omega)
 have hgl1:(iJ was i s[i].sums[y]).length<=200:=by
  have q3:=List.length_filterMap_le (λl=>ptP l s[i].sums[y].by_) (aF was (i:Int));have q5:=w (i:Int);unfold iJ;omega
 have hgl2:(iJ is i s[i].sums[y]).length<=200:=by
  have q3:=List.length_filterMap_le (λl=>ptP l s[i].sums[y].by_) (aF is (i:Int));have q5:=C (i:Int);unfold iJ;omega
 generalize (List.range y).flatMap (sumI s was is i)=B at*
 generalize iJ was i s[i].sums[y]=d at*
 generalize iJ is i s[i].sums[y]=g at*
 have M:=aAA d g (by omega) (upd st id (some (.arr 87 ((A++B).map s4C))))
 have I:=aGc (d++g)
 have O:((d++g).mergeSort λx y=>decide (x<=y)).toArray.size=d.length+g.length:=by simp
 rw [zla] at I
 generalize hD:iL (d++g)=D at*
 focus ((repeat' first|apply wD pk [9] [];kernel_rfl;rfl;rfl|(apply wY;rfl;rotate_left;apply Cn.cf;focus (((first|apply hg1|apply hg2));done))|(apply wY;rfl;rotate_left;apply cP;rfl;(apply M);rintro _ st' (⟨ida,rfl,hida,rfl⟩))|apply wZ;rfl|show Cn _;constructor|exact rfl|apply wI;rfl|apply gE;omega|simp only [zql];omega|(intro h;simp at h)))
 have R:((d++g).mergeSort λx y=>decide (x<=y)).length=d.length+g.length:=by simp
 have U:=ahO (d++g) (st:=upd (upd st id (some (.arr 87 ((A++B).map s4C)))) ida (some (.arr 3 ((d++g).map I1)))) (id:=ida) (n:=d.length+g.length) (aA _ _ _) (by simp) (by omega)
 have H:=aqU ((d++g).mergeSort λx y=>decide (x<=y)).toArray (st:=upd (upd (upd st id (some (.arr 87 ((A++B).map s4C)))) ida (some (.arr 3 ((d++g).map I1)))) ida (some (.arr 3 (((d++g).mergeSort λx y=>decide (x<=y)).map I1)))) (id:=ida) (n:=d.length+g.length) (aA _ _ _) O (by omega)
 rw [I] at H
 clear I O R
 generalize ((d++g).mergeSort λx y=>decide (x<=y))=Z at*
 focus ((repeat' first|(apply cP;rfl;(apply U);rintro _ st' (rfl))|(apply cP;rfl;(apply H);rintro _ st' (⟨rfl,rows,rfl,hrl,hrt⟩))|apply wZ;rfl|show Cn _;constructor|apply wY;rfl))
 have c:upd st id (some (.arr 87 ((A++B).map s4C))) ida=none:=hida
 have u:StSub (upd st id (some (.arr 87 ((A++B++(D.take 0).filterMap (moreS s was is i y)).map s4C)))) (upd (upd (upd (upd (upd st id (some (.arr 87 ((A++B).map s4C)))) ida (some (.arr 3 ((d++g).map I1)))) ida (some (.arr 3 (Z.map I1)))) ida (some (.arr 3 rows))) ida none):=by
  have e0:(A++B++(D.take 0).filterMap (moreS s was is i y))=A++B:=by simp
  rw [e0];exact aU (aU (aU (aU (zsr _) c) c) c) c
 refine amS 55 rfl (aA _ _ _) asW hrt ?_
 refine aC (X:={x:Nat×Nat//x.1<=D.length/\st x.2=none}) (λz=>((((((((((((((((St.nil 88 (upd st z.1.2 (some (.arr 87 ((A++B++(D.take z.1.1).filterMap (moreS s was is i y)).map s4C))))).var 3 24 ((scC s))).var 4 27 ((bsC was))).var 5 27 ((bsC is))).pv 7 (.vec z.1.2 4 0 (A++B++(D.take z.1.1).filterMap (moreS s was is i y)).length)).pv 8 ((vi ((i:Nat))))).pv 10 ((vi ((y:Nat))))).pv 27 (.seq (s.map Tb.cells))).pv 28 ((vi (((s.map Tb.cells).length:Nat))))).pv 29 ((vi ((i:Nat))))).pv 35 (.seq (s[i].sums.map Su.cells))).pv 36 ((vi (((s[i].sums.map Su.cells).length:Nat))))).pv 37 ((vi ((y:Nat))))).pv 55 (.seq (D.map I1))).pv 56 ((vi ((D.length:Nat))))).pv 57 ((vi ((z.1.1:Nat)))))) (λz=>D.length-z.1.1) ⟨(0,id),by simp,a⟩ ?_ (λz=> ?_)
 ·dsimp only
  (repeat' first|exact .any u|show Cn _;constructor|exact rfl|simp)
 clear u c hrt hrl U H
 obtain ⟨⟨z,id⟩,hz,a⟩:=z
 simp only at hz a
 dsimp only
 have hll:=List.length_filterMap_le (moreS s was is i y) (D.take z)
 rw [zlt] at hll
 by_cases hend2:D.length<=z
 ·obtain rfl:z=D.length:=by omega
  rw [List.take_length,List.append_assoc,<-v]
  (repeat' first|refine ⟨⟨(y+1,id),by simp only;omega,a⟩, ?_, ?_⟩;((dsimp only))|apply wZ;rfl|show Cn _;constructor|exact rfl|omega|simp only [zql];omega|(intro h;simp at h))
 have hzl:z<D.length:=by omega
 have V:=aeS o (i:Int) (y:Int) D[z]
 have W:=aeS m (i:Int) (y:Int) D[z]
 obtain ⟨b1,b2⟩:=abU (s:=s) (b:=is) i y D[z]
 obtain ⟨b3,b4⟩:=abU (s:=s) (b:=was) i y D[z]
 have p:=aBF (f:=moreS s was is i y) hzl
 by_cases q:totC s is (i:Int) (y:Int) D[z]-totC s was (i:Int) (y:Int) D[z]≠0
 ·have e:moreS s was is i y D[z]=some ((i:Int),(y:Int),D[z],totC s is (i:Int) (y:Int) D[z]-totC s was (i:Int) (y:Int) D[z]):=by unfold moreS;rw [zp q]
  rw [e] at p;dsimp only at p;generalize totC s is (i:Int) (y:Int) D[z]=V1 at*;generalize totC s was (i:Int) (y:Int) D[z]=V2 at*;generalize (D.take z).filterMap (moreS s was is i y)=E at*
  (repeat' first|refine ⟨⟨(z+1,id'),by simp only;omega,dG N⟩, ?_, ?_⟩;((dsimp only;rw [p,<-List.append_assoc]))|show Cn (.t _ _);exact .any (bR ‹_›)|apply wZ;rfl|show Cn _;constructor|exact rfl|apply KR.mk;kernel_rfl|((first|apply V|apply W))|show _=_;((simp;omega))|(apply apV pk (f:=s4C) [((i:Int),(y:Int),D[z],V1-V2)] 32;(iterate 9 rfl);(exact aA _ _ _);(omega);exact λ_=>rfl;exact λ_=>rfl;exact aHy;((focus (simp;omega)));((focus (simp;omega)));rfl;intro id' N)|apply wY;rfl|apply wI;rfl|apply gE;omega|omega|simp only [zql];omega|(intro h;simp at h)|intro h)
 ·have e:moreS s was is i y D[z]=none:=by unfold moreS;rw [zn q]
  rw [e] at p;dsimp only at p;rw [List.append_nil] at p;have q:=zdn q;generalize totC s is (i:Int) (y:Int) D[z]=V1 at*;generalize totC s was (i:Int) (y:Int) D[z]=V2 at*
  (repeat' first|refine ⟨⟨(z+1,id),by simp only;omega,a⟩, ?_, ?_⟩;((dsimp only;rw [p]))|apply wZ;rfl|show Cn _;constructor|exact rfl|apply KR.mk;kernel_rfl|((first|apply V|apply W))|apply wY;rfl|apply wI;rfl|apply gE;omega|omega|simp only [zql];omega|(intro h;simp at h)|intro h)
theorem aeY {s:Sc} {was is:Bs} (a:CkB 200 s was) (b:CkB 200 s is):PF Tryz.prog 26 [.agg (scC s), .agg (bsC was), .agg (bsC is)] (.seq ((sumsP s was is).map s4C)):=by
 unfold sumsP;by_cases hb:aV T.rightP s was=true/\aV T.rightP s is=true
 ·rw [zp hb]
  exact λst=>gF (sz:=4) (aHn a b hb.1 hb.2 st) λp st' h=>by
   obtain ⟨id,rfl,e,rfl⟩:=h
   exact .inl ⟨id,87,((List.range s.length).flatMap (sumK s was is)).map s4C,_,st,aA _ _ _,aFS,fW (by simp),cD e,rfl,rfl⟩
 ·rw [zn hb]
  have c:=fB a.bs a.hn a.sb a.len;have d:=fB b.bs b.hn b.sb b.len;generalize aV T.rightP s was=X at*;generalize aV T.rightP s is=Y at*;refine pF Tryz.func26 rfl (λst=> ?_)
  (repeat' first|exact Cn.any ⟨_,_,_,rfl,aFv,zsr _,rfl,rfl⟩|apply wZ;rfl|show Cn _;constructor|((first|apply c|apply d))|apply wY;rfl|exfalso;simp_all;done|(intro h;simp at h))
theorem anP {w:Wr} {s:Sc}:∀{l:List Ot} {b:Bs} {M:List P4} {o:Ot},(aR w s b l).2=0->iA w s b (l++[o]) M=nF s (aR w s b l).1 (bD w s (aR w s b l).1 o).1 (iA w s b l M)
 |[],_,_,_,_=>rfl
 |p::r,b,M,o,h=>by
  obtain ⟨_,e⟩:=lZ h
  show iA w s (bD w s b p).1 (r++[o]) _=_
  rw [anP (e▸h),e];rfl
theorem aIi {w:Wr} {s:Sc} {b:Bs} {l:List Ot} {i:Nat} {M:List P4} (hi:i<l.length) (h:(aR w s b (l.take i)).2=0):iA w s b (l.take (i+1)) M=nF s (aR w s b (l.take i)).1 (bD w s (aR w s b (l.take i)).1 l[i]).1 (iA w s b (l.take i) M):=by
 rw [List.take_succ_eq_append_getElem hi,anP h]
theorem aGW {w:Wr} {s:Sc} {b:Bs} {l:List Ot} (h:(aR w s b l).2=0) (i:Nat):(aR w s b (l.take i)).2=0:=by
 refine Decidable.byContradiction λq=> ?_;rw [aoC q] at h;exact q h
def Rg.zero :Rg:=⟨0,0,0,0,0,0⟩
theorem avW :Tryz.prog.bytesOf 86=48:=by kernel_rfl
theorem aGi :Tryz.prog.cellsOf 86=6:=by kernel_rfl
def aHE (R:List Rg×Int):PV:= .tup [.seq (R.1.map Rg.cells),(vi (R.2))]
theorem aH0 (e:Int):Wk (.tup [.val (.slice none 0 0),(vi (e))]) (aHE ([],e)):=Wk.tup (.cons Wk.nil (.cons (zwr _) .nil))
theorem aeM {st st':aD} (h:StSub st st') {j:Nat} (hj:st' j=none):st j=none:=by
 rcases h j with q|q
 ·exact q
 ·exact q.trans hj
theorem xT {st st':aD} (h:StSub st st') {id:Nat} {a:Option AObj}:StSub (upd st id a) (upd st' id a):=λj=>by
 by_cases e:j=id
 ·subst e;right;rw [aA,aA]
 ·rw [aB e,aB e];exact h j
theorem ajB (es:List (P4×Bool)) (i:Nat):(aX jN bF es).eraseIdx i=aX jN bF (es.eraseIdx i):=by unfold aX;rw [uK]
theorem auP {es:List (P4×Bool)} {i:Nat} {e:Value×PV} (h:(aX jN bF es)[i]?=some e):∃x,es[i]?=some x/\e=(jN x.1,bF x.2):=by
 unfold aX at h;rw [List.getElem?_map] at h;cases hx:es[i]? with
 |none=>rw [hx] at h;cases h
 |some x=>rw [hx] at h;exact ⟨x,rfl,(Option.some.inj h).symm⟩
theorem atY {es:List (P4×Bool)} (h:aX jN bF es=[]):es=[]:=by cases es with
 |nil=>rfl
 |cons x l=>cases h
theorem zR {α:Type}:∀{l:List α} {i:Nat} {x:α},l[i]?=some x->(x::l.eraseIdx i).Perm l
 |[],_,_,h=>by simp at h
 |a::l,0,x,h=>by simp at h;subst h;exact .refl _
 |a::l,i+1,x,h=>by
  simp only [List.getElem?_cons_succ] at h
  rw [List.eraseIdx_cons_succ]
  exact (List.Perm.swap a x _).trans ((zR h).cons a)
theorem asR {es:List (P4×Bool)} {out M:List P4} {i:Nat} {x:P4×Bool} (hx:es[i]?=some x) (h:(out++es.map (·.1)).Perm M):((out++[x.1])++(es.eraseIdx i).map (·.1)).Perm M:=by
 refine List.Perm.trans ?_ h;rw [List.append_assoc];refine List.Perm.append_left _ ?_;have:=(zR hx).map (·.1)
 simpa using this
theorem azK {st:aD} {id d e:Nat} {a b c o:Option AObj} (i:st id=none) (k:e≠id) (l:e≠d):StSub (upd (upd st d a) e o) (upd (upd (upd (upd (upd st id b) e c) e o) id none) d a):=λj=>by
 by_cases f:j=e
 ·subst f;right;rw [aA,aB l,aB k,aA]
 ·rw [aB f]
  by_cases g:j=d
  ·subst g;right;rw [aA,aA]
  ·rw [aB g,aB g]
   by_cases h:j=id
   ·subst h;left;exact i
   ·right;rw [aB h,aB f,aB f,aB h]
theorem xV {st:aD} {id g d:Nat} {a b c:AObj} (h:upd (upd (upd st id (some a)) g (some b)) g (some c) d=none):st d=none/\d≠g:=by
 have i:∀{f:aD} {x y:Nat} {o:AObj},upd f x (some o) y=none->y≠x/\f y=none:=fun {f x y o} h=>by
  by_cases e:y=x
  ·rw [e,aA] at h;cases h
  ·exact ⟨e,by rwa [aB e] at h⟩
 obtain ⟨j,k⟩:=i h;obtain ⟨b1,b2⟩:=i k;exact ⟨(i b2).2,j⟩
theorem aHc (M:List P4):(m4E M).map (·.1)=M:=by unfold m4E;rw [List.map_map];exact List.map_id M
theorem aIt (x:P4) (g:G):Rep g (.agg (p4C x)) (jN x):=by
 unfold Rep;exact ⟨abW x,rfl,zI g (abW x)⟩
theorem aKy (w:Wr) (s:Sc) (b:Bs):PF Tryz.prog 8 [.agg (scC s), .agg (bsC b), .seq [], .agg w.who.cells, .seq (w.knew.map I1)] (aHE (ofP w s b [])):=by
 have e:ofP w s b []=([],0):=by unfold ofP;rw [zp (show ([]:List Ot).length=0 from rfl)]
 rw [e];refine pF Tryz.func8 rfl (λst=> ?_)
 (repeat' first|exact Cn.any ⟨_,_,_,rfl,aH0 _,zsr _,rfl,rfl⟩|apply wZ;rfl|show Cn _;constructor)
theorem aHT {n:Nat} {w:Wr} {s:Sc} {b:Bs} {l:List Ot} (c:ScK s) (d:OpW n b) (hn:n+l.length<=20) (hk:w.knew.length<1000000000000) (hf:∀o∈l,mC o) (hl:l.length≠0) (h0:(fP w s b l).2≠0):PF Tryz.prog 8 [.agg (scC s), .agg (bsC b), .seq (l.map Ot.cells), .agg w.who.cells, .seq (w.knew.map I1)] (aHE (ofP w s b l)):=by
 have a:=nP c d hn hk hf;have e:ofP w s b l=([],(fP w s b l).2):=by unfold ofP;rw [zn hl,zp h0]
 rw [e];generalize fP w s b l=R at*;obtain ⟨B,e⟩:=R;unfold nG at a;dsimp only at a h0⊢;refine pF Tryz.func8 rfl (λst=> ?_)
 (repeat' first|exact Cn.any ⟨_,_,_,rfl,aH0 _,zsr _,rfl,rfl⟩|apply wZ;rfl|show Cn _;constructor|(apply a)|apply wY;rfl|omega|simp only [zql];omega|(intro h;simp at h)|intro h)
theorem abC {s:Sc} (h:cE s=0):aHu s:=⟨by have:=oH h;omega,λk hk=>by
 have:=tX h hk
 rw [getElem!_pos s k hk]
 omega⟩
theorem ahV {s:Sc} {was is:Bs} (b:∀k:Int,(aF was k).length<=200) (d:∀k:Int,(aF is k).length<=200):(sumsP s was is).length<=102400:=by
 unfold sumsP;split
 ·rename_i h
  have a:=(aI.1 h.1).1.1;have:=sC (f:=sumK s was is) (c:=6400) (List.range s.length) λk hk=>by
   have hk:=List.mem_range.1 hk
   unfold sumK
   have:=sC (f:=sumI s was is k) (List.range s[k]!.sums.length) λi _=>aqO b d k i
   rw [List.length_range,getElem!_pos s k hk] at this
   have:=(tX a hk).2.2.2.2
   rw [getElem!_pos s k hk]
   omega
  rw [List.length_range] at this;have:=oH a;omega
 ·simp
theorem aD2 {n:Nat} {w:Wr} {s:Sc} {b:Bs} {l:List Ot} (r:ScK s) (c:OpW n b) (hn:n+l.length<=20) (hf:∀o∈l,mC o):(ofP w s b l).1.length<=100000000:=by
 unfold ofP;split
 ·simp
 ·split
  ·simp
  ·rename_i q a
   have a:=zdn a;obtain ⟨h,i,v,k⟩:=ajF a;obtain ⟨_,e,m⟩:=eK.1 h;have d:=(aI.1 e).1.1;obtain ⟨p,f⟩:=mP m e c hf i;have g:=aiQ (abC d) (w:=w) (M:=[]) c hn hf;have t:(sumsP s b (fP w s b l).1).length<=102400:=by
    rw [k];exact ahV (λj=>by have:=(iD c j).1;omega) (λj=>by have:=(iD f j).1;omega)
   have u:=List.length_filter_le (λx:S4=>decide (x.2.2.2>0)) (sumsP s b (fP w s b l).1);dsimp only;rw [zla,zql,zql,(dC gL _).length_eq];simp only [List.length_nil] at g;omega
theorem aAE {L:List S4} {i:Nat} (h:i<L.length):(L.take (i+1)).filter (λx=>decide (x.2.2.2>0))=(L.take i).filter (λx=>decide (x.2.2.2>0))++(if L[i].2.2.2>0 then [L[i]] else []):=by
 rw [List.take_succ_eq_append_getElem h,List.filter_append]
 congr 1
 by_cases e:L[i].2.2.2>0
 ·rw [zp e];simp [e]
 ·rw [zn e];simp [e]
theorem aCZ {n:Nat} {w:Wr} {s:Sc} {b:Bs} {l:List Ot} (Z:ScK s) (O:OpW n b) (hn:n+l.length<=20) (hk:w.knew.length<1000000000000) (hf:∀o∈l,mC o) (hl:l.length≠0) (h0:(fP w s b l).2=0):PF Tryz.prog 8 [.agg (scC s), .agg (bsC b), .seq (l.map Ot.cells), .agg w.who.cells, .seq (w.knew.map I1)] (.tup [.seq ((ofP w s b l).1.map Rg.cells),(vi (0))]):=by
 intro st;have h1:=nP Z O hn hk hf;have W:=aD2 (w:=w) Z O hn hf;obtain ⟨r1,r2,r3,r4⟩:=ajF h0;obtain ⟨_,r5,r6⟩:=eK.1 r1;obtain ⟨f1,f2⟩:=mP r6 r5 O hf r2;have e:(ofP w s b l).1=(uG gL (iA w s b l [])).map rgP++((sumsP s b (aR w s b l).1).filter λx=>decide (x.2.2.2>0)).map rgS:=by unfold ofP;rw [zn hl,zn (by simp [h0]),r4]
 have hx:fP w s b l=((aR w s b l).1,0):=Prod.ext r4 h0;rw [hx] at h1;rw [e] at W⊢;have H:=λi=>aGW r2 i;have v:=λ(i:Nat) (hi:i<=l.length)=>mP r6 (l:=l.take i) r5 O (λo ho=>hf o (List.mem_of_mem_take ho)) (H i);have hnd:=aiX (w:=w) (s:=s) (l:=l) (b:=b) (M:=[]) List.nodup_nil;have hsm:∀x∈uG gL (iA w s b l []),ajI x:=λx hx=>by
  rw [(dC gL _).mem_iff,wA r6 r5 O hf r2] at hx
  rcases hx with q|q
  ·cases q
  ·exact agE r6 r5 O hf r2 q
 have hSl:(sumsP s b (aR w s b l).1).length<=102400:=ahV (λj=>by have:=(iD O j).1;omega) (λj=>by have:=(iD f2 j).1;omega);have hsums:=aeY (Z.ck (O.S (by omega)) (by omega)) (Z.ck (f2.S (by omega)) (by omega));have hall:=aiQ (abC (aI.1 r5).1.1) (w:=w) (M:=[]) O hn hf;simp only [List.length_nil] at hall;rw [zla,zql,zql] at W;have hlm:(l.map Ot.cells).length=l.length:=zql _;have p:∀i (hi:i<l.length),bD w s (aR w s b (l.take i)).1 l[i]=((aR w s b (l.take (i+1))).1,0):=λi hi=>by
  have q:=awZ hi (H i)
  have q2:=H (i+1)
  by_cases z:(bD w s (aR w s b (l.take i)).1 l[i]).2≠0
  ·rw [zp z] at q;rw [q] at q2;exact absurd q2 z
  ·rw [zn z] at q
   rw [q];exact Prod.ext rfl (zdn z)
 have hdo:∀i (hi:i<l.length),PF Tryz.prog 27 [.agg (scC s), .agg (bsC (aR w s b (l.take i)).1), .agg l[i].cells, .agg w.who.cells, .seq (w.knew.map I1)] (nG ((aR w s b (l.take (i+1))).1,0)):=λi hi=>by
  obtain ⟨q1,q2⟩:=v i (by omega)
  rw [zlt,Nat.min_eq_left (by omega)] at q2
  have q:=aEq (w:=w) (o:=l[i]) Z (n:=n+i) ⟨Z.sb,Z.len,q2,by omega,hk,hf _ (zgm hi)⟩
  unfold doP at q
  rw [zp (eK.2 ⟨(eK.1 r1).1,q1,r6⟩),p i hi] at q
  exact q
 have T:∀i (hi:i<l.length),iA w s b (l.take (i+1)) []=nF s (aR w s b (l.take i)).1 (aR w s b (l.take (i+1))).1 (iA w s b (l.take i) []):=λi hi=>by
  rw [aIi hi (H i),p i hi]
 have J:∀i (hi:i<l.length) (M:List P4) (id:Nat),_:=λi hi M id=>azX (v i (by omega)).1 (v (i+1) (by omega)).1 ((v i (by omega)).2.S (by rw [zlt];omega)) ((v (i+1) (by omega)).2.S (by rw [zlt];omega)) M st id;clear p v H;have U:(aR w s b (l.take l.length)).1=(aR w s b l).1:=by rw [List.take_length]
 have hfa:iA w s b (l.take l.length) []=iA w s b l []:=by rw [List.take_length]
 have hl2:¬l=[]:=λe=>hl (by rw [e];rfl);refine pC Tryz.func8 rfl ?_
 focus ((repeat' first|(apply mkM (enc:=jN) (f:=bF);rfl;intro idm V)|(apply Cn.cf;focus ((apply h1);done))|apply wZ;rfl|show Cn _;constructor|apply wY;rfl|omega|(intro h;simp at h)))
 have E:st idm=none:=V;clear V;refine aC (X:={x:Nat//x<=l.length}) (λi=>(((((((((((St.nil 126 (upd st idm (some (m4M (iA w s b (l.take i.1) []))))).pv 4 (.seq (w.knew.map I1))).var 5 24 ((scC s))).var 6 27 ((bsC b))).var 8 30 (w.who.cells)).var 12 27 (bsC (aR w s b l).1)).pv 14 (.mref idm)).var 15 27 (bsC (aR w s b (l.take i.1)).1)).pv 44 (.seq (l.map Ot.cells))).pv 45 ((vi ((((l.map Ot.cells)).length:Nat))))).pv 46 ((vi ((i.1:Nat)))))) (λi=>l.length-i.1) ⟨0,by omega⟩ ?_ (λi=> ?_)
 ·(repeat' first|exact .any (zsr _)|show Cn _;constructor|exact rfl)
 obtain ⟨i,hi⟩:=i;dsimp only;by_cases hend:¬l.length<=i
 ·have hil:i<l.length:=by omega
  have hd:=hdo i hil;have ht:=J i hil (iA w s b (l.take i) []) idm;rw [<-T i hil] at ht
  (repeat' first|(apply Cn.cf;focus ((apply hd);done))|(apply cP;rfl;(apply ht);rintro _ st' (rfl))|refine ⟨⟨i+1,by omega⟩, ?_, ?_⟩;((dsimp only))|show Cn (.t _ _);exact Cn.t0|apply wZ;rfl|show Cn _;constructor|exact rfl|apply wY;rfl|apply wI;rfl|apply gE;omega|omega|simp only [zql];omega|(intro h;simp at h))
 obtain rfl:i=l.length:=by omega
 rw [hfa,U];clear hdo T J U hfa;generalize (aR w s b l).1=B at*;generalize hM:iA w s b l []=M at*
 focus ((repeat' first|apply pL 66;rfl;exact aA _ _ _|(apply aEW pk;(iterate 5 rfl);intro Q hit)|apply wZ;rfl|show Cn _;constructor|omega|(intro h;simp at h)))
 have g:StSub st (upd (upd st idm (some (m4M M))) idm none):=aU (aU (zsr _) E) E;have hit0:st Q=none:=aeM g hit;refine fG 20 93 4 rfl rfl rfl (λid hid=> ?_);have r:upd (upd (upd st idm (some (m4M M))) idm none) Q (some (.iter none (aX jN bF (m4E M)))) id=none:=hid;have m:id≠Q:=λe=>by rw [e,aA] at r;cases r
 have c:st id=none:=aeM g (by rwa [aB m] at r);have Y:StSub (upd (upd st id (some (.arr 93 (([]:List P4).map p4C)))) Q (some (.iter none (aX jN bF (m4E M))))) (upd (upd (upd (upd st idm (some (m4M M))) idm none) Q (some (.iter none (aX jN bF (m4E M))))) id (some (.arr 93 []))):=by
  rw [eS m];exact xT (xT g)
 have G:(([]:List P4)++(m4E M).map (·.1)).Perm M:=by rw [List.nil_append,aHc]
 clear g hit hid r;refine aC (X:={x:List (P4×Bool)×List P4×Nat×Option (Value×PV)//st x.2.2.1=none/\x.2.2.1≠Q/\(x.2.1++x.1.map (·.1)).Perm M}) (λq=>((((((St.nil 126 (upd (upd st q.1.2.2.1 (some (.arr 93 (q.1.2.1.map p4C)))) Q (some (.iter q.1.2.2.2 (aX jN bF q.1.1))))).var 5 24 ((scC s))).var 6 27 ((bsC b))).var 12 27 (bsC B)).pv 20 (.vec q.1.2.2.1 4 0 q.1.2.1.length)).pv 67 (.ref Q 0))) (λq=>q.1.1.length) ⟨(m4E M,[],id,none),c,m,G⟩ ?_ (λq=> ?_)
 ·dsimp only
  (repeat' first|exact .any Y|show Cn _;constructor|exact rfl)
 clear c m Y G;obtain ⟨⟨N,out,id,cur⟩,c,m,hp⟩:=q;dsimp only at c m hp;dsimp only;have hlo:out.length<=1000000000:=by have:=hp.length_eq;rw [zla] at this;omega
 (repeat' first|apply wZ;rfl|show Cn _;constructor|(apply aHW;rfl;exact aA _ _ _;rfl;rfl;rfl;intro hleft;rotate_left;intro j e he;rotate_left))
 ·obtain rfl:=atY hleft
  rw [List.map_nil,List.append_nil] at hp;have hlr:∀R:List P4,R.Perm out->(R.Pairwise λx y=>gL y x=false)->R=uG gL M:=λR h1 h2=>azC nR hnd (h1.trans hp) h2
  focus ((repeat' first|(apply cP;rfl;(apply (aBV out ((aB m).trans (aA _ _ _)) rfl (by omega)));rintro _ st' (⟨R,rfl,hR1,hR2⟩))|apply wZ;rfl|show Cn _;constructor|apply wY;rfl))
  have hR:=hlr R hR1 hR2;have hRl:(R.map p4C).length=out.length:=by rw [zql];exact hR1.length_eq
  have hol:out.length=(uG gL M).length:=by rw [<-hR];exact hR1.length_eq.symm
  have C:StSub st (upd (upd (upd (upd st id (some (.arr 93 (out.map p4C)))) Q (some (.iter cur (aX jN bF [])))) id (some (.arr 93 (R.map p4C)))) id none):=aU (aU (aU (aU (zsr _) c) hit0) c) c;refine zX 78 rfl (aA _ _ _) aFO hRl ?_;refine fG 22 86 6 rfl rfl rfl (λid2 k=> ?_);have D:st id2=none:=aeM C k;have I:=xT C (id:=id2) (a:=some (.arr 86 []));clear C k hlr hR1 hR2 hRl;subst hR;generalize uG gL M=S at*;refine aC (X:={x:Nat×Nat//x.1<=S.length/\st x.2=none}) (λq=>((((((((St.nil 126 (upd st q.1.2 (some (.arr 86 (((S.take q.1.1).map rgP).map Rg.cells))))).var 5 24 ((scC s))).var 6 27 ((bsC b))).var 12 27 (bsC B)).pv 22 (.vec q.1.2 6 0 ((S.take q.1.1).map rgP).length)).pv 78 (.seq (S.map p4C))).pv 79 ((vi ((out.length:Nat))))).pv 80 ((vi ((q.1.1:Nat)))))) (λq=>S.length-q.1.1) ⟨(0,id2),by simp,D⟩ ?_ (λq=> ?_)
  ·dsimp only
   (repeat' first|exact .any I|show Cn _;constructor|exact rfl)
  clear I D;obtain ⟨⟨q,id2⟩,hq,k⟩:=q;simp only at hq k;dsimp only;by_cases hend2:S.length<=q
  ·obtain rfl:q=S.length:=by omega
   rw [List.take_length];generalize hL:sumsP s b B=L at*;have hAm:(S.map rgP).length=S.length:=zql _;generalize S.map rgP=A at*;have hAl:A.length<=100000000:=by omega
   have hfl:=λj=>List.length_filter_le (λx:S4=>decide (x.2.2.2>0)) (L.take j)
   focus ((repeat' first|(apply Cn.cf;focus ((apply hsums);done))|apply wZ;rfl|show Cn _;constructor|apply wY;rfl|omega|(intro h;simp at h)))
   refine aC (X:={x:Nat×Nat//x.1<=L.length/\st x.2=none}) (λz=>(((((St.nil 126 (upd st z.1.2 (some (.arr 86 ((A++((L.take z.1.1).filter λx=>decide (x.2.2.2>0)).map rgS).map Rg.cells))))).pv 22 (.vec z.1.2 6 0 (A++((L.take z.1.1).filter λx=>decide (x.2.2.2>0)).map rgS).length)).pv 103 (.seq (L.map s4C))).pv 104 ((vi (((L.map s4C).length:Nat))))).pv 105 ((vi ((z.1.1:Nat)))))) (λz=>L.length-z.1.1) ⟨(0,id2),by simp,k⟩ ?_ (λz=> ?_)
   ·dsimp only
    rw [show A++((L.take 0).filter λx=>decide (x.2.2.2>0)).map rgS=A from by simp]
    (repeat' first|show Cn (.t _ _);exact Cn.t0|show Cn _;constructor|exact rfl)
   obtain ⟨⟨z,id3⟩,hz,u⟩:=z;simp only at hz u;dsimp only;have hfz:=hfl z;by_cases hend3:L.length<=z
   ·obtain rfl:z=L.length:=by omega
    rw [List.take_length]
    (repeat' first|refine zX 10 rfl (aA _ _ _) aGi (by simp) ?_;refine aaT ?_;exact Cn.any ⟨_,_,st,rfl,zwr _,aU (aU (zsr _) u) u,rfl,rfl⟩|apply wZ;rfl|show Cn _;constructor|simp only [zql];omega|(intro h;simp at h))
   have hzl:z<L.length:=by omega
   have P:=aAE hzl;have hfl2:((L.take z).filter λx=>decide (x.2.2.2>0)).length<=100000000:=by
    have:=((List.take_sublist z L).filter (λx:S4=>decide (x.2.2.2>0))).length_le;omega
   by_cases G:L[z].2.2.2>0
   ·rw [zp G] at P
    generalize (L.take z).filter (λx=>decide (x.2.2.2>0))=F at*;have hft2:A++((L.take (z+1)).filter λx=>decide (x.2.2.2>0)).map rgS=A++F.map rgS++[rgS L[z]]:=by rw [P,List.map_append,<-List.append_assoc];rfl
    have hAF:(A++F.map rgS).length=A.length+F.length:=by simp
    (repeat' first|refine ⟨⟨(z+1,K),by simp only;omega,dG d⟩, ?_, ?_⟩;((dsimp only;rw [hft2]))|show Cn (.t _ _);exact .any (bR ‹_›)|apply wZ;rfl|show Cn _;constructor|exact rfl|show _=_;((simp;omega))|(apply apV pk (f:=Rg.cells) [rgS L[z]] 48;(iterate 9 rfl);(exact aA _ _ _);(omega);exact λ_=>rfl;exact λ_=>rfl;exact avW;((focus (simp;omega)));((focus (simp;omega)));rfl;intro K d)|apply kE pk 0;(iterate 5 rfl);(focus repeat' constructor);rfl;(intro _;rfl);(intro _;omega);rfl|apply kE pk 1;(iterate 5 rfl);(focus repeat' constructor);rfl;(intro _;rfl);(intro _;omega);rfl|apply kE pk 2;(iterate 5 rfl);(focus repeat' constructor);rfl;(intro _;rfl);(intro _;omega);rfl|apply kE pk 3;(iterate 5 rfl);(focus repeat' constructor);rfl;(intro _;rfl);(intro _;omega);rfl|apply wI;rfl|apply gE;omega|omega|simp only [zql];omega|(intro h;simp at h))
   ·rw [zn G,List.append_nil] at P
    (repeat' first|refine ⟨⟨(z+1,id3),by simp only;omega,u⟩, ?_, ?_⟩;((dsimp only;rw [P]))|apply wZ;rfl|show Cn _;constructor|exact rfl|apply kE pk 3;(iterate 5 rfl);(focus repeat' constructor);rfl;(intro _;rfl);(intro _;omega);rfl|apply wI;rfl|apply gE;omega|omega|simp only [zql];omega|(intro h;simp at h))
  have hql:q<S.length:=by omega
  have hup:(S.take (q+1)).map rgP=(S.take q).map rgP++[rgP S[q]]:=by rw [List.take_succ_eq_append_getElem hql,List.map_append];rfl
  obtain ⟨n1,n2⟩:=hsm _ (zgm hql);have hml:((S.take q).map rgP).length=q:=by rw [zql,zlt];omega
  (repeat' first|refine ⟨⟨(q+1,K),by simp only;omega,dG d⟩, ?_, ?_⟩;((dsimp only;rw [hup]))|show Cn (.t _ _);exact .any (bR ‹_›)|apply wZ;rfl|show Cn _;constructor|exact rfl|show _=_;(simp)|(apply apV pk (f:=Rg.cells) [rgP S[q]] 48;(iterate 9 rfl);(exact aA _ _ _);(omega);exact λ_=>rfl;exact λ_=>rfl;exact avW;((focus (simp;omega)));((focus (simp;omega)));rfl;intro K d)|apply kE pk 0;(iterate 5 rfl);(focus repeat' constructor);rfl;(intro _;rfl);(intro _;omega);rfl|apply kE pk 1;(iterate 5 rfl);(focus repeat' constructor);rfl;(intro _;rfl);(intro _;omega);rfl|apply kE pk 2;(iterate 5 rfl);(focus repeat' constructor);rfl;(intro _;rfl);(intro _;omega);rfl|apply kE pk 3;(iterate 5 rfl);(focus repeat' constructor);rfl;(intro _;rfl);(intro _;omega);rfl|apply wI;rfl|apply gE;omega|omega|simp only [zql];omega|(intro h;simp at h))
 ·obtain ⟨x,hx,rfl⟩:=auP he
  have hp2:=asR hx hp;have hlt:(N.eraseIdx j).length<N.length:=by
   have:=(zge.1 hx).1;rw [List.length_eraseIdx_of_lt this];omega
  have hit2:=Ne.symm m;rw [ajB];have hkey:=aIt x.1
  (repeat' first|refine ⟨⟨(N.eraseIdx j,out++[x.1],K,some (jN x.1,bF x.2)),(xV d).1,(xV d).2,hp2⟩, ?_, ?_⟩;((dsimp only))|show Cn (.s _ (St.nil _ _));refine .any ?_;exact Sub.nil _ _ _ (azK c hit2 (Ne.symm (xV d).2)) rfl|apply wZ;rfl|show Cn _;constructor|exact rfl|show _=_;((simp;done))|(apply apV pk (f:=p4C) [x.1] 32;(iterate 9 rfl);((focus ((repeat (first|exact aA _ _ _|refine (aB ‹_›).trans ?_));done)));(omega);exact λ_=>rfl;exact λ_=>rfl;exact aGP;((focus (simp;omega)));((focus (simp;omega)));rfl;intro K d)|apply aEh;rfl;rfl;exact aA _ _ _;exact hkey;rotate_left;rfl;rfl|omega)
def aAr (kind table col n:Int) (r:Rg):Prop:=(((r.kind=kind/\r.table=table)/\r.col=col)/\r.lo<=n)/\n<r.hi
theorem aHd {l:List Rg} {kind table col n:Int} (h:∀j (hj:j<l.length),¬aAr kind table col n l[j]):qY l kind table col n=false:=by
 unfold qY;rw [List.any_eq_false];intro r a q;obtain ⟨j,hj,rfl⟩:=zgo a;rw [zde] at q;exact h j hj ⟨⟨⟨⟨q.1,q.2.1⟩,q.2.2.1⟩,q.2.2.2.1⟩,q.2.2.2.2⟩
theorem aCI {l:List Rg} {kind table col n:Int} {j:Nat} (hj:j<l.length) (h:aAr kind table col n l[j]):qY l kind table col n=true:=by
 unfold qY;rw [List.any_eq_true];exact ⟨_,zgm hj,decide_eq_true ⟨h.1.1.1.1,h.1.1.1.2,h.1.1.2,h.1.2,h.2⟩⟩
theorem ahK (l:List Rg) (kind table col n:Int) (hl:l.length<1000000000000):PF Tryz.prog 11 [.seq (l.map Rg.cells),(vi (kind)),(vi (table)),(vi (col)),(vi (n))] (vb (qY l kind table col n)):=by
 have f:=aHd (l:=l) (kind:=kind) (table:=table) (col:=col) (n:=n);have b:=λj (hj:j<l.length)=>aCI (kind:=kind) (table:=table) (col:=col) (n:=n) hj;generalize qY l kind table col n=B at*;refine pF Tryz.func11 rfl (λst=> ?_)
 focus ((repeat' first|apply wZ;rfl|show Cn _;constructor))
 refine aC (X:={x:Nat//x<=l.length/\∀j (hj:j<l.length),j<x->¬aAr kind table col n l[j]}) (λi=>(((((((St.nil 61 st).pv 0 (.seq (l.map Rg.cells))).pv 1 ((vi (kind)))).pv 2 ((vi (table)))).pv 3 ((vi (col)))).pv 4 ((vi (n)))).pv 11 ((vi ((i.1:Nat)))))) (λi=>l.length-i.1) ⟨0,by omega,by omega⟩ ?_ (λi=> ?_)
 ·(repeat' first|show Cn _;constructor|exact rfl)
 obtain ⟨i,hi,g⟩:=i;dsimp only;by_cases k:l.length<=i
 ·have e:B=false:=f λj hj=>g j hj (by omega)
  (repeat' first|apply wZ;rfl|show Cn _;constructor|exact rfl|show (_:PV)=_;(rw [e]);done|simp only [zql];omega|(intro h;simp at h))
 have c:i<l.length:=by omega
 have hy:=b i c;have a:¬aAr kind table col n l[i]->∀j (hj:j<l.length),j<i+1->¬aAr kind table col n l[j]:=λh j hj d=>by
  rcases zls.1 d with q|q
  ·exact g j hj q
  ·subst q;exact h
 unfold aAr at hy a;have a:(l[i].kind=kind->l[i].table=table->l[i].col=col->l[i].lo<=n->l[i].hi<=n)->_:=λh=>a λq=>absurd (h q.1.1.1.1 q.1.1.1.2 q.1.1.2 q.1.2) (by have:=q.2;omega)
 (repeat' first|(refine ⟨⟨i+1,by omega,a ‹_›⟩, ?_, ?_⟩)|apply wZ;rfl|show Cn _;constructor|exact rfl|show (_:PV)=_;(rw [hy ‹_›]);done|apply wI;rfl|apply gE;omega|omega|simp only [zql];omega|(intro h;simp at h))
end
section
attribute [local irreducible] Ev PWp
set_option maxRecDepth 10000
set_option maxHeartbeats 4000000
theorem avO (s:Sc) (b:Bs) (l:List Ot) (kn:List Int) (hs:ScG s) (hb:BsB b) (hl:l.length<200000000000000) (a:∀o∈l,o.row.length<200000000000000):PF Tryz.prog 6 [.agg (scC s), .agg (bsC b), .seq (l.map Ot.cells), .seq (kn.map I1)] (vb ((fewC s b&&(decide ((l.length:Int)<=12)&&l.all gO))&&decide ((kn.length:Int)<=80))):=by
 have c:=aA3 s b hs.l hs.b hs.k hb;have d:=akU l 12 hl a;generalize fewC s b=F at*;generalize (decide ((l.length:Int)<=12)&&l.all gO)=G at*;refine pF Tryz.func6 rfl (λst=> ?_)
 (repeat' first|apply wZ;rfl|show Cn _;constructor|exact rfl|((first|apply c|apply d))|show (_:PV)=_;((simp;done));done|apply wY;rfl)
structure Goes (w:Wr) (s:Sc) (b:Bs) (l:List Ot):Prop where
 may:pW w=true
 was:aV T.rightP s b=true
 fold:(aR w s b l).2=0
 eq:(fP w s b l).1=(aR w s b l).1
 is:aV T.rightP s (aR w s b l).1=true
 size:OpW l.length (aR w s b l).1
theorem avR {w:Wr} {s:Sc} {b:Bs} {l:List Ot} (g:OpW 0 b) (hf:∀o∈l,mC o) (h:(fP w s b l).2=0):Goes w s b l:=by
 obtain ⟨i,a,k,j⟩:=ajF h;obtain ⟨_,c,d⟩:=eK.1 i;obtain ⟨e,f⟩:=mP d c g hf a;exact ⟨d,c,a,j,e,by simpa using f⟩
theorem aFd {w:Wr} {s:Sc} {b:Bs} {l:List Ot} (a:OpW 0 b) (hf:∀o∈l,mC o) (hl:l.length≠0) (h:(fP w s b l).2=0) {k t c n:Int} (hk:k≠3) (hh:qY (ofP w s b l).1 k t c n=false):¬wN w s b l (k,t,c,n):=λq=>by
 have g:=avR a hf h
 rw [aFj hl h hk,decide_eq_false_iff_not] at hh
 exact hh ((wA g.may g.was a hf g.fold).2 (.inr q))
section
variable (hA:PF Tryz.prog 7 [] (vb (true)))
include hA
end
end
end Go.Proofs.YtfablfldonhkiaaGreatDoor
