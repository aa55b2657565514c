import Derived.Test.YtfablfldonhkiaaGreatDoorClAt
import Derived.Test.YtfablfldonhkiaaGreatDoorAbsG
import Derived.Test.YtfablfldonhkiaaGreatDoorClAl
set_option linter.unusedSimpArgs false
set_option linter.unusedVariables false
namespace Go.Proofs.YtfablfldonhkiaaGreatDoor
open Go Go.Abs
section
attribute [local irreducible] Ev PWp
set_option maxRecDepth 10000
set_option maxHeartbeats 4000000
def s4C (x:S4):List PV:=[(vi (x.1)),(vi (x.2.1)),(vi (x.2.2.1)),(vi (x.2.2.2))]
theorem aGk :Tryz.prog.bytesOf 87=32:=by kernel_rfl
theorem aEO :Tryz.prog.cellsOf 87=4:=by kernel_rfl
theorem zS {s:Sc} {b:Bs} (k y:Nat) (g:Int): -2199023255552000<=totC s b k y g/\totC s b k y g<=2199023255552000:=by
 unfold totC
 split
 ·rename_i h
  obtain ⟨h1,h2,h3⟩:=h
  rw [Int.toNat_natCast] at h3⊢
  rw [Int.toNat_natCast]
  have hk:k<s.length:=by omega
  rw [getElem!_pos s k hk] at h3⊢
  have hy:y<s[k].sums.length:=by omega
  rw [getElem!_pos s[k].sums y hy]
  have hg:bH T.rightP s b=true:=by
   unfold mayC at h1
   rw [zba] at h1
   exact h1.2
  have hT:=aaT hg hk (zgm hy)
  have hl:=hT.len
  obtain ⟨q1,q2⟩:=wE (m:=s[k].sums[y]) (g:=g) λr hr=>(hT.num r hr).1
  omega
 ·omega
theorem rA {α β:Type} {f:α->List β} {c:Nat}:∀(l:List α),(∀a∈l,(f a).length<=c)->(l.flatMap f).length<=c*l.length
 |[],_=>by simp
 |a::l,h=>by
  have h1:=rA l λx hx=>h x (List.mem_cons_of_mem _ hx)
  have h2:=h a List.mem_cons_self
  rw [List.flatMap_cons,zla,zlc,Nat.mul_add]
  omega
theorem anL {s:Sc} {was is:Bs} (h1:∀k:Int,(aF was k).length<=200) (h2:∀k:Int,(aF is k).length<=200) (k i:Nat):(sumI s was is k i).length<=400:=by
 unfold sumI
 have q1:=List.length_filterMap_le (moreS s was is k i) (pM (jU was k s[k]!.sums[i]!++jU is k s[k]!.sums[i]!))
 have q2:=afZ (jU was k s[k]!.sums[i]!++jU is k s[k]!.sums[i]!)
 rw [zla] at q2
 have q3:=List.length_filterMap_le (λl=>ptP l s[k]!.sums[i]!.by_) (aF was (k:Int))
 have q4:=List.length_filterMap_le (λl=>ptP l s[k]!.sums[i]!.by_) (aF is (k:Int))
 have q5:=h1 (k:Int)
 have q6:=h2 (k:Int)
 unfold jU at q1 q2⊢
 omega
theorem aAz {α β:Type} {f:α->Option β} {L:List α} {i:Nat} (h:i<L.length):(L.take (i+1)).filterMap f=(L.take i).filterMap f++(match f L[i] with|none=>[]|some n=>[n]):=by
 rw [List.take_succ_eq_append_getElem h,List.filterMap_append]
 congr 1
theorem abZ {β:Type} (f:Nat->List β) (i:Nat):(List.range (i+1)).flatMap f=(List.range i).flatMap f++f i:=by
 rw [List.range_succ,List.flatMap_append];simp
theorem aB3 {s:Sc} {b:Bs} (hb:bH T.rightP s b=true) {k:Nat} (hk:k<s.length) {m:Su} (hm:m∈s[k].sums):∀l∈(b[k]'(by have:=(aU.1 hb).1.2;omega)).lines,fR l m.by_:=λl hl=>by
 obtain ⟨⟨h1,h2⟩,_⟩:=aU.1 hb
 have q:=aGw h1 hk hm
 exact sO hb hk (u:=m.by_) ⟨by have:=q.b1;omega,by rw [getElem!_pos s k hk];exact q.b2,by rw [getElem!_pos s k hk];exact q.kb⟩ (by rw [eZ (by omega)];exact hl)
theorem aEr :Wk (.val (.slice none 0 0)) (.seq (([]:List S4).map s4C)):=Wk.nil
theorem aF9 {s:Sc} {was is:Bs} (hB1:CkB 200 s was) (hB2:CkB 200 s is) (hb1:bH T.rightP s was=true) (hb2:bH T.rightP s is=true) (st:aD):
  PC Tryz.prog 26 [.agg (scC s), .agg (bsC was), .agg (bsC is)] st λr S=>∃id,r= .vec id 4 0 ((List.range s.length).flatMap (sumK s was is)).length/\st id=none/\S=upd st id (some (.arr 87 (((List.range s.length).flatMap (sumK s was is)).map s4C))):=by
 have hr1:=fJ hB1.bs hB1.hn hB1.sb hB1.len
 have hr2:=fJ hB2.bs hB2.hn hB2.sb hB2.len
 rw [hb1] at hr1
 rw [hb2] at hr2
 obtain ⟨⟨hrs,e1⟩,_⟩:=aU.1 hb1
 obtain ⟨⟨_,e2⟩,_⟩:=aU.1 hb2
 have hsl:=jZ hrs
 have hml:(s.map Tb.cells).length=s.length:=zql _
 have hW1:=λk:Int=>(hB1.bs.lines k).1
 have hW2:=λk:Int=>(hB2.bs.lines k).1
 have hIl:=λk i=>anL (s:=s) (was:=was) (is:=is) hW1 hW2 k i
 have hKl:∀k<s.length,(sumK s was is k).length<=6400:=λk hk=>by
  unfold sumK
  have:=rA (f:=sumI s was is k) (List.range s[k]!.sums.length) λi _=>hIl k i
  rw [List.length_range,getElem!_pos s k hk] at this
  have:=(pL hrs hk).2.2.2.2
  rw [getElem!_pos s k hk]
  omega
 have hOl:∀i≤s.length,((List.range i).flatMap (sumK s was is)).length<=6400*16:=λi hi=>by
  have:=rA (f:=sumK s was is) (List.range i) λk hk=>hKl k (by have:=List.mem_range.1 hk;omega)
  rw [List.length_range] at this
  omega
 refine pC Tryz.func26 rfl ?_
 focus ((repeat' first|(apply Cn.cf;focus (((first|apply hr1|apply hr2));done))|apply wZ;rfl|show Cn _;constructor|apply wY;rfl))
 refine fK 7 87 4 rfl rfl rfl (λid hid=> ?_)
 refine aC (X:={x:Nat×Nat//x.1<=s.length/\st x.2=none}) (λi=>((((((((St.nil 88 (upd st i.1.2 (some (.arr 87 (((List.range i.1.1).flatMap (sumK s was is)).map s4C))))).var 3 24 ((scC s))).var 4 27 ((bsC was))).var 5 27 ((bsC is))).pv 7 (.vec i.1.2 4 0 ((List.range i.1.1).flatMap (sumK s was is)).length)).pv 27 (.seq (s.map Tb.cells))).pv 28 ((vi (((s.map Tb.cells).length:Nat))))).pv 29 ((vi ((i.1.1:Nat)))))) (λi=>s.length-i.1.1) ⟨(0,id),by simp,hid⟩ ?_ (λi=> ?_)
 ·dsimp only
  (repeat' first|show Cn (.t _ _);exact Cn.t0|show Cn _;constructor|exact rfl)
 obtain ⟨⟨i,id⟩,hi,hid⟩:=i
 simp only at hi hid
 dsimp only
 by_cases hend:s.length<=i
 ·obtain rfl:i=s.length:=by omega
  (repeat' first|show Cn (.r _ _ _);refine .rr ?_;(exact ⟨id,rfl,hid,rfl⟩);done|apply wZ;rfl|show Cn _;constructor|omega|(intro h;simp at h))
 have hk:i<s.length:=by omega
 have k1:i<was.length:=by omega
 have k2:i<is.length:=by omega
 have hup:=abZ (sumK s was is) i
 have hO:=hOl i hi
 have hKi:sumK s was is i=(List.range s[i].sums.length).flatMap (sumI s was is i):=by unfold sumK;rw [getElem!_pos s i hk]
 have hsn:=(pL hrs hk).2.2.2.2
 have hSl:∀y≤s[i].sums.length,((List.range y).flatMap (sumI s was is i)).length<=6400:=λy hy=>by
  have:=rA (f:=sumI s was is i) (List.range y) λj _=>hIl i j
  rw [List.length_range] at this
  omega
 rw [hKi] at hup
 generalize (List.range i).flatMap (sumK s was is)=A at*
 focus ((repeat' first|apply wZ;rfl|show Cn _;constructor|exact rfl|apply wI;rfl|apply gE;omega|omega|(intro h;simp at h)))
 refine aC (X:={x:Nat×Nat//x.1<=s[i].sums.length/\st x.2=none}) (λy=>((((((((((((St.nil 88 (upd st y.1.2 (some (.arr 87 ((A++(List.range y.1.1).flatMap (sumI s was is i)).map s4C))))).var 3 24 ((scC s))).var 4 27 ((bsC was))).var 5 27 ((bsC is))).pv 7 (.vec y.1.2 4 0 (A++(List.range y.1.1).flatMap (sumI s was is i)).length)).pv 8 ((vi ((i:Nat))))).pv 27 (.seq (s.map Tb.cells))).pv 28 ((vi (((s.map Tb.cells).length:Nat))))).pv 29 ((vi ((i:Nat))))).pv 35 (.seq (s[i].sums.map Su.cells))).pv 36 ((vi (((s[i].sums.map Su.cells).length:Nat))))).pv 37 ((vi ((y.1.1:Nat)))))) (λy=>s[i].sums.length-y.1.1) ⟨(0,id),by simp,hid⟩ ?_ (λy=> ?_)
 ·dsimp only
  rw [show A++(List.range 0).flatMap (sumI s was is i)=A from by simp]
  (repeat' first|show Cn (.t _ _);exact Cn.t0|show Cn _;constructor|exact rfl)
 obtain ⟨⟨y,id⟩,hy,hid⟩:=y
 simp only at hy hid
 dsimp only
 by_cases hend1:s[i].sums.length<=y
 ·obtain rfl:y=s[i].sums.length:=by omega
  (repeat' first|refine ⟨⟨(i+1,id),by simp only;omega,hid⟩, ?_, ?_⟩;((dsimp only;rw [hup]))|apply wZ;rfl|show Cn _;constructor|exact rfl|omega|simp only [zql];omega|(intro h;simp at h))
 have hyl:y<s[i].sums.length:=by omega
 have hup1:=abZ (sumI s was is i) y
 have hA:=hSl y hy
 have hDl:(pM (jU was i s[i].sums[y]++jU is i s[i].sums[y])).length<=400:=by
  have q2:=afZ (jU was i s[i].sums[y]++jU is i s[i].sums[y])
  rw [zla] at q2
  have q3:=List.length_filterMap_le (λl=>ptP l s[i].sums[y].by_) (aF was (i:Int))
  have q4:=List.length_filterMap_le (λl=>ptP l s[i].sums[y].by_) (aF is (i:Int))
  have q5:=hW1 (i:Int)
  have q6:=hW2 (i:Int)
  unfold jU at q2⊢
  omega
 have hIi:sumI s was is i y=(pM (jU was i s[i].sums[y]++jU is i s[i].sums[y])).filterMap (moreS s was is i y):=by unfold sumI;rw [getElem!_pos s i hk,getElem!_pos s[i].sums y hyl]
 rw [hIi] at hup1
 have hg1:=xX k1 s[i].sums[y] (aB3 hb1 hk (zgm hyl)) (by have:=(hB1.bs.2 _ (zgm k1)).1;omega)
 have hg2:=xX k2 s[i].sums[y] (aB3 hb2 hk (zgm hyl)) (by have:=(hB2.bs.2 _ (zgm k2)).1;omega)
 have hgl1:(jU was i s[i].sums[y]).length<=200:=by
  have q3:=List.length_filterMap_le (λl=>ptP l s[i].sums[y].by_) (aF was (i:Int))
  have q5:=hW1 (i:Int)
  unfold jU
  omega
 have hgl2:(jU is i s[i].sums[y]).length<=200:=by
  have q3:=List.length_filterMap_le (λl=>ptP l s[i].sums[y].by_) (aF is (i:Int))
  have q5:=hW2 (i:Int)
  unfold jU
  omega
 generalize (List.range y).flatMap (sumI s was is i)=B at*
 generalize jU was i s[i].sums[y]=G1 at*
 generalize jU is i s[i].sums[y]=G2 at*
 have hcon:=ayS G1 G2 (by omega) (upd st id (some (.arr 87 ((A++B).map s4C))))
 have hdl:=aE6 (G1++G2)
 have hme:((G1++G2).mergeSort λx y=>decide (x<=y)).toArray.size=G1.length+G2.length:=by simp
 rw [zla] at hdl
 generalize hD:pM (G1++G2)=D at*
 focus ((repeat' first|apply wD pk [9] [];kernel_rfl;rfl;rfl|(apply wY;rfl;rotate_left;apply Cn.cf;focus (((first|apply hg1|apply hg2));done))|(apply wY;rfl;rotate_left;apply cP;rfl;(apply hcon);rintro _ st' (⟨ida,rfl,hida,rfl⟩))|apply wZ;rfl|show Cn _;constructor|exact rfl|apply wI;rfl|apply gE;omega|simp only [zql];omega|(intro h;simp at h)))
 have hsl2:((G1++G2).mergeSort λx y=>decide (x<=y)).length=G1.length+G2.length:=by simp
 have hso:=afG (G1++G2) (st:=upd (upd st id (some (.arr 87 ((A++B).map s4C)))) ida (some (.arr 3 ((G1++G2).map I1)))) (id:=ida) (n:=G1.length+G2.length) (aA _ _ _) (by simp) (by omega)
 have hco:=anQ ((G1++G2).mergeSort λx y=>decide (x<=y)).toArray (st:=upd (upd (upd st id (some (.arr 87 ((A++B).map s4C)))) ida (some (.arr 3 ((G1++G2).map I1)))) ida (some (.arr 3 (((G1++G2).mergeSort λx y=>decide (x<=y)).map I1)))) (id:=ida) (n:=G1.length+G2.length) (aA _ _ _) hme (by omega)
 rw [hdl] at hco
 clear hdl hme hsl2
 generalize ((G1++G2).mergeSort λx y=>decide (x<=y))=Z at*
 focus ((repeat' first|(apply cP;rfl;(apply hso);rintro _ st' (rfl))|(apply cP;rfl;(apply hco);rintro _ st' (⟨rfl,rows,rfl,hrl,hrt⟩))|apply wZ;rfl|show Cn _;constructor|apply wY;rfl))
 have hbid:upd st id (some (.arr 87 ((A++B).map s4C))) ida=none:=hida
 have hsub:StSub (upd st id (some (.arr 87 ((A++B++(D.take 0).filterMap (moreS s was is i y)).map s4C)))) (upd (upd (upd (upd (upd st id (some (.arr 87 ((A++B).map s4C)))) ida (some (.arr 3 ((G1++G2).map I1)))) ida (some (.arr 3 (Z.map I1)))) ida (some (.arr 3 rows))) ida none):=by
  have e0:(A++B++(D.take 0).filterMap (moreS s was is i y))=A++B:=by simp
  rw [e0]
  exact aR (aR (aR (aR (zsr _) hbid) hbid) hbid) hbid
 refine akC 55 rfl (aA _ _ _) aqL hrt ?_
 refine aC (X:={x:Nat×Nat//x.1<=D.length/\st x.2=none}) (λz=>((((((((((((((((St.nil 88 (upd st z.1.2 (some (.arr 87 ((A++B++(D.take z.1.1).filterMap (moreS s was is i y)).map s4C))))).var 3 24 ((scC s))).var 4 27 ((bsC was))).var 5 27 ((bsC is))).pv 7 (.vec z.1.2 4 0 (A++B++(D.take z.1.1).filterMap (moreS s was is i y)).length)).pv 8 ((vi ((i:Nat))))).pv 10 ((vi ((y:Nat))))).pv 27 (.seq (s.map Tb.cells))).pv 28 ((vi (((s.map Tb.cells).length:Nat))))).pv 29 ((vi ((i:Nat))))).pv 35 (.seq (s[i].sums.map Su.cells))).pv 36 ((vi (((s[i].sums.map Su.cells).length:Nat))))).pv 37 ((vi ((y:Nat))))).pv 55 (.seq (D.map I1))).pv 56 ((vi ((D.length:Nat))))).pv 57 ((vi ((z.1.1:Nat)))))) (λz=>D.length-z.1.1) ⟨(0,id),by simp,hid⟩ ?_ (λz=> ?_)
 ·dsimp only
  (repeat' first|exact .any hsub|show Cn _;constructor|exact rfl|simp)
 clear hsub hbid hrt hrl hso hco
 obtain ⟨⟨z,id⟩,hz,hid⟩:=z
 simp only at hz hid
 dsimp only
 have hll:=List.length_filterMap_le (moreS s was is i y) (D.take z)
 rw [zlt] at hll
 by_cases hend2:D.length<=z
 ·obtain rfl:z=D.length:=by omega
  rw [List.take_length,List.append_assoc,<-hup1]
  (repeat' first|refine ⟨⟨(y+1,id),by simp only;omega,hid⟩, ?_, ?_⟩;((dsimp only))|apply wZ;rfl|show Cn _;constructor|exact rfl|omega|simp only [zql];omega|(intro h;simp at h))
 have hzl:z<D.length:=by omega
 have ht1:=acJ hB2 (i:Int) (y:Int) D[z]
 have ht2:=acJ hB1 (i:Int) (y:Int) D[z]
 obtain ⟨b1,b2⟩:=zS (s:=s) (b:=is) i y D[z]
 obtain ⟨b3,b4⟩:=zS (s:=s) (b:=was) i y D[z]
 have hmu:=aAz (f:=moreS s was is i y) hzl
 by_cases hne:totC s is (i:Int) (y:Int) D[z]-totC s was (i:Int) (y:Int) D[z]≠0
 ·have e:moreS s was is i y D[z]=some ((i:Int),(y:Int),D[z],totC s is (i:Int) (y:Int) D[z]-totC s was (i:Int) (y:Int) D[z]):=by unfold moreS;rw [zp hne]
  rw [e] at hmu
  dsimp only at hmu
  generalize totC s is (i:Int) (y:Int) D[z]=V1 at*
  generalize totC s was (i:Int) (y:Int) D[z]=V2 at*
  generalize (D.take z).filterMap (moreS s was is i y)=E at*
  (repeat' first|refine ⟨⟨(z+1,id'),by simp only;omega,dK hid'⟩, ?_, ?_⟩;((dsimp only;rw [hmu,<-List.append_assoc]))|show Cn (.t _ _);exact .any (bP ‹_›)|apply wZ;rfl|show Cn _;constructor|exact rfl|apply KR.mk;kernel_rfl|((first|apply ht1|apply ht2))|show _=_;((simp;omega))|(apply apV pk (f:=s4C) [((i:Int),(y:Int),D[z],V1-V2)] 32;(iterate 9 rfl);(exact aA _ _ _);(omega);exact λ_=>rfl;exact λ_=>rfl;exact aGk;((focus (simp;omega)));((focus (simp;omega)));rfl;intro id' hid')|apply wY;rfl|apply wI;rfl|apply gE;omega|omega|simp only [zql];omega|(intro h;simp at h)|intro h)
 ·have e:moreS s was is i y D[z]=none:=by unfold moreS;rw [zn hne]
  rw [e] at hmu
  dsimp only at hmu
  rw [List.append_nil] at hmu
  have hne:=zdn hne
  generalize totC s is (i:Int) (y:Int) D[z]=V1 at*
  generalize totC s was (i:Int) (y:Int) D[z]=V2 at*
  (repeat' first|refine ⟨⟨(z+1,id),by simp only;omega,hid⟩, ?_, ?_⟩;((dsimp only;rw [hmu]))|apply wZ;rfl|show Cn _;constructor|exact rfl|apply KR.mk;kernel_rfl|((first|apply ht1|apply ht2))|apply wY;rfl|apply wI;rfl|apply gE;omega|omega|simp only [zql];omega|(intro h;simp at h)|intro h)
theorem acQ {s:Sc} {was is:Bs} (hB1:CkB 200 s was) (hB2:CkB 200 s is):PF Tryz.prog 26 [.agg (scC s), .agg (bsC was), .agg (bsC is)] (.seq ((sumsP s was is).map s4C)):=by
 unfold sumsP
 by_cases hb:bH T.rightP s was=true/\bH T.rightP s is=true
 ·rw [zp hb]
  exact λst=>fS (sz:=4) (aF9 hB1 hB2 hb.1 hb.2 st) λp st' h=>by
   obtain ⟨id,rfl,h3,rfl⟩:=h
   exact .inl ⟨id,87,((List.range s.length).flatMap (sumK s was is)).map s4C,_,st,aA _ _ _,aEO,fL (by simp),cF h3,rfl,rfl⟩
 ·rw [zn hb]
  have hr1:=fJ hB1.bs hB1.hn hB1.sb hB1.len
  have hr2:=fJ hB2.bs hB2.hn hB2.sb hB2.len
  generalize bH T.rightP s was=X at*
  generalize bH T.rightP s is=Y at*
  refine pF Tryz.func26 rfl (λst=> ?_)
  (repeat' first|exact Cn.any ⟨_,_,_,rfl,aEr,zsr _,rfl,rfl⟩|apply wZ;rfl|show Cn _;constructor|((first|apply hr1|apply hr2))|apply wY;rfl|exfalso;simp_all;done|(intro h;simp at h))
theorem akU {w:Wr} {s:Sc}:∀{l:List Ot} {b:Bs} {M:List P4} {o:Ot},(aS w s b l).2=0->iF w s b (l++[o]) M=mH s (aS w s b l).1 (bS w s (aS w s b l).1 o).1 (iF w s b l M)
 |[],_,_,_,_=>rfl
 |p::r,b,M,o,h=>by
  obtain ⟨_,e⟩:=iN h
  show iF w s (bS w s b p).1 (r++[o]) _=_
  rw [akU (e▸h),e];rfl
theorem aG4 {w:Wr} {s:Sc} {b:Bs} {l:List Ot} {i:Nat} {M:List P4} (hi:i<l.length) (h:(aS w s b (l.take i)).2=0):iF w s b (l.take (i+1)) M=mH s (aS w s b (l.take i)).1 (bS w s (aS w s b (l.take i)).1 l[i]).1 (iF w s b (l.take i) M):=by
 rw [List.take_succ_eq_append_getElem hi,akU h]
theorem aFJ {w:Wr} {s:Sc} {b:Bs} {l:List Ot} (h:(aS w s b l).2=0) (i:Nat):(aS w s b (l.take i)).2=0:=by
 refine Decidable.byContradiction λq=> ?_
 rw [alG q] at h
 exact q h
def Rg.zero :Rg:=⟨0,0,0,0,0,0⟩
theorem atQ :Tryz.prog.bytesOf 86=48:=by kernel_rfl
theorem aFb :Tryz.prog.cellsOf 86=6:=by kernel_rfl
def aD9 (R:List Rg×Int):PV:= .tup [.seq (R.1.map Rg.cells),(vi (R.2))]
theorem aGO (e:Int):Wk (.tup [.val (.slice none 0 0),(vi (e))]) (aD9 ([],e)):=Wk.tup (.cons Wk.nil (.cons (zwr _) .nil))
theorem acE {st st':aD} (h:StSub st st') {j:Nat} (hj:st' j=none):st j=none:=by
 rcases h j with q|q
 ·exact q
 ·exact q.trans hj
theorem vW {st st':aD} (h:StSub st st') {id:Nat} {a:Option AObj}:StSub (upd st id a) (upd st' id a):=λj=>by
 by_cases e:j=id
 ·subst e;right;rw [aA,aA]
 ·rw [aB e,aB e];exact h j
theorem agY (es:List (P4×Bool)) (i:Nat):(aM iV bF es).eraseIdx i=aM iV bF (es.eraseIdx i):=by unfold aM;rw [sV]
theorem asI {es:List (P4×Bool)} {i:Nat} {e:Value×PV} (h:(aM iV bF es)[i]?=some e):∃x,es[i]?=some x/\e=(iV x.1,bF x.2):=by
 unfold aM at h
 rw [List.getElem?_map] at h
 cases hx:es[i]? with
 |none=>rw [hx] at h;cases h
 |some x=>rw [hx] at h;exact ⟨x,rfl,(Option.some.inj h).symm⟩
theorem arP {es:List (P4×Bool)} (h:aM iV bF es=[]):es=[]:=by cases es with
 |nil=>rfl
 |cons x l=>cases h
theorem yE {α:Type}:∀{l:List α} {i:Nat} {x:α},l[i]?=some x->(x::l.eraseIdx i).Perm l
 |[],_,_,h=>by simp at h
 |a::l,0,x,h=>by simp at h;subst h;exact .refl _
 |a::l,i+1,x,h=>by
  simp only [List.getElem?_cons_succ] at h
  rw [List.eraseIdx_cons_succ]
  exact (List.Perm.swap a x _).trans ((yE h).cons a)
theorem aqE {es:List (P4×Bool)} {out M:List P4} {i:Nat} {x:P4×Bool} (hx:es[i]?=some x) (h:(out++es.map (·.1)).Perm M):((out++[x.1])++(es.eraseIdx i).map (·.1)).Perm M:=by
 refine List.Perm.trans ?_ h
 rw [List.append_assoc]
 refine List.Perm.append_left _ ?_
 have:=(yE hx).map (·.1)
 simpa using this
theorem axI {st:aD} {id id' it:Nat} {a b c o:Option AObj} (h1:st id=none) (h2:it≠id) (h3:it≠id'):StSub (upd (upd st id' a) it o) (upd (upd (upd (upd (upd st id b) it c) it o) id none) id' a):=λj=>by
 by_cases e1:j=it
 ·subst e1;right;rw [aA,aB h3,aB h2,aA]
 ·rw [aB e1]
  by_cases e2:j=id'
  ·subst e2;right;rw [aA,aA]
  ·rw [aB e2,aB e2]
   by_cases e3:j=id
   ·subst e3;left;exact h1
   ·right;rw [aB e3,aB e1,aB e1,aB e3]
theorem vX {st:aD} {id it id':Nat} {a b c:AObj} (h:upd (upd (upd st id (some a)) it (some b)) it (some c) id'=none):st id'=none/\id'≠it:=by
 have q1:∀{f:aD} {x y:Nat} {o:AObj},upd f x (some o) y=none->y≠x/\f y=none:=fun {f x y o} h=>by
  by_cases e:y=x
  ·rw [e,aA] at h;cases h
  ·exact ⟨e,by rwa [aB e] at h⟩
 obtain ⟨a1,a2⟩:=q1 h
 obtain ⟨b1,b2⟩:=q1 a2
 exact ⟨(q1 b2).2,a1⟩
theorem aFZ (M:List P4):(m4E M).map (·.1)=M:=by unfold m4E;rw [List.map_map];exact List.map_id M
theorem aHb (x:P4) (g:G):Rep g (.agg (p4C x)) (iV x):=by
 unfold Rep
 exact ⟨xK x,rfl,xV g (xK x)⟩
theorem aIE (w:Wr) (s:Sc) (b:Bs):PF Tryz.prog 8 [.agg (scC s), .agg (bsC b), .seq [], .agg w.who.cells, .seq (w.knew.map I1)] (aD9 (ofP w s b [])):=by
 have e:ofP w s b []=([],0):=by unfold ofP;rw [zp (show ([]:List Ot).length=0 from rfl)]
 rw [e]
 refine pF Tryz.func8 rfl (λst=> ?_)
 (repeat' first|exact Cn.any ⟨_,_,_,rfl,aGO _,zsr _,rfl,rfl⟩|apply wZ;rfl|show Cn _;constructor)
theorem aCH {n:Nat} {w:Wr} {s:Sc} {b:Bs} {l:List Ot} (hK:ScK s) (hW:OpW n b) (hn:n+l.length<=20) (hk:w.knew.length<1000000000000) (hf:∀o∈l,lV o) (hl:l.length≠0) (h0:(fG w s b l).2≠0):PF Tryz.prog 8 [.agg (scC s), .agg (bsC b), .seq (l.map Ot.cells), .agg w.who.cells, .seq (w.knew.map I1)] (aD9 (ofP w s b l)):=by
 have h1:=mS hK hW hn hk hf
 have e:ofP w s b l=([],(fG w s b l).2):=by unfold ofP;rw [zn hl,zp h0]
 rw [e]
 generalize fG w s b l=R at*
 obtain ⟨B,e⟩:=R
 unfold lU at h1
 dsimp only at h1 h0⊢
 refine pF Tryz.func8 rfl (λst=> ?_)
 (repeat' first|exact Cn.any ⟨_,_,_,rfl,aGO _,zsr _,rfl,rfl⟩|apply wZ;rfl|show Cn _;constructor|(apply h1)|apply wY;rfl|omega|simp only [zql];omega|(intro h;simp at h)|intro h)
theorem avL {s:Sc} (h:cB s=0):aGf s:=⟨by have:=jZ h;omega,λk hk=>by
 have:=pL h hk
 rw [getElem!_pos s k hk]
 omega⟩
theorem afO {s:Sc} {was is:Bs} (h1:∀k:Int,(aF was k).length<=200) (h2:∀k:Int,(aF is k).length<=200):(sumsP s was is).length<=102400:=by
 unfold sumsP
 split
 ·rename_i h
  have hrs:=(aU.1 h.1).1.1
  have:=rA (f:=sumK s was is) (c:=6400) (List.range s.length) λk hk=>by
   have hk:=List.mem_range.1 hk
   unfold sumK
   have:=rA (f:=sumI s was is k) (List.range s[k]!.sums.length) λi _=>anL h1 h2 k i
   rw [List.length_range,getElem!_pos s k hk] at this
   have:=(pL hrs hk).2.2.2.2
   rw [getElem!_pos s k hk]
   omega
  rw [List.length_range] at this
  have:=jZ hrs
  omega
 ·simp
theorem arR {n:Nat} {w:Wr} {s:Sc} {b:Bs} {l:List Ot} (hK:ScK s) (hW:OpW n b) (hn:n+l.length<=20) (hf:∀o∈l,lV o):(ofP w s b l).1.length<=100000000:=by
 unfold ofP
 split
 ·simp
 ·split
  ·simp
  ·rename_i h1 h2
   have h2:=zdn h2
   obtain ⟨r1,r2,r3,r4⟩:=aoR h2
   obtain ⟨_,r5,r6⟩:=fC.1 r1
   have hrs:=(aU.1 r5).1.1
   obtain ⟨f1,f2⟩:=oN r6 r5 hW hf r2
   have q1:=agL (avL hrs) (w:=w) (M:=[]) hW hn hf
   have q2:(sumsP s b (fG w s b l).1).length<=102400:=by
    rw [r4]
    exact afO (λj=>by have:=(iT hW j).1;omega) (λj=>by have:=(iT f2 j).1;omega)
   have q3:=List.length_filter_le (λx:S4=>decide (x.2.2.2>0)) (sumsP s b (fG w s b l).1)
   dsimp only
   rw [zla,zql,zql,(eV jN _).length_eq]
   simp only [List.length_nil] at q1
   omega
theorem ayX {L:List S4} {i:Nat} (h:i<L.length):(L.take (i+1)).filter (λx=>decide (x.2.2.2>0))=(L.take i).filter (λx=>decide (x.2.2.2>0))++(if L[i].2.2.2>0 then [L[i]] else []):=by
 rw [List.take_succ_eq_append_getElem h,List.filter_append]
 congr 1
 by_cases e:L[i].2.2.2>0
 ·rw [zp e];simp [e]
 ·rw [zn e];simp [e]
theorem aBT {n:Nat} {w:Wr} {s:Sc} {b:Bs} {l:List Ot} (hK:ScK s) (hW:OpW n b) (hn:n+l.length<=20) (hk:w.knew.length<1000000000000) (hf:∀o∈l,lV o) (hl:l.length≠0) (h0:(fG w s b l).2=0):PF Tryz.prog 8 [.agg (scC s), .agg (bsC b), .seq (l.map Ot.cells), .agg w.who.cells, .seq (w.knew.map I1)] (.tup [.seq ((ofP w s b l).1.map Rg.cells),(vi (0))]):=by
 intro st
 have h1:=mS hK hW hn hk hf
 have hlen:=arR (w:=w) hK hW hn hf
 obtain ⟨r1,r2,r3,r4⟩:=aoR h0
 obtain ⟨_,r5,r6⟩:=fC.1 r1
 obtain ⟨f1,f2⟩:=oN r6 r5 hW hf r2
 have e:(ofP w s b l).1=(wM jN (iF w s b l [])).map rgP++((sumsP s b (aS w s b l).1).filter λx=>decide (x.2.2.2>0)).map rgS:=by unfold ofP;rw [zn hl,zn (by simp [h0]),r4]
 have hx:fG w s b l=((aS w s b l).1,0):=Prod.ext r4 h0
 rw [hx] at h1
 rw [e] at hlen⊢
 have hst:=λi=>aFJ r2 i
 have hbi:=λ(i:Nat) (hi:i<=l.length)=>oN r6 (l:=l.take i) r5 hW (λo ho=>hf o (List.mem_of_mem_take ho)) (hst i)
 have hnd:=aBj (w:=w) (s:=s) (l:=l) (b:=b) (M:=[]) List.nodup_nil
 have hsm:∀x∈wM jN (iF w s b l []),ahE x:=λx hx=>by
  rw [(eV jN _).mem_iff,aiE r6 r5 hW hf r2] at hx
  rcases hx with q|q
  ·cases q
  ·exact aeB r6 r5 hW hf r2 q
 have hSl:(sumsP s b (aS w s b l).1).length<=102400:=afO (λj=>by have:=(iT hW j).1;omega) (λj=>by have:=(iT f2 j).1;omega)
 have hsums:=acQ (hK.ck (hW.S (by omega)) (by omega)) (hK.ck (f2.S (by omega)) (by omega))
 have hall:=agL (avL (aU.1 r5).1.1) (w:=w) (M:=[]) hW hn hf
 simp only [List.length_nil] at hall
 rw [zla,zql,zql] at hlen
 have hlm:(l.map Ot.cells).length=l.length:=zql _
 have hstep:∀i (hi:i<l.length),bS w s (aS w s b (l.take i)).1 l[i]=((aS w s b (l.take (i+1))).1,0):=λi hi=>by
  have q:=auS hi (hst i)
  have q2:=hst (i+1)
  by_cases z:(bS w s (aS w s b (l.take i)).1 l[i]).2≠0
  ·rw [zp z] at q;rw [q] at q2;exact absurd q2 z
  ·rw [zn z] at q
   rw [q]
   exact Prod.ext rfl (zdn z)
 have hdo:∀i (hi:i<l.length),PF Tryz.prog 27 [.agg (scC s), .agg (bsC (aS w s b (l.take i)).1), .agg l[i].cells, .agg w.who.cells, .seq (w.knew.map I1)] (lU ((aS w s b (l.take (i+1))).1,0)):=λi hi=>by
  obtain ⟨q1,q2⟩:=hbi i (by omega)
  rw [zlt,Nat.min_eq_left (by omega)] at q2
  have q:=aDl (w:=w) (o:=l[i]) hK (n:=n+i) ⟨hK.sb,hK.len,q2,by omega,hk,hf _ (zgm hi)⟩
  unfold doP at q
  rw [zp (fC.2 ⟨(fC.1 r1).1,q1,r6⟩),hstep i hi] at q
  exact q
 have hacc:∀i (hi:i<l.length),iF w s b (l.take (i+1)) []=mH s (aS w s b (l.take i)).1 (aS w s b (l.take (i+1))).1 (iF w s b (l.take i) []):=λi hi=>by
  rw [aG4 hi (hst i),hstep i hi]
 have hturn:∀i (hi:i<l.length) (M:List P4) (id:Nat),_:=λi hi M id=>axS (hbi i (by omega)).1 (hbi (i+1) (by omega)).1 ((hbi i (by omega)).2.S (by rw [zlt];omega)) ((hbi (i+1) (by omega)).2.S (by rw [zlt];omega)) M st id
 clear hstep hbi hst
 have hfin:(aS w s b (l.take l.length)).1=(aS w s b l).1:=by rw [List.take_length]
 have hfa:iF w s b (l.take l.length) []=iF w s b l []:=by rw [List.take_length]
 have hl2:¬l=[]:=λe=>hl (by rw [e];rfl)
 refine pC Tryz.func8 rfl ?_
 focus ((repeat' first|(apply mkM (enc:=iV) (f:=bF);rfl;intro idm hidm)|(apply Cn.cf;focus ((apply h1);done))|apply wZ;rfl|show Cn _;constructor|apply wY;rfl|omega|(intro h;simp at h)))
 have hidm0:st idm=none:=hidm
 clear hidm
 refine aC (X:={x:Nat//x<=l.length}) (λi=>(((((((((((St.nil 126 (upd st idm (some (m4M (iF w s b (l.take i.1) []))))).pv 4 (.seq (w.knew.map I1))).var 5 24 ((scC s))).var 6 27 ((bsC b))).var 8 30 (w.who.cells)).var 12 27 (bsC (aS w s b l).1)).pv 14 (.mref idm)).var 15 27 (bsC (aS w s b (l.take i.1)).1)).pv 44 (.seq (l.map Ot.cells))).pv 45 ((vi ((((l.map Ot.cells)).length:Nat))))).pv 46 ((vi ((i.1:Nat)))))) (λi=>l.length-i.1) ⟨0,by omega⟩ ?_ (λi=> ?_)
 ·(repeat' first|exact .any (zsr _)|show Cn _;constructor|exact rfl)
 obtain ⟨i,hi⟩:=i
 dsimp only
 by_cases hend:¬l.length<=i
 ·have hil:i<l.length:=by omega
  have hd:=hdo i hil
  have ht:=hturn i hil (iF w s b (l.take i) []) idm
  rw [<-hacc i hil] at ht
  (repeat' first|(apply Cn.cf;focus ((apply hd);done))|(apply cP;rfl;(apply ht);rintro _ st' (rfl))|refine ⟨⟨i+1,by omega⟩, ?_, ?_⟩;((dsimp only))|show Cn (.t _ _);exact Cn.t0|apply wZ;rfl|show Cn _;constructor|exact rfl|apply wY;rfl|apply wI;rfl|apply gE;omega|omega|simp only [zql];omega|(intro h;simp at h))
 obtain rfl:i=l.length:=by omega
 rw [hfa,hfin]
 clear hdo hacc hturn hfin hfa
 generalize (aS w s b l).1=B at*
 generalize hM:iF w s b l []=M at*
 focus ((repeat' first|apply oO 66;rfl;exact aA _ _ _|(apply aDW pk;(iterate 5 rfl);intro it hit)|apply wZ;rfl|show Cn _;constructor|omega|(intro h;simp at h)))
 have hbase:StSub st (upd (upd st idm (some (m4M M))) idm none):=aR (aR (zsr _) hidm0) hidm0
 have hit0:st it=none:=acE hbase hit
 refine fK 20 93 4 rfl rfl rfl (λid hid=> ?_)
 have hid1:upd (upd (upd st idm (some (m4M M))) idm none) it (some (.iter none (aM iV bF (m4E M)))) id=none:=hid
 have hne:id≠it:=λe=>by rw [e,aA] at hid1;cases hid1
 have hid0:st id=none:=acE hbase (by rwa [aB hne] at hid1)
 have hsub:StSub (upd (upd st id (some (.arr 93 (([]:List P4).map p4C)))) it (some (.iter none (aM iV bF (m4E M))))) (upd (upd (upd (upd st idm (some (m4M M))) idm none) it (some (.iter none (aM iV bF (m4E M))))) id (some (.arr 93 []))):=by
  rw [eG hne];exact vW (vW hbase)
 have hp0:(([]:List P4)++(m4E M).map (·.1)).Perm M:=by rw [List.nil_append,aFZ]
 clear hbase hit hid hid1
 refine aC (X:={x:List (P4×Bool)×List P4×Nat×Option (Value×PV)//st x.2.2.1=none/\x.2.2.1≠it/\(x.2.1++x.1.map (·.1)).Perm M}) (λq=>((((((St.nil 126 (upd (upd st q.1.2.2.1 (some (.arr 93 (q.1.2.1.map p4C)))) it (some (.iter q.1.2.2.2 (aM iV bF q.1.1))))).var 5 24 ((scC s))).var 6 27 ((bsC b))).var 12 27 (bsC B)).pv 20 (.vec q.1.2.2.1 4 0 q.1.2.1.length)).pv 67 (.ref it 0))) (λq=>q.1.1.length) ⟨(m4E M,[],id,none),hid0,hne,hp0⟩ ?_ (λq=> ?_)
 ·dsimp only
  (repeat' first|exact .any hsub|show Cn _;constructor|exact rfl)
 clear hid0 hne hsub hp0
 obtain ⟨⟨rest,out,id,cur⟩,hid0,hne,hp⟩:=q
 dsimp only at hid0 hne hp
 dsimp only
 have hlo:out.length<=1000000000:=by have:=hp.length_eq;rw [zla] at this;omega
 (repeat' first|apply wZ;rfl|show Cn _;constructor|(apply aGI;rfl;exact aA _ _ _;rfl;rfl;rfl;intro hleft;rotate_left;intro j e he;rotate_left))
 ·obtain rfl:=arP hleft
  rw [List.map_nil,List.append_nil] at hp
  have hlr:∀R:List P4,R.Perm out->(R.Pairwise λx y=>jN y x=false)->R=wM jN M:=λR h1 h2=>axA aCN hnd (h1.trans hp) h2
  focus ((repeat' first|(apply cP;rfl;(apply (aAP out ((aB hne).trans (aA _ _ _)) rfl (by omega)));rintro _ st' (⟨R,rfl,hR1,hR2⟩))|apply wZ;rfl|show Cn _;constructor|apply wY;rfl))
  have hR:=hlr R hR1 hR2
  have hRl:(R.map p4C).length=out.length:=by rw [zql];exact hR1.length_eq
  have hol:out.length=(wM jN M).length:=by rw [<-hR];exact hR1.length_eq.symm
  have hbig:StSub st (upd (upd (upd (upd st id (some (.arr 93 (out.map p4C)))) it (some (.iter cur (aM iV bF [])))) id (some (.arr 93 (R.map p4C)))) id none):=aR (aR (aR (aR (zsr _) hid0) hit0) hid0) hid0
  refine yJ 78 rfl (aA _ _ _) aEJ hRl ?_
  refine fK 22 86 6 rfl rfl rfl (λid2 hid2=> ?_)
  have hid20:st id2=none:=acE hbig hid2
  have hsub2:=vW hbig (id:=id2) (a:=some (.arr 86 []))
  clear hbig hid2 hlr hR1 hR2 hRl
  subst hR
  generalize wM jN M=S at*
  refine aC (X:={x:Nat×Nat//x.1<=S.length/\st x.2=none}) (λq=>((((((((St.nil 126 (upd st q.1.2 (some (.arr 86 (((S.take q.1.1).map rgP).map Rg.cells))))).var 5 24 ((scC s))).var 6 27 ((bsC b))).var 12 27 (bsC B)).pv 22 (.vec q.1.2 6 0 ((S.take q.1.1).map rgP).length)).pv 78 (.seq (S.map p4C))).pv 79 ((vi ((out.length:Nat))))).pv 80 ((vi ((q.1.1:Nat)))))) (λq=>S.length-q.1.1) ⟨(0,id2),by simp,hid20⟩ ?_ (λq=> ?_)
  ·dsimp only
   (repeat' first|exact .any hsub2|show Cn _;constructor|exact rfl)
  clear hsub2 hid20
  obtain ⟨⟨q,id2⟩,hq,hid2⟩:=q
  simp only at hq hid2
  dsimp only
  by_cases hend2:S.length<=q
  ·obtain rfl:q=S.length:=by omega
   rw [List.take_length]
   generalize hL:sumsP s b B=L at*
   have hAm:(S.map rgP).length=S.length:=zql _
   generalize S.map rgP=A at*
   have hAl:A.length<=100000000:=by omega
   have hfl:=λj=>List.length_filter_le (λx:S4=>decide (x.2.2.2>0)) (L.take j)
   focus ((repeat' first|(apply Cn.cf;focus ((apply hsums);done))|apply wZ;rfl|show Cn _;constructor|apply wY;rfl|omega|(intro h;simp at h)))
   refine aC (X:={x:Nat×Nat//x.1<=L.length/\st x.2=none}) (λz=>(((((St.nil 126 (upd st z.1.2 (some (.arr 86 ((A++((L.take z.1.1).filter λx=>decide (x.2.2.2>0)).map rgS).map Rg.cells))))).pv 22 (.vec z.1.2 6 0 (A++((L.take z.1.1).filter λx=>decide (x.2.2.2>0)).map rgS).length)).pv 103 (.seq (L.map s4C))).pv 104 ((vi (((L.map s4C).length:Nat))))).pv 105 ((vi ((z.1.1:Nat)))))) (λz=>L.length-z.1.1) ⟨(0,id2),by simp,hid2⟩ ?_ (λz=> ?_)
   ·dsimp only
    rw [show A++((L.take 0).filter λx=>decide (x.2.2.2>0)).map rgS=A from by simp]
    (repeat' first|show Cn (.t _ _);exact Cn.t0|show Cn _;constructor|exact rfl)
   obtain ⟨⟨z,id3⟩,hz,hid3⟩:=z
   simp only at hz hid3
   dsimp only
   have hfz:=hfl z
   by_cases hend3:L.length<=z
   ·obtain rfl:z=L.length:=by omega
    rw [List.take_length]
    (repeat' first|refine yJ 10 rfl (aA _ _ _) aFb (by simp) ?_;refine yX ?_;exact Cn.any ⟨_,_,st,rfl,zwr _,aR (aR (zsr _) hid3) hid3,rfl,rfl⟩|apply wZ;rfl|show Cn _;constructor|simp only [zql];omega|(intro h;simp at h))
   have hzl:z<L.length:=by omega
   have hft:=ayX hzl
   have hfl2:((L.take z).filter λx=>decide (x.2.2.2>0)).length<=100000000:=by
    have:=((List.take_sublist z L).filter (λx:S4=>decide (x.2.2.2>0))).length_le
    omega
   by_cases hp0:L[z].2.2.2>0
   ·rw [zp hp0] at hft
    generalize (L.take z).filter (λx=>decide (x.2.2.2>0))=F at*
    have hft2:A++((L.take (z+1)).filter λx=>decide (x.2.2.2>0)).map rgS=A++F.map rgS++[rgS L[z]]:=by rw [hft,List.map_append,<-List.append_assoc];rfl
    have hAF:(A++F.map rgS).length=A.length+F.length:=by simp
    (repeat' first|refine ⟨⟨(z+1,id'),by simp only;omega,dK hid'⟩, ?_, ?_⟩;((dsimp only;rw [hft2]))|show Cn (.t _ _);exact .any (bP ‹_›)|apply wZ;rfl|show Cn _;constructor|exact rfl|show _=_;((simp;omega))|(apply apV pk (f:=Rg.cells) [rgS L[z]] 48;(iterate 9 rfl);(exact aA _ _ _);(omega);exact λ_=>rfl;exact λ_=>rfl;exact atQ;((focus (simp;omega)));((focus (simp;omega)));rfl;intro id' hid')|apply jK pk 0;(iterate 5 rfl);(focus repeat' constructor);rfl;(intro _;rfl);(intro _;omega);rfl|apply jK pk 1;(iterate 5 rfl);(focus repeat' constructor);rfl;(intro _;rfl);(intro _;omega);rfl|apply jK pk 2;(iterate 5 rfl);(focus repeat' constructor);rfl;(intro _;rfl);(intro _;omega);rfl|apply jK pk 3;(iterate 5 rfl);(focus repeat' constructor);rfl;(intro _;rfl);(intro _;omega);rfl|apply wI;rfl|apply gE;omega|omega|simp only [zql];omega|(intro h;simp at h))
   ·rw [zn hp0,List.append_nil] at hft
    (repeat' first|refine ⟨⟨(z+1,id3),by simp only;omega,hid3⟩, ?_, ?_⟩;((dsimp only;rw [hft]))|apply wZ;rfl|show Cn _;constructor|exact rfl|apply jK pk 3;(iterate 5 rfl);(focus repeat' constructor);rfl;(intro _;rfl);(intro _;omega);rfl|apply wI;rfl|apply gE;omega|omega|simp only [zql];omega|(intro h;simp at h))
  have hql:q<S.length:=by omega
  have hup:(S.take (q+1)).map rgP=(S.take q).map rgP++[rgP S[q]]:=by rw [List.take_succ_eq_append_getElem hql,List.map_append];rfl
  obtain ⟨n1,n2⟩:=hsm _ (zgm hql)
  have hml:((S.take q).map rgP).length=q:=by rw [zql,zlt];omega
  (repeat' first|refine ⟨⟨(q+1,id'),by simp only;omega,dK hid'⟩, ?_, ?_⟩;((dsimp only;rw [hup]))|show Cn (.t _ _);exact .any (bP ‹_›)|apply wZ;rfl|show Cn _;constructor|exact rfl|show _=_;(simp)|(apply apV pk (f:=Rg.cells) [rgP S[q]] 48;(iterate 9 rfl);(exact aA _ _ _);(omega);exact λ_=>rfl;exact λ_=>rfl;exact atQ;((focus (simp;omega)));((focus (simp;omega)));rfl;intro id' hid')|apply jK pk 0;(iterate 5 rfl);(focus repeat' constructor);rfl;(intro _;rfl);(intro _;omega);rfl|apply jK pk 1;(iterate 5 rfl);(focus repeat' constructor);rfl;(intro _;rfl);(intro _;omega);rfl|apply jK pk 2;(iterate 5 rfl);(focus repeat' constructor);rfl;(intro _;rfl);(intro _;omega);rfl|apply jK pk 3;(iterate 5 rfl);(focus repeat' constructor);rfl;(intro _;rfl);(intro _;omega);rfl|apply wI;rfl|apply gE;omega|omega|simp only [zql];omega|(intro h;simp at h))
 ·obtain ⟨x,hx,rfl⟩:=asI he
  have hp2:=aqE hx hp
  have hlt:(rest.eraseIdx j).length<rest.length:=by
   have:=(zge.1 hx).1
   rw [List.length_eraseIdx_of_lt this];omega
  have hit2:=Ne.symm hne
  rw [agY]
  have hkey:=aHb x.1
  (repeat' first|refine ⟨⟨(rest.eraseIdx j,out++[x.1],id',some (iV x.1,bF x.2)),(vX hid').1,(vX hid').2,hp2⟩, ?_, ?_⟩;((dsimp only))|show Cn (.s _ (St.nil _ _));refine .any ?_;exact Sub.nil _ _ _ (axI hid0 hit2 (Ne.symm (vX hid').2)) rfl|apply wZ;rfl|show Cn _;constructor|exact rfl|show _=_;((simp;done))|(apply apV pk (f:=p4C) [x.1] 32;(iterate 9 rfl);((focus ((repeat (first|exact aA _ _ _|refine (aB ‹_›).trans ?_));done)));(omega);exact λ_=>rfl;exact λ_=>rfl;exact aFC;((focus (simp;omega)));((focus (simp;omega)));rfl;intro id' hid')|apply aDe;rfl;rfl;exact aA _ _ _;exact hkey;rotate_left;rfl;rfl|omega)
def ayK (kind table col n:Int) (r:Rg):Prop:=(((r.kind=kind/\r.table=table)/\r.col=col)/\r.lo<=n)/\n<r.hi
theorem aF0 {l:List Rg} {kind table col n:Int} (h:∀j (hj:j<l.length),¬ayK kind table col n l[j]):uH l kind table col n=false:=by
 unfold uH
 rw [List.any_eq_false]
 intro r hr q
 obtain ⟨j,hj,rfl⟩:=zgo hr
 rw [zde] at q
 exact h j hj ⟨⟨⟨⟨q.1,q.2.1⟩,q.2.2.1⟩,q.2.2.2.1⟩,q.2.2.2.2⟩
theorem aBD {l:List Rg} {kind table col n:Int} {j:Nat} (hj:j<l.length) (h:ayK kind table col n l[j]):uH l kind table col n=true:=by
 unfold uH
 rw [List.any_eq_true]
 exact ⟨_,zgm hj,decide_eq_true ⟨h.1.1.1.1,h.1.1.1.2,h.1.1.2,h.1.2,h.2⟩⟩
theorem afC (l:List Rg) (kind table col n:Int) (hl:l.length<1000000000000):PF Tryz.prog 11 [.seq (l.map Rg.cells),(vi (kind)),(vi (table)),(vi (col)),(vi (n))] (vb (uH l kind table col n)):=by
 have hno:=aF0 (l:=l) (kind:=kind) (table:=table) (col:=col) (n:=n)
 have hyes:=λj (hj:j<l.length)=>aBD (kind:=kind) (table:=table) (col:=col) (n:=n) hj
 generalize uH l kind table col n=B at*
 refine pF Tryz.func11 rfl (λst=> ?_)
 focus ((repeat' first|apply wZ;rfl|show Cn _;constructor))
 refine aC (X:={x:Nat//x<=l.length/\∀j (hj:j<l.length),j<x->¬ayK kind table col n l[j]}) (λi=>(((((((St.nil 61 st).pv 0 (.seq (l.map Rg.cells))).pv 1 ((vi (kind)))).pv 2 ((vi (table)))).pv 3 ((vi (col)))).pv 4 ((vi (n)))).pv 11 ((vi ((i.1:Nat)))))) (λi=>l.length-i.1) ⟨0,by omega,by omega⟩ ?_ (λi=> ?_)
 ·(repeat' first|show Cn _;constructor|exact rfl)
 obtain ⟨i,hi,hI⟩:=i
 dsimp only
 by_cases hend:l.length<=i
 ·have e:B=false:=hno λj hj=>hI j hj (by omega)
  (repeat' first|apply wZ;rfl|show Cn _;constructor|exact rfl|show (_:PV)=_;(rw [e]);done|simp only [zql];omega|(intro h;simp at h))
 have hil:i<l.length:=by omega
 have hy:=hyes i hil
 have hup:¬ayK kind table col n l[i]->∀j (hj:j<l.length),j<i+1->¬ayK kind table col n l[j]:=λh j hj hji=>by
  rcases zls.1 hji with q|q
  ·exact hI j hj q
  ·subst q;exact h
 unfold ayK at hy hup
 have hup:(l[i].kind=kind->l[i].table=table->l[i].col=col->l[i].lo<=n->l[i].hi<=n)->_:=λh=>hup λq=>absurd (h q.1.1.1.1 q.1.1.1.2 q.1.1.2 q.1.2) (by have:=q.2;omega)
 (repeat' first|(refine ⟨⟨i+1,by omega,hup ‹_›⟩, ?_, ?_⟩)|apply wZ;rfl|show Cn _;constructor|exact rfl|show (_:PV)=_;(rw [hy ‹_›]);done|apply wI;rfl|apply gE;omega|omega|simp only [zql];omega|(intro h;simp at h))
end
section
attribute [local irreducible] Ev PWp
set_option maxRecDepth 10000
set_option maxHeartbeats 4000000
theorem acS (s:Sc) (b:Bs) (l:List Ot) (kn:List Int) (hs:ScG s) (hb:BsB b) (hl:l.length<200000000000000) (hro:∀o∈l,o.row.length<200000000000000):PF Tryz.prog 6 [.agg (scC s), .agg (bsC b), .seq (l.map Ot.cells), .seq (kn.map I1)] (vb ((fewC s b&&(decide ((l.length:Int)<=12)&&l.all fI))&&decide ((kn.length:Int)<=80))):=by
 have h1:=azR s b hs.l hs.b hs.k hb
 have h2:=aiL l 12 hl hro
 generalize fewC s b=F at*
 generalize (decide ((l.length:Int)<=12)&&l.all fI)=G at*
 refine pF Tryz.func6 rfl (λst=> ?_)
 (repeat' first|apply wZ;rfl|show Cn _;constructor|exact rfl|((first|apply h1|apply h2))|show (_:PV)=_;((simp;done));done|apply wY;rfl)
structure Goes (w:Wr) (s:Sc) (b:Bs) (l:List Ot):Prop where
 may:pG w=true
 was:bH T.rightP s b=true
 fold:(aS w s b l).2=0
 eq:(fG w s b l).1=(aS w s b l).1
 is:bH T.rightP s (aS w s b l).1=true
 size:OpW l.length (aS w s b l).1
theorem agF {w:Wr} {s:Sc} {b:Bs} {l:List Ot} (hW:OpW 0 b) (hf:∀o∈l,lV o) (h:(fG w s b l).2=0):Goes w s b l:=by
 obtain ⟨r1,r2,r3,r4⟩:=aoR h
 obtain ⟨_,r5,r6⟩:=fC.1 r1
 obtain ⟨f1,f2⟩:=oN r6 r5 hW hf r2
 exact ⟨r6,r5,r2,r4,f1,by simpa using f2⟩
theorem atL {w:Wr} {s:Sc} {b:Bs} {l:List Ot} (hW:OpW 0 b) (hf:∀o∈l,lV o) (hl:l.length≠0) (h:(fG w s b l).2=0) {k t c n:Int} (hk:k≠3) (hh:uH (ofP w s b l).1 k t c n=false):¬uQ w s b l (k,t,c,n):=λq=>by
 have g:=agF hW hf h
 rw [aEh hl h hk,decide_eq_false_iff_not] at hh
 exact hh ((aiE g.may g.was hW hf g.fold).2 (.inr q))
section
variable (hA:PF Tryz.prog 7 [] (vb (true)))
include hA
theorem abF (s:Sc) (b:Bs) (l:List Ot) (who:T.Sp) (kn:List Int) (hs:ScG s) (hb:BsB b) (hl:l.length<200000000000000) (hro:∀o∈l,o.row.length<200000000000000) (hkn:kn.length<200000000000000):PF Tryz.prog 3 [.agg (scC s), .agg (bsC b), .seq (l.map Ot.cells), .agg who.cells, .seq (kn.map I1)] (vb (true)):=by
 have hf:=acS s b l kn hs hb hl hro
 by_cases g0:¬(((fewC s b=true/\((l.length:Int)<=12/\l.all fI=true))/\(kn.length:Int)<=80)/\l.length≠0)
 ·have e:((fewC s b&&(decide ((l.length:Int)<=12)&&l.all fI))&&decide ((kn.length:Int)<=80))=false\/l.length=0:=by
   rw [<-Bool.not_eq_true]
   simp only [zba,zde]
   exact Decidable.or_iff_not_imp_left.2 λq=>Decidable.byContradiction λq2=>g0 ⟨zdn q,q2⟩
  rcases e with e|e
  ·rw [e] at hf
   refine pF Tryz.func3 rfl (λst=> ?_)
   (repeat' first|apply wZ;rfl|show Cn _;constructor|exact rfl|((first|apply hA|apply hf))|apply wY;rfl)
  ·generalize ((fewC s b&&(decide ((l.length:Int)<=12)&&l.all fI))&&decide ((kn.length:Int)<=80))=F at*
   refine pF Tryz.func3 rfl (λst=> ?_)
   (repeat' first|apply wZ;rfl|show Cn _;constructor|exact rfl|((first|apply hA|apply hf))|apply wY;rfl|((exfalso;first|simp only [zql] at*;omega|simp_all;done))|(intro h;simp at h))
 obtain ⟨⟨⟨g1,g2,g2'⟩,g3⟩,hl0⟩:=zdn g0
 rw [g1,g2',decide_eq_true g2,decide_eq_true g3] at hf
 rw [zal] at g2'
 obtain ⟨hK,hW⟩:=ScK.of g1 hs.b hs.k
 have hfw:∀o∈l,lV o:=λo ho=>qW.1 (g2' o ho)
 have hall:=mS (w:=⟨who,kn⟩) hK hW (l:=l) (by omega) (by dsimp only;omega) hfw
 dsimp only at hall
 by_cases he:(fG ⟨who,kn⟩ s b l).2≠0
 ·have hof:=aCH (w:=⟨who,kn⟩) hK hW (by omega) (by dsimp only;omega) hfw hl0 he
  have e:ofP ⟨who,kn⟩ s b l=([],(fG ⟨who,kn⟩ s b l).2):=by unfold ofP;rw [zn hl0,zp he]
  rw [e] at hof
  generalize fG ⟨who,kn⟩ s b l=R at*
  obtain ⟨B,e⟩:=R
  unfold aD9 at hof
  unfold lU at hall
  dsimp only at hall he hof
  refine pF Tryz.func3 rfl (λst=> ?_)
  (repeat' first|apply wZ;rfl|show Cn _;constructor|exact rfl|((first|apply hA|apply hf|apply hall|apply hof))|show (_:PV)=_;((simp [he];done));done|apply wY;rfl|simp only [zql];omega|intro h;simp at h;omega|(intro h;simp at h))
 have he:=zdn he
 have hof:=aBT (w:=⟨who,kn⟩) hK hW (by omega) (by dsimp only;omega) hfw hl0 he
 have hG:=agF hW hfw he
 have hh:=λ(k t c n:Int) (hk:k≠3)=>atL hW hfw hl0 he (k:=k) (t:=t) (c:=c) (n:=n) hk
 have hRl:=arR (w:=⟨who,kn⟩) hK hW (by omega) hfw (l:=l)
 have hx:fG ⟨who,kn⟩ s b l=((aS ⟨who,kn⟩ s b l).1,0):=Prod.ext hG.eq he
 rw [hx] at hall
 have hlen:(aS ⟨who,kn⟩ s b l).1.length=b.length:=(aU.1 hG.is).1.2.trans (aU.1 hG.was).1.2.symm
 have hbs:b.length=s.length:=(aU.1 hG.was).1.2
 have hrow:=λ(k:Nat) (hk:k<b.length) key (q:uH (ofP ⟨who,kn⟩ s b l).1 1 (k:Int) 0 key=false)=>ajS (w:=⟨who,kn⟩) (s:=s) (k:=k) (by omega) (key:=key) hG.fold (hh 1 (k:Int) 0 key (by decide) q)
 have hKb:=λk:Int=>eO hG.was k
 have hKB:=λk:Int=>eO hG.is k
 have hS1:BsS 200 b:=hW.S (by omega)
 have h20:=hS1.1
 have hS2:BsS 200 (aS ⟨who,kn⟩ s b l).1:=hG.size.S (by omega)
 have hhas:=λk t c n=>afC (ofP ⟨who,kn⟩ s b l).1 k t c n (by omega)
 clear hG hh hx
 generalize (ofP ⟨who,kn⟩ s b l).1=R at*
 generalize (aS ⟨who,kn⟩ s b l).1=B at*
 have hg1:=λk key=>kY B k key λd hd=>by have:=(hS2.2 d hd).1;omega
 have hg2:=λk key=>kY b k key λd hd=>by have:=(hS1.2 d hd).1;omega
 have hml:(b.map Da.cells).length=b.length:=zql _
 have hmB:(B.map Da.cells).length=B.length:=zql _
 unfold lU at hall
 dsimp only at hall
 refine pF Tryz.func3 rfl (λst=> ?_)
 focus ((repeat' first|apply wZ;rfl|show Cn _;constructor|((first|apply hf|apply hall|apply hof))|apply wY;rfl|omega|simp only [zql];omega|(intro h;simp at h)))
 refine aC (X:={x:Nat//x<=b.length}) (λi=>((((((St.nil 153 st).var 6 27 ((bsC b))).pv 11 (.seq (R.map Rg.cells))).var 13 27 (bsC B)).pv 81 ((vi (((b.map Da.cells).length:Nat))))).pv 82 ((vi ((i.1:Nat)))))) (λi=>b.length-i.1) ⟨0,by omega⟩ ?_ (λi=> ?_)
 ·(repeat' first|show Cn _;constructor|exact rfl)
 obtain ⟨i,hi⟩:=i
 dsimp only
 by_cases hend:b.length<=i
 ·(repeat' first|apply wZ;rfl|show Cn _;constructor|exact rfl|(apply hA)|apply wY;rfl|omega|(intro h;simp at h))
 have hk:i<b.length:=by omega
 have hkB:i<B.length:=by omega
 have w1:aF b (i:Nat)=b[i].lines:=eZ hk
 have w2:aF B (i:Nat)=B[i].lines:=eZ hkB
 have z1:=(hS1.2 _ (zgm hk)).1
 have z2:=(hS2.2 _ (zgm hkB)).1
 have hrow:=hrow i hk
 focus ((repeat' first|apply wZ;rfl|show Cn _;constructor|exact rfl|apply wI;rfl|apply gE;omega|omega|(intro h;simp at h)))
 refine aC (X:={x:Nat//x<=b[i].lines.length}) (λy=>((((((((((St.nil 153 st).var 6 27 ((bsC b))).pv 11 (.seq (R.map Rg.cells))).var 13 27 (bsC B)).pv 15 ((vi ((i:Nat))))).pv 81 ((vi (((b.map Da.cells).length:Nat))))).pv 82 ((vi ((i:Nat))))).pv 90 (.seq (b[i].lines.map Ln.cells))).pv 91 ((vi (((b[i].lines.map Ln.cells).length:Nat))))).pv 92 ((vi ((y.1:Nat)))))) (λy=>b[i].lines.length-y.1) ⟨0,by omega⟩ ?_ (λy=> ?_)
 ·(repeat' first|show Cn _;constructor|exact rfl)
 obtain ⟨y,hy⟩:=y
 dsimp only
 by_cases hend1:b[i].lines.length<=y
 ·focus ((repeat' first|apply wZ;rfl|show Cn _;constructor|exact rfl|apply wI;rfl|apply gE;omega|simp only [zql];omega|(intro h;simp at h)))
  refine aC (X:={x:Nat//x<=B[i].lines.length}) (λz=>((((((((((St.nil 153 st).var 6 27 ((bsC b))).pv 11 (.seq (R.map Rg.cells))).var 13 27 (bsC B)).pv 15 ((vi ((i:Nat))))).pv 81 ((vi (((b.map Da.cells).length:Nat))))).pv 82 ((vi ((i:Nat))))).pv 126 (.seq (B[i].lines.map Ln.cells))).pv 127 ((vi (((B[i].lines.map Ln.cells).length:Nat))))).pv 128 ((vi ((z.1:Nat)))))) (λz=>B[i].lines.length-z.1) ⟨0,by omega⟩ ?_ (λz=> ?_)
  ·(repeat' first|show Cn _;constructor|exact rfl)
  obtain ⟨z,hz⟩:=z
  dsimp only
  by_cases hend2:B[i].lines.length<=z
  ·(repeat' first|(refine ⟨⟨i+1,by omega⟩, ?_, ?_⟩)|apply wZ;rfl|show Cn _;constructor|exact rfl|omega|simp only [zql];omega|(intro h;simp at h))
  have hzl:z<B[i].lines.length:=by omega
  have hg:=hg2 (i:Nat) B[i].lines[z].key
  rw [nT] at hg
  have hH:=hhas 1 (i:Int) 0 B[i].lines[z].key
  have hr:=hrow B[i].lines[z].key
  have he:bE (aF B (i:Nat)) B[i].lines[z].key=some B[i].lines[z]:=(iP (hKB (i:Nat))).2 ⟨by rw [w2];exact zgm hzl,rfl⟩
  rw [he] at hr
  by_cases hq:uH R 1 (i:Int) 0 B[i].lines[z].key=false
  ·rw [<-hr hq] at hg
   rw [hq] at hH
   (repeat' first|(refine ⟨⟨z+1,by omega⟩, ?_, ?_⟩)|apply wZ;rfl|show Cn _;constructor|exact rfl|((first|apply hg|apply hH))|apply wY;rfl|apply wI;rfl|apply gE;omega|omega|simp only [zql];omega|(intro h;simp at h))
  ·rw [Bool.not_eq_false] at hq
   rw [hq] at hH
   generalize bE (aF b (i:Nat)) B[i].lines[z].key=Q at*
   (repeat' first|(refine ⟨⟨z+1,by omega⟩, ?_, ?_⟩)|apply wZ;rfl|show Cn _;constructor|exact rfl|((first|apply hg|apply hH))|apply wY;rfl|apply wI;rfl|apply gE;omega|omega|simp only [zql];omega|intro h;simp at h;done|(intro h;simp at h))
 have hyl:y<b[i].lines.length:=by omega
 have hg:=hg1 (i:Nat) b[i].lines[y].key
 rw [nT] at hg
 have hH:=hhas 1 (i:Int) 0 b[i].lines[y].key
 have hr:=hrow b[i].lines[y].key
 have he:bE (aF b (i:Nat)) b[i].lines[y].key=some b[i].lines[y]:=(iP (hKb (i:Nat))).2 ⟨by rw [w1];exact zgm hyl,rfl⟩
 rw [he] at hr
 obtain ⟨s1,s2,s3⟩:=hS2.got (i:Nat) b[i].lines[y].key
 have hsl:=adI ((bE (aF B (i:Nat)) b[i].lines[y].key).getD Ln.zero) b[i].lines[y] (by omega) (by omega) λc hc=>by have:=s3 c hc;omega
 by_cases hq:uH R 1 (i:Int) 0 b[i].lines[y].key=false
 ·rw [hr hq] at hg hsl
  rw [hq] at hH
  dsimp only [Option.getD_some] at hg hsl
  rw [decide_eq_true rfl] at hsl
  (repeat' first|(refine ⟨⟨y+1,by omega⟩, ?_, ?_⟩)|apply wZ;rfl|show Cn _;constructor|exact rfl|((first|apply hg|apply hH|apply hsl))|apply wY;rfl|apply wI;rfl|apply gE;omega|omega|simp only [zql];omega|(intro h;simp at h))
 ·rw [Bool.not_eq_false] at hq
  rw [hq] at hH
  generalize bE (aF B (i:Nat)) b[i].lines[y].key=Q at*
  generalize decide (Q.getD Ln.zero=b[i].lines[y])=D at*
  (repeat' first|(refine ⟨⟨y+1,by omega⟩, ?_, ?_⟩)|apply wZ;rfl|show Cn _;constructor|exact rfl|((first|apply hg|apply hH|apply hsl))|apply wY;rfl|apply wI;rfl|apply gE;omega|omega|simp only [zql];omega|(intro h;simp at h))
end
end
end Go.Proofs.YtfablfldonhkiaaGreatDoor
