import Derived.Test.YtfablfldonhkiaaGreatDoorClAu
import Derived.Test.YtfablfldonhkiaaGreatDoorClAl
set_option linter.unusedSimpArgs false
set_option linter.unusedVariables false
namespace Go.Proofs.YtfablfldonhkiaaGreatDoor
open Go Go.Abs
section
attribute [local irreducible] Ev PWp
set_option maxRecDepth 10000
set_option maxHeartbeats 4000000
def oB (row old:List Vl) (c:Nat):Bool:=decide (row[c]!.kind=1)&&(decide (old.length=0)||decide (old[c]!≠row[c]!))
theorem agS {a:Bool} {n:Nat} (h:gw a (decide ((n:Int)=0)) false=true) (hn:n=0):False:=by
 subst hn
 cases a<;>cases h
theorem uG (row old:List Vl) (c:Nat) (h1:c<row.length) (h2:old.length≠0->c<old.length):PF Tryz.prog 14 ([(vi ((c:Nat)))]++[.rp [.seq (row.map Vl.cells)], .rp [.seq (old.map Vl.cells)]]) (vb (oB row old c)):=by
 have hml:(old.map Vl.cells).length=old.length:=zql _
 have hr:(row.map Vl.cells)[c]?=some (row[c]!).cells:=by rw [List.getElem?_map,zgg h1,getElem!_pos row c h1];rfl
 have ho:old.length≠0->(old.map Vl.cells)[c]?=some (old[c]!).cells:=λq=>by
  have:=h2 q
  rw [List.getElem?_map,zgg this,getElem!_pos old c this];rfl
 have e:oB row old c=(decide (row[c]!.kind=1)&&(decide (((old.map Vl.cells).length:Int)=0)|| !(decide (old[c]!.kind=row[c]!.kind)&&(decide (old[c]!.n=row[c]!.n)&&decide (old[c]!.s=row[c]!.s))))):=by
  unfold oB
  rw [Vl.eqb,hml,Bool.eq_iff_iff]
  simp
 rw [e]
 by_cases h0:old.length=0
 ·obtain rfl:=List.eq_nil_of_length_eq_zero h0
  refine pF Tryz.func14 rfl (λst=> ?_)
  (repeat' first|apply wZ;rfl|show Cn _;constructor|exact rfl|apply KR.mk;kernel_rfl|apply cN pk;(iterate 6 rfl);rotate_left;rfl;(intro hw;rfl);(intro hw;apply hr<;>omega);(intro _;rfl);rfl|apply cN pk (j:=0) (row:=Vl.zero.cells);(iterate 6 rfl);rotate_left;rfl;(intro hw;exact (agS hw rfl).elim);(intro hw;exact (agS hw rfl).elim);(intro hw;exact (agS hw rfl).elim);rfl)
 ·have hO:=ho h0
  refine pF Tryz.func14 rfl (λst=> ?_)
  (repeat' first|apply wZ;rfl|show Cn _;constructor|exact rfl|apply KR.mk;kernel_rfl|apply cN pk;(iterate 6 rfl);rotate_left;rfl;(intro hw;rfl);(intro hw;apply hr<;>omega);(intro _;rfl);rfl|apply cN pk;(iterate 6 rfl);rotate_left;rfl;(intro hw;rfl);(intro hw;apply hO<;>omega);(intro _;rfl);rfl)
theorem aBg {l:Ln} {u:Int} (h0:0<=u) (h1:u<l.cells_.length) (hk:fR l u):ptP l u=if (l.cells_.map bL)[u.toNat]!.kind=1 then some (l.cells_.map bL)[u.toNat]!.n else none:=by
 obtain ⟨c,rfl⟩:∃c:Nat,u=c:=⟨u.toNat,by omega⟩
 have hc:c<l.cells_.length:=by omega
 have hs:bL l.cells_[c]=l.cells_[c].val:=by unfold bL;rw [zp (hk c hc rfl)]
 rw [ahT hc,Int.toNat_natCast,getElem!_pos (l.cells_.map bL) c (by rw [zql];exact hc),List.getElem_map,hs]
theorem agP {s:Sc} {b:Bs} (hb:bH T.rightP s b=true) {k:Nat} (hk:k<s.length) {u:Int} (hu:yT s k u) {l:Ln} (hl:l∈aF b (k:Int)):u<l.cells_.length/\bX (l.cells_.map bL)[u.toNat]! =true:=by
 have hL:=tL hb hk hl
 have hlen:=hL.len
 obtain ⟨u0,u1,u2⟩:=hu
 have hj:u.toNat<l.cells_.length:=by omega
 have hkd:l.cells_[u.toNat].kind=0:=by rw [hL.kind _ hj];exact u2
 have hs:bL l.cells_[u.toNat]=l.cells_[u.toNat].val:=by unfold bL;rw [zp hkd]
 refine ⟨by omega, ?_⟩
 rw [getElem!_pos (l.cells_.map bL) _ (by rw [zql];exact hj),List.getElem_map,hs]
 have hc:=hL.cell _ (zgm hj)
 unfold iU at hc
 rw [zp hkd,zba] at hc
 exact hc.1
theorem aGV {v w:Vl} (h1:bX v=true) (h2:bX w=true) (k1:v.kind=1) (k2:w.kind=1) (hn:v.n=w.n):v=w:=by
 unfold bX at h1 h2
 rw [zn (by omega),zp k1] at h1
 rw [zn (by omega),zp k2] at h2
 simp only [zba,zde] at h1 h2
 exact (Vl.ext_iff _ _).2 ⟨k1.trans k2.symm,hn,by simp_all⟩
theorem xJ {s:Sc} {b B:Bs} (hb:bH T.rightP s b=true) (hB:bH T.rightP s B=true) {k:Nat} (hk:k<s.length) {u:Int} (hu:yT s k u) {l:Ln} (hl:l∈aF B (k:Int)) {R:Int->Prop} (hR:∀n,¬R n->ptP ((bE (aF B (k:Int)) l.key).getD Ln.zero) u=some n->ptP ((bE (aF b (k:Int)) l.key).getD Ln.zero) u=some n)
  (hf:oB (l.cells_.map bL) (((bE (aF b (k:Int)) l.key).getD Ln.zero).cells_.map bL) u.toNat=true):R (l.cells_.map bL)[u.toNat]!.n:=by
 refine Classical.byContradiction λhn=> ?_
 have he:bE (aF B (k:Int)) l.key=some l:=(iP (eO hB k)).2 ⟨hl,rfl⟩
 obtain ⟨c1,v1⟩:=agP hB hk hu hl
 unfold oB at hf
 rw [zba,zde,Bool.or_eq_true,zde,zde] at hf
 obtain ⟨f1,f2⟩:=hf
 have hp:=hR _ hn
 rw [he] at hp
 have hq:=hp (by rw [Option.getD_some,aBg hu.1 c1 (sO hB hk hu hl),zp f1])
 cases e2:bE (aF b (k:Int)) l.key with
 |none=>rw [e2] at hq;rw [show ((none:Option Ln).getD Ln.zero)=Ln.zero from rfl,avK] at hq;cases hq
 |some y=>
  rw [e2,Option.getD_some] at hq f2
  have hy:=oA e2
  obtain ⟨c2,v2⟩:=agP hb hk hu hy
  rw [aBg hu.1 c2 (sO hb hk hu hy)] at hq
  split at hq
  ·rename_i k2
   have hn2:=Option.some.inj hq
   rcases f2 with f2|f2
   ·rw [zql] at f2
    have:=hu.1
    omega
   ·exact f2 (aGV v2 v1 k2 f1 hn2)
  ·cases hq
theorem aDH {w:Wr} {s:Sc} {b:Bs} {l:List Ot} (hG:Goes w s b l) {k:Nat} (hk:k<s.length) {f:Fr} (hf:f∈s[k]!.foreign) {key n:Int} (hn:¬uQ w s b l (1,f.table,0,n)) (hp:ptP ((bE (aF (aS w s b l).1 (k:Int)) key).getD Ln.zero) f.col=some n):ptP ((bE (aF b (k:Int)) key).getD Ln.zero) f.col=some n:=akG hk hf hG.fold hn hp
theorem aDQ {w:Wr} {s:Sc} {b:Bs} {l:List Ot} (hG:Goes w s b l) {k:Nat} (hk:k<s.length) {u:Int} (hu:u∈s[k]!.unique) {key n:Int} (hn:¬uQ w s b l (2,(k:Int),u,n)) (hp:ptP ((bE (aF (aS w s b l).1 (k:Int)) key).getD Ln.zero) u=some n):ptP ((bE (aF b (k:Int)) key).getD Ln.zero) u=some n:=amR hk hu hG.fold hn hp
theorem aeK (l:Ln) (h:LnS l):PF Tryz.prog 13 [.agg l.cells] (.seq ((l.cells_.map bL).map Vl.cells)):=amJ bL l (by have:=h.2.1;omega) λc hc=>avH c (by have:=h.2.2 c hc;omega)
section
variable (hA:PF Tryz.prog 7 [] (vb (true)))
include hA
theorem vH (s:Sc) (b:Bs) (l:List Ot) (who:T.Sp) (kn:List Int) (hs:ScG s) (hb:BsB b) (hl:l.length<200000000000000) (hro:∀o∈l,o.row.length<200000000000000) (hkn:kn.length<200000000000000):PF Tryz.prog 4 [.agg (scC s), .agg (bsC b), .seq (l.map Ot.cells), .agg who.cells, .seq (kn.map I1)] (vb (true)):=by
 have hf:=acS s b l kn hs hb hl hro
 by_cases g0:¬(((fewC s b=true/\((l.length:Int)<=12/\l.all fI=true))/\(kn.length:Int)<=80)/\l.length≠0)
 ·have e:((fewC s b&&(decide ((l.length:Int)<=12)&&l.all fI))&&decide ((kn.length:Int)<=80))=false\/l.length=0:=by
   rw [<-Bool.not_eq_true]
   simp only [zba,zde]
   exact Decidable.or_iff_not_imp_left.2 λq=>Decidable.byContradiction λq2=>g0 ⟨zdn q,q2⟩
  rcases e with e|e
  ·rw [e] at hf
   refine pF Tryz.func4 rfl (λst=> ?_)
   (repeat' first|apply wZ;rfl|show Cn _;constructor|exact rfl|((first|apply hA|apply hf))|apply wY;rfl)
  ·generalize ((fewC s b&&(decide ((l.length:Int)<=12)&&l.all fI))&&decide ((kn.length:Int)<=80))=F at*
   refine pF Tryz.func4 rfl (λst=> ?_)
   (repeat' first|apply wZ;rfl|show Cn _;constructor|exact rfl|((first|apply hA|apply hf))|apply wY;rfl|((exfalso;first|simp only [zql] at*;omega|simp_all;done))|(intro h;simp at h))
 obtain ⟨⟨⟨g1,g2,g2'⟩,g3⟩,hl0⟩:=zdn g0
 rw [g1,g2',decide_eq_true g2,decide_eq_true g3] at hf
 rw [zal] at g2'
 obtain ⟨hK,hW⟩:=ScK.of g1 hs.b hs.k
 have hfw:∀o∈l,lV o:=λo ho=>qW.1 (g2' o ho)
 have hall:=mS (w:=⟨who,kn⟩) hK hW (l:=l) (by omega) (by dsimp only;omega) hfw
 dsimp only at hall
 by_cases he:(fG ⟨who,kn⟩ s b l).2≠0
 ·have hof:=aCH (w:=⟨who,kn⟩) hK hW (by omega) (by dsimp only;omega) hfw hl0 he
  have e:ofP ⟨who,kn⟩ s b l=([],(fG ⟨who,kn⟩ s b l).2):=by unfold ofP;rw [zn hl0,zp he]
  rw [e] at hof
  generalize fG ⟨who,kn⟩ s b l=R at*
  obtain ⟨B,e⟩:=R
  unfold aD9 at hof
  unfold lU at hall
  dsimp only at hall he hof
  refine pF Tryz.func4 rfl (λst=> ?_)
  (repeat' first|apply wZ;rfl|show Cn _;constructor|exact rfl|((first|apply hA|apply hf|apply hall|apply hof))|show (_:PV)=_;((simp [he];done));done|apply wY;rfl|simp only [zql];omega|intro h;simp at h;omega|(intro h;simp at h))
 have he:=zdn he
 have hof:=aBT (w:=⟨who,kn⟩) hK hW (by omega) (by dsimp only;omega) hfw hl0 he
 have hG:=agF hW hfw he
 have hh:=λ(k t c n:Int) (hk:k≠3)=>atL hW hfw hl0 he (k:=k) (t:=t) (c:=c) (n:=n) hk
 have hRl:=arR (w:=⟨who,kn⟩) hK hW (by omega) hfw (l:=l)
 have hx:fG ⟨who,kn⟩ s b l=((aS ⟨who,kn⟩ s b l).1,0):=Prod.ext hG.eq he
 rw [hx] at hall
 have hlen:(aS ⟨who,kn⟩ s b l).1.length=s.length:=(aU.1 hG.is).1.2
 have hrs:cB s=0:=(aU.1 hG.was).1.1
 have hS1:BsS 200 b:=hW.S (by omega)
 have hS2:BsS 200 (aS ⟨who,kn⟩ s b l).1:=hG.size.S (by omega)
 have hhas:=λk t c n=>afC (ofP ⟨who,kn⟩ s b l).1 k t c n (by omega)
 have hU:=λ(k:Nat) (hk:k<s.length) (u:Int) (hu:u∈s[k]!.unique) (y:Ln) (hy:y∈aF (aS ⟨who,kn⟩ s b l).1 (k:Int)) (hf:oB (y.cells_.map bL) (((bE (aF b (k:Int)) y.key).getD Ln.zero).cells_.map bL) u.toNat=true)=>xJ hG.was hG.is hk (atN hrs hk hu) hy (R:=λn=>uH (ofP ⟨who,kn⟩ s b l).1 2 (k:Int) u n=true) (λn hn hp=>aDQ hG hk hu (hh 2 (k:Int) u n (by decide) (by simpa using hn)) hp) hf
 have hF:=λ(k:Nat) (hk:k<s.length) (f:Fr) (hf:f∈s[k]!.foreign) (y:Ln) (hy:y∈aF (aS ⟨who,kn⟩ s b l).1 (k:Int)) (hq:oB (y.cells_.map bL) (((bE (aF b (k:Int)) y.key).getD Ln.zero).cells_.map bL) f.col.toNat=true)=>xJ hG.was hG.is hk (awT hrs hk hf) hy (R:=λn=>uH (ofP ⟨who,kn⟩ s b l).1 1 f.table 0 n=true) (λn hn hp=>aDH hG hk hf (hh 1 f.table 0 n (by decide) (by simpa using hn)) hp) hq
 have hin:=λ(k:Nat) (hk:k<s.length) (u:Int) (hu:yT s k u) (y:Ln) (hy:y∈aF (aS ⟨who,kn⟩ s b l).1 (k:Int))=>(agP hG.is hk hu hy).1
 have hin2:=λ(k:Nat) (hk:k<s.length) (u:Int) (hu:yT s k u) (y:Ln) (hy:y∈aF b (k:Int))=>(agP hG.was hk hu hy).1
 have hru:=λ(k:Nat) (hk:k<s.length) (u:Int) (hu:u∈s[k]!.unique)=>atN hrs hk hu
 have hrf:=λ(k:Nat) (hk:k<s.length) (f:Fr) (hf:f∈s[k]!.foreign)=>awT hrs hk hf
 clear hG hh hx
 generalize (ofP ⟨who,kn⟩ s b l).1=R at*
 generalize (aS ⟨who,kn⟩ s b l).1=B at*
 have hg2:=λk key=>kY b k key λd hd=>by have:=(hS1.2 d hd).1;omega
 have hml:(s.map Tb.cells).length=s.length:=zql _
 have hmB:(B.map Da.cells).length=B.length:=zql _
 have hsl:=jZ hrs
 unfold lU at hall
 dsimp only at hall
 refine pF Tryz.func4 rfl (λst=> ?_)
 focus ((repeat' first|apply wZ;rfl|show Cn _;constructor|((first|apply hf|apply hall|apply hof))|apply wY;rfl|omega|simp only [zql];omega|(intro h;simp at h)))
 refine aC (X:={x:Nat//x<=s.length}) (λi=>(((((((St.nil 161 st).var 6 27 ((bsC b))).pv 11 (.seq (R.map Rg.cells))).var 13 27 (bsC B)).pv 79 (.seq (s.map Tb.cells))).pv 80 ((vi (((s.map Tb.cells).length:Nat))))).pv 81 ((vi ((i.1:Nat)))))) (λi=>s.length-i.1) ⟨0,by omega⟩ ?_ (λi=> ?_)
 ·(repeat' first|show Cn _;constructor|exact rfl)
 obtain ⟨i,hi⟩:=i
 dsimp only
 by_cases hend:s.length<=i
 ·(repeat' first|apply wZ;rfl|show Cn _;constructor|exact rfl|(apply hA)|apply wY;rfl|omega|(intro h;simp at h))
 have hk:i<s.length:=by omega
 have hkB:i<B.length:=by omega
 have w2:aF B (i:Nat)=B[i].lines:=eZ hkB
 have z2:=(hS2.2 _ (zgm hkB)).1
 obtain ⟨n1,n2,n3,n4,n5⟩:=pL hrs hk
 have hU:=hU i hk
 have hF:=hF i hk
 have hin:=hin i hk
 have hin2:=hin2 i hk
 have hru:=hru i hk
 have hrf:=hrf i hk
 rw [getElem!_pos s i hk] at hU hF hru hrf
 focus ((repeat' first|apply wZ;rfl|show Cn _;constructor|exact rfl|apply wI;rfl|apply gE;omega|omega|(intro h;simp at h)))
 refine aC (X:={x:Nat//x<=B[i].lines.length}) (λy=>((((((((((((St.nil 161 st).var 6 27 ((bsC b))).pv 11 (.seq (R.map Rg.cells))).var 13 27 (bsC B)).pv 15 ((vi ((i:Nat))))).var 16 58 (s[i].cells)).pv 79 (.seq (s.map Tb.cells))).pv 80 ((vi (((s.map Tb.cells).length:Nat))))).pv 81 ((vi ((i:Nat))))).pv 91 (.seq (B[i].lines.map Ln.cells))).pv 92 ((vi (((B[i].lines.map Ln.cells).length:Nat))))).pv 93 ((vi ((y.1:Nat)))))) (λy=>B[i].lines.length-y.1) ⟨0,by omega⟩ ?_ (λy=> ?_)
 ·(repeat' first|show Cn _;constructor|exact rfl)
 obtain ⟨y,hy⟩:=y
 dsimp only
 by_cases hend1:B[i].lines.length<=y
 ·(repeat' first|(refine ⟨⟨i+1,by omega⟩, ?_, ?_⟩)|apply wZ;rfl|show Cn _;constructor|exact rfl|omega|simp only [zql];omega|(intro h;simp at h))
 have hyl:y<B[i].lines.length:=by omega
 have hmem:B[i].lines[y]∈aF B (i:Int):=by rw [w2];exact zgm hyl
 have hg:=hg2 (i:Nat) B[i].lines[y].key
 rw [nT] at hg
 have hr1:=aeK B[i].lines[y] ((hS2.2 _ (zgm hkB)).2 _ (zgm hyl))
 have hr2:=aeK _ (hS1.got (i:Nat) B[i].lines[y].key)
 have hU:=λu hu=>hU u hu _ hmem
 have hF:=λf hf=>hF f hf _ hmem
 have hin:=λu hu=>hin u hu _ hmem
 have hold:∀u,yT s i u->((bE (aF b (i:Int)) B[i].lines[y].key).getD Ln.zero).cells_.length≠0->u<((bE (aF b (i:Int)) B[i].lines[y].key).getD Ln.zero).cells_.length:=λu hu q=>by
  cases e:bE (aF b (i:Int)) B[i].lines[y].key with
  |none=>rw [e] at q;exact absurd rfl q
  |some x=>exact hin2 u hu x (oA e)
 generalize bE (aF b (i:Int)) B[i].lines[y].key=Q at*
 generalize Q.getD Ln.zero=O at*
 generalize Q.isSome=I at*
 focus ((repeat' first|apply wZ;rfl|show Cn _;constructor|exact rfl|apply KR.mk;kernel_rfl|((first|apply hg|apply hr1|apply hr2))|apply aY 21;rfl;rfl|apply aY 22;rfl;rfl|apply wY;rfl|apply wI;rfl|apply gE;omega|simp only [zql];omega|(intro h;simp at h)))
 have hWl:(B[i].lines[y].cells_.map bL).length=B[i].lines[y].cells_.length:=zql _
 have hVl:(O.cells_.map bL).length=O.cells_.length:=zql _
 generalize B[i].lines[y].cells_.map bL=W at*
 generalize O.cells_.map bL=V at*
 have hmu:(s[i].unique.map I1).length=s[i].unique.length:=zql _
 have hmf:(s[i].foreign.map Fr.cells).length=s[i].foreign.length:=zql _
 refine aC (X:={x:Nat//x<=s[i].unique.length}) (λz=>(((((((((((((((((St.nil 161 st).var 6 27 ((bsC b))).pv 11 (.seq (R.map Rg.cells))).var 13 27 (bsC B)).pv 15 ((vi ((i:Nat))))).var 16 58 (s[i].cells)).pv 21 (.rp [.seq (W.map Vl.cells)])).pv 23 (.fn 14 [.rp [.seq (W.map Vl.cells)], .rp [.seq (V.map Vl.cells)]])).pv 79 (.seq (s.map Tb.cells))).pv 80 ((vi (((s.map Tb.cells).length:Nat))))).pv 81 ((vi ((i:Nat))))).pv 91 (.seq (B[i].lines.map Ln.cells))).pv 92 ((vi (((B[i].lines.map Ln.cells).length:Nat))))).pv 93 ((vi ((y:Nat))))).pv 111 (.seq (s[i].unique.map I1))).pv 112 ((vi (((s[i].unique.map I1).length:Nat))))).pv 113 ((vi ((z.1:Nat)))))) (λz=>s[i].unique.length-z.1) ⟨0,by omega⟩ ?_ (λz=> ?_)
 ·(repeat' first|show Cn _;constructor|exact rfl)
 obtain ⟨z,hz⟩:=z
 dsimp only
 by_cases hend2:s[i].unique.length<=z
 ·focus ((repeat' first|apply wZ;rfl|show Cn _;constructor|omega|(intro h;simp at h)))
  refine aC (X:={x:Nat//x<=s[i].foreign.length}) (λq=>(((((((((((((((((St.nil 161 st).var 6 27 ((bsC b))).pv 11 (.seq (R.map Rg.cells))).var 13 27 (bsC B)).pv 15 ((vi ((i:Nat))))).var 16 58 (s[i].cells)).pv 21 (.rp [.seq (W.map Vl.cells)])).pv 23 (.fn 14 [.rp [.seq (W.map Vl.cells)], .rp [.seq (V.map Vl.cells)]])).pv 79 (.seq (s.map Tb.cells))).pv 80 ((vi (((s.map Tb.cells).length:Nat))))).pv 81 ((vi ((i:Nat))))).pv 91 (.seq (B[i].lines.map Ln.cells))).pv 92 ((vi (((B[i].lines.map Ln.cells).length:Nat))))).pv 93 ((vi ((y:Nat))))).pv 134 (.seq (s[i].foreign.map Fr.cells))).pv 135 ((vi (((s[i].foreign.map Fr.cells).length:Nat))))).pv 136 ((vi ((q.1:Nat)))))) (λq=>s[i].foreign.length-q.1) ⟨0,by omega⟩ ?_ (λq=> ?_)
  ·(repeat' first|show Cn _;constructor|exact rfl)
  obtain ⟨q,hq⟩:=q
  dsimp only
  by_cases hend3:s[i].foreign.length<=q
  ·(repeat' first|(refine ⟨⟨y+1,by omega⟩, ?_, ?_⟩)|apply wZ;rfl|show Cn _;constructor|exact rfl|omega|simp only [zql];omega|(intro h;simp at h))
  have hql:q<s[i].foreign.length:=by omega
  have hreg:=hrf _ (zgm hql)
  have hu0:s[i].foreign[q].col=((s[i].foreign[q].col.toNat:Nat):Int):=by have:=hreg.1;omega
  have hin1:=hin _ hreg
  have hol1:=hold _ hreg
  have hfr:=uG W V s[i].foreign[q].col.toNat (by omega) (by omega)
  rw [<-hu0] at hfr
  have hrw:(W.map Vl.cells)[s[i].foreign[q].col.toNat]?=some (W[s[i].foreign[q].col.toNat]!).cells:=by rw [List.getElem?_map,zgg (by omega),getElem!_pos W _ (by omega)];rfl
  have hH:=hhas 1 s[i].foreign[q].table 0 (W[s[i].foreign[q].col.toNat]!).n
  have hq1:=hF _ (zgm hql)
  cases hb:oB W V s[i].foreign[q].col.toNat with
  |true=>
   rw [hb] at hfr
   rw [hq1 hb] at hH
   (repeat' first|(apply Cn.cf;focus (((first|apply hH|apply hfr));done))|(refine ⟨⟨q+1,by omega⟩, ?_, ?_⟩)|apply wZ;rfl|show Cn _;constructor|exact rfl|apply KR.mk;kernel_rfl|apply cN pk;(iterate 6 rfl);rotate_left;rfl;(intro hw;exact hu0);(intro hw;apply hrw<;>omega);(intro _;rfl);rfl|apply wY;rfl|apply wI;rfl|apply gE;omega|omega|simp only [zql];omega|(intro h;simp at h))
  |false=>
   rw [hb] at hfr
   (repeat' first|(apply Cn.cf;focus (((first|apply hH|apply hfr));done))|(refine ⟨⟨q+1,by omega⟩, ?_, ?_⟩)|apply wZ;rfl|show Cn _;constructor|exact rfl|apply KR.mk;kernel_rfl|apply cN pk;(iterate 6 rfl);rotate_left;rfl;(intro hw;exact hu0);(intro hw;apply hrw<;>omega);(intro _;rfl);rfl|apply wY;rfl|apply wI;rfl|apply gE;omega|omega|simp only [zql];omega|(intro h;simp at h))
 have hzl:z<s[i].unique.length:=by omega
 have hreg:=hru _ (zgm hzl)
 have hu0:s[i].unique[z]=((s[i].unique[z].toNat:Nat):Int):=by have:=hreg.1;omega
 have hin1:=hin _ hreg
 have hol1:=hold _ hreg
 have hfr:=uG W V s[i].unique[z].toNat (by omega) (by omega)
 rw [<-hu0] at hfr
 have hrw:(W.map Vl.cells)[s[i].unique[z].toNat]?=some (W[s[i].unique[z].toNat]!).cells:=by rw [List.getElem?_map,zgg (by omega),getElem!_pos W _ (by omega)];rfl
 have hH:=hhas 2 (i:Int) s[i].unique[z] (W[s[i].unique[z].toNat]!).n
 have hq1:=hU _ (zgm hzl)
 cases hb:oB W V s[i].unique[z].toNat with
 |true=>
  rw [hb] at hfr
  rw [hq1 hb] at hH
  (repeat' first|(apply Cn.cf;focus (((first|apply hH|apply hfr));done))|(refine ⟨⟨z+1,by omega⟩, ?_, ?_⟩)|apply wZ;rfl|show Cn _;constructor|exact rfl|apply cN pk;(iterate 6 rfl);rotate_left;rfl;(intro hw;exact hu0);(intro hw;apply hrw<;>omega);(intro _;rfl);rfl|apply wY;rfl|apply wI;rfl|apply gE;omega|omega|simp only [zql];omega|(intro h;simp at h))
 |false=>
  rw [hb] at hfr
  (repeat' first|(apply Cn.cf;focus (((first|apply hH|apply hfr));done))|(refine ⟨⟨z+1,by omega⟩, ?_, ?_⟩)|apply wZ;rfl|show Cn _;constructor|exact rfl|apply cN pk;(iterate 6 rfl);rotate_left;rfl;(intro hw;exact hu0);(intro hw;apply hrw<;>omega);(intro _;rfl);rfl|apply wY;rfl|apply wI;rfl|apply gE;omega|omega|simp only [zql];omega|(intro h;simp at h))
end
end
section
attribute [local irreducible] Ev PWp
set_option maxRecDepth 10000
set_option maxHeartbeats 4000000
def cxP :Co:=⟨⟨#[112]⟩,0,1,true⟩
def cxU :Co:=⟨⟨#[117]⟩,0,1,false⟩
def cxN :Co:=⟨⟨#[110]⟩,0,1,false⟩
def cxA :Tb:=⟨⟨#[97]⟩,[colId],[],[],[],[]⟩
def cxB :Tb:=⟨⟨#[98]⟩,[colId,cxP,cxU,cxN],[2],[],[⟨1,0,1⟩],[⟨3,1,9⟩]⟩
def cxS :Sc:=[cxA,cxB]
def aG1 :List PV:=[.seq [[.val (.string ⟨#[97]⟩), .seq [colId.cells],wX,wX,wX,wX],[.val (.string ⟨#[98]⟩), .seq ([colId,cxP,cxU,cxN].map Co.cells), .seq [[(vi (2))]],wX, .seq [[(vi (1)),(vi (0)),(vi (1))]], .seq [[(vi (3)),(vi (1)),(vi (9))]]]]]
theorem aBo :Wk (.agg aG1) (.agg (scC cxS)):=
 Wk.agg (.cons (wk2 (.cons (zwr _) (.cons (zwr _) (.cons Wk.nil (.cons Wk.nil (.cons Wk.nil (.cons Wk.nil .nil)))))) (.cons (zwr _) (.cons (zwr _) (.cons (zwr _) (.cons Wk.nil (.cons (zwr _) (.cons (zwr _) .nil))))))) .nil)
theorem lB (n:Int):PF Tryz.prog 25 [(vi (n))] (.agg (nV n).cells):=by
 refine pF Tryz.func25 rfl (λst=> ?_)
 (repeat' first|apply wZ;rfl|show Cn _;constructor|exact rfl)
def cxC (n:Int):Cl:=⟨0,nV n,[]⟩
def cxL :Ln:=⟨3,[cxC 3],[]⟩
def aIs :List PV:=[(vi (3)), .seq [[(vi (0)),(vi (1)),(vi (3)),(vs (e0)),wX]],wX]
theorem aHF :Wk (.agg aIs) (.agg cxL.cells):=Wk.agg (.cons (zwr _) (.cons (wk1 (.cons (zwr _) (.cons (zwr _) (.cons (zwr _) (.cons (zwr _) (.cons Wk.nil .nil)))))) (.cons Wk.nil .nil)))
def cx0 :Bs:=[⟨[cxL]⟩,⟨[]⟩]
theorem alE :PF Tryz.prog 24 [] (.tup [.agg (scC cxS), .agg (bsC cx0)]):=by
 have h1:PF Tryz.prog 56 [.agg aG1] (.agg (bsC (aE0 cxS))):=λst=>PC.wkArgs (.cons aBo .nil) (aD3 cxS (by decide) st)
 have h2:=lB 3
 have h3:PF Tryz.prog 17 [.agg (bsC (aE0 cxS)),(vi (0)), .agg aIs] (.agg (bsC cx0)):=λst=>PC.wkArgs (.cons (zwr _) (.cons (zwr _) (.cons aHF .nil))) (zT (aE0 cxS) 0 cxL (by decide) (λd hd=>by
  have hd:d∈[(⟨[]⟩:Da),⟨[]⟩]:=hd
  simp only [zmc,List.not_mem_nil,or_false,or_self] at hd
  subst hd;decide) st)
 have hw:Wk (.tup [.agg aG1, .agg (bsC cx0)]) (.tup [.agg (scC cxS), .agg (bsC cx0)]):=Wk.tup (.cons aBo (.cons (zwr _) .nil))
 refine pF Tryz.func24 rfl (λst=> ?_)
 (repeat' first|apply abX 5;rfl;rfl|exact Cn.any ⟨_,_,_,rfl,hw,zsr _,rfl,rfl⟩|apply wDO pk [0,1,2,3,4,5,6,7,8,9] [1] [] [1] [];rfl;rfl;kernel_rfl;rfl;rfl|(apply Cn.cf;focus (((first|apply h1|apply h2|apply h3));done))|apply wZ;rfl|show Cn _;constructor|apply ldZ pk;iterate 4 rfl|apply wY;rfl)
def cxO :Ot:=⟨1,1,0,0,[nV 5,nV 3,nV 8,nV 4],Vl.zero,Dt.zero,0⟩
def cxD :Ot:=⟨8,0,9,0,[],Vl.zero,Dt.zero,0⟩
def aIL :List PV:=[(vi (8)),(vi (0)),(vi (9)),(vi (0)),wX,(vi (0)),(vi (0)),(vs (e0)),(vi (0)),(vi (0)),(vi (0))]
theorem aHc :WkL aIL cxD.cells:= .cons (zwr _) (.cons (zwr _) (.cons (zwr _) (.cons (zwr _) (.cons Wk.nil (.cons (zwr _) (.cons (zwr _) (.cons (zwr _) (.cons (zwr _) (.cons (zwr _) (.cons (zwr _) .nil))))))))))
def cxW :Wr:=⟨⟨1,1,1⟩,[]⟩
def cxM :Ln:=⟨5,[cxC 5,cxC 3,cxC 8,cxC 4],[⟨1,1⟩]⟩
def cx1 :Bs:=[⟨[cxL]⟩,⟨[cxM]⟩]
theorem aIP :ScB cxS:=λt ht=>by
 simp only [cxS,zmc,List.not_mem_nil,or_false] at ht
 rcases ht with rfl|rfl<;>constructor<;>simp [cxA,cxB]
theorem cxS_K :ScK cxS:=⟨aIP,by decide,λt ht=>by
 simp only [cxS,zmc,List.not_mem_nil,or_false] at ht
 rcases ht with rfl|rfl<;>decide,λt ht c hc=>by
 simp only [cxS,zmc,List.not_mem_nil,or_false] at ht
 rcases ht with rfl|rfl<;>cases hc⟩
theorem awK :rightC cxS=0:=by
 unfold rightC
 rw [zp (by kernel_rfl)]
 rfl
theorem aFB :bH T.rightP cxS cx0=true:=by kernel_rfl
theorem aHh :bH T.rightP cxS cx1=true:=by kernel_rfl
theorem aGv (b:Bs) (h:bH T.rightP cxS b=true):mayC cxS b=true:=by unfold mayC;rw [awK,h];rfl
theorem aIM :rightW cxW cxS cx0=true:=fC.2 ⟨awK,aFB,by kernel_rfl⟩
theorem aHn :aS cxW cxS cx0 [cxO]=(cx1,0):=by kernel_rfl
theorem aEG :aS cxW cxS cx0 [cxD]=([],4):=by kernel_rfl
theorem aIv :whyC cxS cx1=0:=by
 unfold whyC
 rw [aGv _ aHh,zp rfl]
 have h0:exR cxA=λ_=>0:=rfl
 have h1:exR cxB=λ_=>0:=rfl
 show dZ (λk:Nat=>ckT exR cx1 cxS[k]! (dT bL cx1 k)) [0,1]=0
 rw [rI,rI]
 have e0:ckT exR cx1 cxS[0]! (dT bL cx1 (0:Nat))=0:=by
  show ckT exR cx1 cxA _=0
  unfold ckT
  rw [h0]
  kernel_rfl
 have e1:ckT exR cx1 cxS[1]! (dT bL cx1 (1:Nat))=0:=by
  show ckT exR cx1 cxB _=0
  unfold ckT
  rw [h1]
  kernel_rfl
 rw [e0,e1]
 rfl
theorem aCL :fG cxW cxS cx0 [cxO]=(cx1,0):=by
 unfold fG
 rw [aIM,zn (by simp),zn (by decide),aHn,zn (by simp),aIv,zn (by simp)]
theorem aDf :fG cxW cxS cx0 [cxD]=([],4):=by
 unfold fG
 rw [aIM,zn (by simp),zn (by decide),aEG,zp (by simp)]
theorem cx0W :OpW 0 cx0:=⟨by decide,λd hd=>by
 have hd:d∈[(⟨[cxL]⟩:Da),⟨[]⟩]:=hd
 simp only [zmc,List.not_mem_nil,or_false] at hd
 rcases hd with rfl|rfl
 ·refine ⟨by decide,λl hl=> ?_⟩
  have hl:l∈[cxL]:=hl
  rw [zms.1 hl]
  unfold LnW
  decide
 ·exact ⟨by decide,λl hl=>by cases hl⟩⟩
theorem cx1W :OpW 1 cx1:=by
 have h:=(vV (w:=cxW) (s:=cxS) (b:=cx0) (o:=cxO) (k:=0) (by kernel_rfl) aFB cx0W (qW.1 (by kernel_rfl)) (by kernel_rfl)).2
 rwa [show (bS cxW cxS cx0 cxO).1=cx1 from by kernel_rfl] at h
theorem cxT (b:Bs) (hb:bH T.rightP cxS b=true):totC cxS b (1:Nat) (0:Nat) 3=nW ⟨3,1,9⟩ 3 (dT bL b (1:Nat)):=by
 unfold totC
 rw [dif_pos ⟨aGv b hb,by decide,by decide⟩]
 rfl
theorem aB4 :sumsP cxS cx0 cx1=[(1,0,3,4)]:=by
 unfold sumsP
 rw [zp ⟨aFB,aHh⟩]
 show sumK cxS cx0 cx1 0++(sumK cxS cx0 cx1 1++[])=_
 have e0:sumK cxS cx0 cx1 0=[]:=rfl
 have e1:sumK cxS cx0 cx1 1=sumI cxS cx0 cx1 1 0++[]:=rfl
 have e2:sumI cxS cx0 cx1 1 0=[(3:Int)].filterMap (moreS cxS cx0 cx1 1 0):=by
  unfold sumI
  rw [show pM (jU cx0 1 cxS[1]!.sums[0]!++jU cx1 1 cxS[1]!.sums[0]!)=[3] from by kernel_rfl]
 have e3:moreS cxS cx0 cx1 1 0 3=some (1,0,3,4):=by
  unfold moreS
  rw [cxT _ aFB,cxT _ aHh,show nW ⟨3,1,9⟩ 3 (dT bL cx0 (1:Nat))=0 from by kernel_rfl,show nW ⟨3,1,9⟩ 3 (dT bL cx1 (1:Nat))=4 from by kernel_rfl,zp (by decide)]
  rfl
 rw [e0,e1,e2]
 simp [e3]
def cxR :List Rg:=[⟨1,0,0,3,4,0⟩,⟨1,1,0,5,6,0⟩,⟨2,1,2,8,9,0⟩,⟨3,1,0,3,0,4⟩]
theorem aI9 :(ofP cxW cxS cx0 [cxO]).1=cxR:=by
 unfold ofP
 rw [zn (by simp),aCL,zn (by simp),aB4]
 show (wM jN (iF cxW cxS cx0 [cxO] [])).map rgP++_=_
 rw [show wM jN (iF cxW cxS cx0 [cxO] [])=[(1,0,0,3),(1,1,0,5),(2,1,2,8)] from by kernel_rfl]
 rfl
theorem aDN (o:Ot) (h:fI o=true):∀x∈[o],lV x:=λx hx=>by rw [zms.1 hx];exact qW.1 h
theorem aHN (a:List Rg) (h:a.length<1000000000000):PF Tryz.prog 20 [.seq (a.map Rg.cells), .seq (a.map Rg.cells)] (vb (true)):=by
 refine pF Tryz.func20 rfl (λst=> ?_)
 focus ((repeat' first|apply wZ;rfl|show Cn _;constructor|omega|(intro h;simp at h)))
 refine aC (X:={x:Nat//x<=a.length}) (λi=>((((St.nil 26 st).pv 0 (.seq (a.map Rg.cells))).pv 1 (.seq (a.map Rg.cells))).pv 5 ((vi ((i.1:Nat)))))) (λi=>a.length-i.1) ⟨0,by omega⟩ ?_ (λi=> ?_)
 ·(repeat' first|show Cn _;constructor|exact rfl)
 obtain ⟨i,hi⟩:=i
 dsimp only
 by_cases hend:a.length<=i
 ·(repeat' first|apply wZ;rfl|show Cn _;constructor|exact rfl|simp only [zql];omega|(intro h;simp at h))
 have hil:i<a.length:=by omega
 (repeat' first|(refine ⟨⟨i+1,by omega⟩, ?_, ?_⟩)|apply wZ;rfl|show Cn _;constructor|exact rfl|apply KR.mk;kernel_rfl|apply wI;rfl|apply gE;omega|omega|simp only [zql];omega|intro h;simp at h;done|(intro h;simp at h))
theorem aaE :PF Tryz.prog 7 [] (vb (true)):=by
 have h1:=alE
 have n1:=lB 5
 have n2:=lB 3
 have n3:=lB 8
 have n4:=lB 4
 have h2:PF Tryz.prog 8 [.agg (scC cxS), .agg (bsC cx0), .seq [cxO.cells], .agg [(vi (1)),(vi (1)),(vi (1))],wX] (.tup [.seq (cxR.map Rg.cells),(vi (0))]):=λst=>by
  have h:=aBT (w:=cxW) cxS_K cx0W (l:=[cxO]) (by decide) (by decide) (aDN cxO (by kernel_rfl)) (by decide) (by rw [aCL]) st
  rw [aI9] at h
  exact PC.wkArgs (.cons (zwr _) (.cons (zwr _) (.cons (zwr _) (.cons (zwr _) (.cons Wk.nil .nil))))) h
 have h3:PF Tryz.prog 9 [.agg (scC cxS), .agg (bsC cx0), .seq [cxO.cells], .agg [(vi (1)),(vi (1)),(vi (1))],wX] (.tup [.agg (bsC cx1),(vi (0))]):=λst=>by
  have h:=mS (w:=cxW) cxS_K cx0W (l:=[cxO]) (by decide) (by decide) (aDN cxO (by kernel_rfl)) st
  rw [aCL] at h
  exact PC.wkArgs (.cons (zwr _) (.cons (zwr _) (.cons (zwr _) (.cons (zwr _) (.cons Wk.nil .nil))))) h
 have h4:PF Tryz.prog 26 [.agg (scC cxS), .agg (bsC cx0), .agg (bsC cx1)] (.seq [[(vi (1)),(vi (0)),(vi (3)),(vi (4))]]):=by
  have h:=acQ (cxS_K.ck (cx0W.S (by decide)) (by decide)) (cxS_K.ck (cx1W.S (by decide)) (by decide))
  rw [aB4] at h
  exact h
 have h5:PF Tryz.prog 8 [.agg (scC cxS), .agg (bsC cx0), .seq [aIL], .agg [(vi (1)),(vi (1)),(vi (1))],wX] (.tup [.seq [],(vi (4))]):=λst=>by
  have h:=aCH (w:=cxW) cxS_K cx0W (l:=[cxD]) (by decide) (by decide) (aDN cxD (by kernel_rfl)) (by decide) (by rw [aDf];simp) st
  rw [show ofP cxW cxS cx0 [cxD]=([],4) from by unfold ofP;rw [zn (by simp),aDf,zp (by simp)]] at h
  exact PC.wkArgs (.cons (zwr _) (.cons (zwr _) (.cons (wk1 aHc) (.cons (zwr _) (.cons Wk.nil .nil))))) h
 have h6:PF Tryz.prog 8 [.agg (scC cxS), .agg (bsC cx0),wX, .agg [(vi (1)),(vi (1)),(vi (1))],wX] (.tup [.seq [],(vi (0))]):=λst=>by
  have h:=aIE cxW cxS cx0 st
  rw [show ofP cxW cxS cx0 []=([],0) from by unfold ofP;rw [zp (show ([]:List Ot).length=0 from rfl)]] at h
  exact PC.wkArgs (.cons (zwr _) (.cons (zwr _) (.cons Wk.nil (.cons (zwr _) (.cons Wk.nil .nil))))) h
 have h7:=aHN cxR (by decide)
 have c0:([[(vi (1)),(vi (0)),(vi (3)),(vi (4))]]:List (List PV))[0]?=some [(vi (1)),(vi (0)),(vi (3)),(vi (4))]:=rfl
 refine pF Tryz.func7 rfl (λst=> ?_)
 (repeat' first|apply wZ;rfl|show Cn _;constructor|exact rfl|apply cN pk;(iterate 6 rfl);rotate_left;rfl;(intro hw;rfl);(intro hw;apply c0<;>omega);(intro _;rfl);rfl|(apply h1)|(apply n1)|(apply n2)|(apply n3)|(apply n4)|(apply h2)|(apply h3)|(apply h4)|(apply h5)|(apply h6)|(apply h7)|apply wY;rfl)
end
end Go.Proofs.YtfablfldonhkiaaGreatDoor
namespace Go.Proofs.YtfablfldonhkiaaGreatDoor
open Go Go.Abs Go.ChangeShapes Go.WideShapes Go.ChangeAt Go.RowKit
set_option maxRecDepth 10000
theorem aGR {N n:Nat} {ps:List PV} (h:bI Tryz.prog N n 30 ps):∃v:T.Sp,ps=v.cells:=by
 obtain ⟨m,pss,_,rfl,h2⟩:=bW aQ rfl h
 cases h2 with|cons ha h2=>cases h2 with|cons hb h2=>cases h2 with|cons hc h2=>cases h2 with|nil=>
 obtain ⟨a,rfl,_⟩:=bK aQ rfl ha
 obtain ⟨b,rfl,_⟩:=bK aQ rfl hb
 obtain ⟨c,rfl,_⟩:=bK aQ rfl hc
 exact ⟨⟨a,b,c⟩,rfl⟩
def OpN (o:Ot):Prop:=o.row.length<200000000000000
theorem aIR {n:Nat} {ps:List PV} (h:bI Tryz.prog reachBytes n 82 ps):∃o:Ot,ps=o.cells/\OpN o:=by
 obtain ⟨m,pss,_,rfl,h2⟩:=bW aQ rfl h
 cases h2 with|cons h0 h2=>cases h2 with|cons h1 h2=>cases h2 with|cons h3 h2=>cases h2 with|cons h4 h2=>cases h2 with|cons h5 h2=>cases h2 with|cons h6 h2=>cases h2 with|cons h7 h2=>cases h2 with|cons h8 h2=>cases h2 with|nil=>
 obtain ⟨k,rfl,_⟩:=bK aQ rfl h0
 obtain ⟨t,rfl,_⟩:=bK aQ rfl h1
 obtain ⟨y,rfl,_⟩:=bK aQ rfl h3
 obtain ⟨c,rfl,_⟩:=bK aQ rfl h4
 obtain ⟨_,rows,_,rfl,lr,hr⟩:=cE aQ rfl h5
 obtain ⟨r,rfl,hl,_⟩:=xQ (f:=Vl.cells) (Q:=λ_=>True) λx hx=>by
  obtain ⟨v,e⟩:=akS (hr x hx);exact ⟨v,e,trivial⟩
 obtain ⟨v,rfl⟩:=akS h6
 obtain ⟨d,rfl⟩:=atU h7
 obtain ⟨a,rfl,_⟩:=bK aQ rfl h8
 have h:reachBytes<200000000000000:=by decide
 exact ⟨⟨k,t,y,c,r,v,d,a⟩,rfl,by show r.length<_;omega⟩
theorem aCq {n:Nat} {ps:List PV} (h:bI Tryz.prog reachBytes n 28 ps):∃v:{l:List Ot//l.length<200000000000000/\∀o∈l,OpN o},ps=[.seq (v.1.map Ot.cells)]:=by
 obtain ⟨_,rows,_,rfl,lr,hr⟩:=cE aQ rfl h
 obtain ⟨l,rfl,hl,hq⟩:=xQ (f:=Ot.cells) λx hx=>aIR (hr x hx)
 have h:reachBytes<200000000000000:=by decide
 exact ⟨⟨l,by omega,hq⟩,rfl⟩
theorem aGH {n:Nat} {ps:List PV} (h:bI Tryz.prog reachBytes n 32 ps):∃v:{l:List Int//l.length<200000000000000},ps=[.seq (v.1.map I1)]:=by
 obtain ⟨_,rows,_,rfl,lr,hr⟩:=cE aQ rfl h
 obtain ⟨l,rfl,hl,_⟩:=xQ (f:=I1) (Q:=λ_=>True) λx hx=>by
  obtain ⟨v,e,_⟩:=bK aQ rfl (hr x hx);exact ⟨v,e,trivial⟩
 have h:reachBytes<200000000000000:=by decide
 exact ⟨⟨l,by omega⟩,rfl⟩
end Go.Proofs.YtfablfldonhkiaaGreatDoor
