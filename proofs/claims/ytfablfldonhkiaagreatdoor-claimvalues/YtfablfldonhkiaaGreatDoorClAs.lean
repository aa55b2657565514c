import Derived.Test.YtfablfldonhkiaaGreatDoorClAr
import Derived.Test.YtfablfldonhkiaaGreatDoorClAk
import Derived.Test.YtfablfldonhkiaaGreatDoorAbsJ
set_option linter.unusedSimpArgs false
set_option linter.unusedVariables false
namespace Go.Proofs.YtfablfldonhkiaaGreatDoor
open Go Go.Abs
section
attribute [local irreducible] Ev PWp
set_option maxRecDepth 10000
set_option maxHeartbeats 4000000
theorem zV {n:Nat} {w:Wr} {s:Sc} {b:Bs} {o:Ot} (hD:DoB n w s b o) (hcol:∀t∈s,t.cols.length<10000000000) (hb:bH T.rightP s b=true):PF Tryz.prog 32 [.agg w.cells, .agg (scC s), .agg (bsC b), .agg o.cells] (lU (bS w s b o)):=by
 have h1:=ajT s o (by have:=hD.len;omega) (λt ht=>by have:=hcol t ht;omega) λt ht=>aeV t o.row (by have:=hcol t ht;omega) (by have:=hD.few.1;omega)
 by_cases hr:fY s o≠0
 ·have e:bS w s b o=([],fY s o):=by unfold bS;rw [zp hr]
  rw [e]
  generalize fY s o=R at*
  refine pF Tryz.func32 rfl (λst=> ?_)
  (repeat' first|exact Cn.any ⟨_,_,_,rfl,nY _,zsr _,rfl,rfl⟩|apply wZ;rfl|show Cn _;constructor|(apply h1)|apply wY;rfl|omega|intro h)
 have hr:=zdn hr
 rw [aDG hr]
 rw [hr] at h1
 have h2:=aHx hD hb hr
 generalize aqY w s b o=R at*
 unfold lU at h2
 by_cases hR:R.2≠0
 ·rw [zp hR]
  refine pF Tryz.func32 rfl (λst=> ?_)
  (repeat' first|exact Cn.any ⟨_,_,_,rfl,nY _,zsr _,rfl,rfl⟩|apply wZ;rfl|show Cn _;constructor|((first|apply h1|apply h2))|apply wY;rfl|omega|intro h)
 ·rw [zn hR]
  have hR:=zdn hR
  obtain ⟨B,e⟩:=R
  dsimp only at hR h2
  subst hR
  refine pF Tryz.func32 rfl (λst=> ?_)
  (repeat' first|apply wZ;rfl|show Cn _;constructor|exact rfl|((first|apply h1|apply h2))|apply wY;rfl)
theorem axD (w:Wr) (hk:w.knew.length<1000000000000):PF Tryz.prog 68 [.agg w.cells] (vb (pG w)):=by
 have h1:=dP w.who.time 1 1125899906842624
 have h2:=dP w.who.dev 1 64
 have h3:=dP w.who.seq 1 1048576
 have h4:=aiI w.knew hk
 unfold pG
 generalize T.withinB w.who.time 1 1125899906842624=A at*
 generalize T.withinB w.who.dev 1 64=B at*
 generalize T.withinB w.who.seq 1 1048576=C at*
 generalize aBB w.knew=D at*
 refine pF Tryz.func68 rfl (λst=> ?_)
 (repeat' first|apply wZ;rfl|show Cn _;constructor|exact rfl|((first|apply h1|apply h2|apply h3|apply h4))|apply wY;rfl)
theorem xW {n:Nat} {s:Sc} {b:Bs} (hB:CkB n s b) (w:Wr) (hk:w.knew.length<1000000000000):PF Tryz.prog 31 [.agg w.cells, .agg (scC s), .agg (bsC b)] (vb (rightW w s b)):=by
 have h1:=hB.right
 have h2:=fJ hB.bs hB.hn hB.sb hB.len
 have h3:=axD w hk
 unfold rightW mayC
 generalize rightC s=R at*
 generalize bH T.rightP s b=B at*
 generalize pG w=M at*
 refine pF Tryz.func31 rfl (λst=> ?_)
 (repeat' first|apply wZ;rfl|show Cn _;constructor|exact rfl|((first|apply h1|apply h2|apply h3))|apply wY;rfl)
structure ScK (s:Sc):Prop where
 sb:ScB s
 len:s.length<=20
 col:∀t∈s,t.cols.length<10000000000
 chk:∀t∈s,tN t
theorem ScK.ck {s:Sc} (h:ScK s) {n:Nat} {b:Bs} (hb:BsS n b) (hn:n<=1000):CkB n s b:=⟨h.sb,h.len,h.col,h.chk,hb,hn⟩
theorem aDl {n:Nat} {w:Wr} {s:Sc} {b:Bs} {o:Ot} (hK:ScK s) (hD:DoB n w s b o):PF Tryz.prog 27 [.agg (scC s), .agg (bsC b), .agg o.cells, .agg w.who.cells, .seq (w.knew.map I1)] (lU (doP w s b o)):=by
 have h1:=xW (hK.ck hD.S (by omega)) w hD.kn
 unfold doP
 cases hR:rightW w s b with
 |false=>
  rw [hR] at h1
  rw [zn (by simp)]
  refine pF Tryz.func27 rfl (λst=> ?_)
  (repeat' first|exact Cn.any ⟨_,_,_,rfl,nY _,zsr _,rfl,rfl⟩|apply wZ;rfl|show Cn _;constructor|(apply h1)|apply wY;rfl)
 |true=>
  rw [hR] at h1
  rw [zp rfl]
  have h2:=zV hD hK.col (fC.1 hR).2.1
  generalize bS w s b o=R at*
  unfold lU at h2
  refine pF Tryz.func27 rfl (λst=> ?_)
  (repeat' first|apply wZ;rfl|show Cn _;constructor|exact rfl|((first|apply h1|apply h2))|apply wY;rfl)
theorem mS {n:Nat} {w:Wr} {s:Sc} {b:Bs} {l:List Ot} (hK:ScK s) (hW:OpW n b) (hn:n+l.length<=20) (hk:w.knew.length<1000000000000) (hf:∀o∈l,lV o):PF Tryz.prog 9 [.agg (scC s), .agg (bsC b), .seq (l.map Ot.cells), .agg w.who.cells, .seq (w.knew.map I1)] (lU (fG w s b l)):=by
 have h1:=xW (hK.ck (hW.S (by omega)) (by omega)) w hk
 unfold fG
 cases hR:rightW w s b with
 |false=>
  rw [hR] at h1
  rw [zp rfl]
  refine pF Tryz.func9 rfl (λst=> ?_)
  (repeat' first|exact Cn.any ⟨_,_,_,rfl,nY _,zsr _,rfl,rfl⟩|apply wZ;rfl|show Cn _;constructor|(apply h1)|apply wY;rfl)
 |true=>
 rw [hR] at h1
 rw [zn (by simp),zn (by omega)]
 obtain ⟨_,hb,hm⟩:=fC.1 hR
 have hok:=λi (hi:i<=l.length) (h0:(aS w s b (l.take i)).2=0)=>oN hm (l:=l.take i) hb hW (λo ho=>hf o (List.mem_of_mem_take ho)) h0
 refine pF Tryz.func9 rfl (λst=> ?_)
 focus ((repeat' first|apply wZ;rfl|show Cn _;constructor|(apply h1)|apply wY;rfl|simp only [zql];omega|(intro h;simp at h)))
 refine aC (X:={x:Nat//x<=l.length/\(aS w s b (l.take x)).2=0}) (λi=>((((((((St.nil 61 st).var 5 24 ((scC s))).var 6 27 (bsC (aS w s b (l.take i.1)).1)).var 10 27 ([.val (.slice none 0 0)])).var 12 97 (w.cells)).pv 33 (.seq (l.map Ot.cells))).pv 34 ((vi ((((l.map Ot.cells)).length:Nat))))).pv 35 ((vi ((i.1:Nat)))))) (λi=>l.length-i.1) ⟨0,by omega,rfl⟩ ?_ (λi=> ?_)
 ·(repeat' first|show Cn _;constructor|exact rfl)
 obtain ⟨i,hi,h0⟩:=i
 dsimp only
 obtain ⟨o1,o2⟩:=hok i hi h0
 rw [zlt,Nat.min_eq_left hi] at o2
 by_cases hend:l.length<=i
 ·have e:l.take i=l:=ztl hend
  rw [e] at h0 o1 o2⊢
  rw [zn (by simp [h0])]
  have hy:=aB9 (hK.ck (o2.S (by omega)) (by omega))
  generalize (aS w s b l).1=B at*
  generalize whyC s B=Y at*
  by_cases hY:Y≠0
  ·rw [zp hY]
   (repeat' first|exact Cn.any ⟨_,_,_,rfl,nY _,zsr _,rfl,rfl⟩|apply wZ;rfl|show Cn _;constructor|(apply hy)|apply wY;rfl|omega|simp only [zql];omega|(intro h;simp at h)|intro h)
  ·rw [zn hY]
   (repeat' first|apply wZ;rfl|show Cn _;constructor|exact rfl|(apply hy)|apply wY;rfl|omega|simp only [zql];omega|(intro h;simp at h)|intro h)
 have hil:i<l.length:=by omega
 have hup:=auS hil h0
 have hst:=λh=>alG (i:=i+1) (l:=l) (w:=w) (s:=s) (b:=b) h
 have h2:=zV (w:=w) (o:=l[i]) (n:=n+i) ⟨hK.sb,hK.len,o2,by omega,hk,hf _ (zgm hil)⟩ hK.col o1
 generalize (aS w s b (l.take i)).1=B at*
 generalize bS w s B l[i]=R at*
 unfold lU at h2
 by_cases hR2:R.2≠0
 ·rw [zp hR2] at hup
  have e:=hst (by rw [hup];exact hR2)
  rw [e,hup,zp hR2]
  (repeat' first|exact Cn.any ⟨_,_,_,rfl,nY _,zsr _,rfl,rfl⟩|apply wZ;rfl|show Cn _;constructor|exact rfl|(apply h2)|apply wY;rfl|apply wI;rfl|apply gE;omega|omega|simp only [zql];omega|(intro h;simp at h)|intro h)
 ·rw [zn hR2] at hup
  have hR2:=zdn hR2
  (repeat' first|refine ⟨⟨i+1,by omega,by rw [hup]⟩, ?_, ?_⟩;((dsimp only;rw [hup]))|apply wZ;rfl|show Cn _;constructor|exact rfl|(apply h2)|apply wY;rfl|apply wI;rfl|apply gE;omega|omega|simp only [zql];omega|(intro h;simp at h)|intro h)
def nU (v:Vl):Bool:=decide (v.s.size<=40)
def fI (o:Ot):Bool:=decide (o.row.length<=20/\o.val.s.size<=40)&&o.row.all nU
theorem qW {o:Ot}:fI o=true↔lV o:=by
 unfold fI lV nU
 rw [zba,zde,zal,and_assoc]
 simp
theorem amU (o:Ot) (hl:o.row.length<200000000000000):PF Tryz.prog 55 [.agg o.cells] (vb (fI o)):=by
 unfold fI
 by_cases h:o.row.length<=20/\o.val.s.size<=40
 ·rw [decide_eq_true h,Bool.true_and]
  have hno:∀j (hj:j<o.row.length),nU o.row[j]=false->o.row.all nU=false:=λj hj q=>by
   rw [<-Bool.not_eq_true,zal]
   intro z
   rw [z _ (zgm hj)] at q;cases q
  have hyes:(∀j (hj:j<o.row.length),nU o.row[j]=true)->o.row.all nU=true:=λq=>by
   rw [zal]
   intro v hv
   obtain ⟨j,hj,rfl⟩:=zgo hv
   exact q j hj
  generalize o.row.all nU=A at*
  refine pF Tryz.func55 rfl (λst=> ?_)
  focus ((repeat' first|apply wZ;rfl|show Cn _;constructor|intro h;simp at h;omega|(intro h;simp at h)))
  refine aC (X:={x:Nat//x<=o.row.length/\∀j (hj:j<o.row.length),j<x->nU o.row[j]=true}) (λi=>(((St.nil 30 st).var 1 82 (o.cells)).pv 3 ((vi ((i.1:Nat)))))) (λi=>o.row.length-i.1) ⟨0,by omega,by omega⟩ ?_ (λi=> ?_)
  ·(repeat' first|show Cn _;constructor|exact rfl)
  obtain ⟨i,hi,hI⟩:=i
  dsimp only
  by_cases hend:o.row.length<=i
  ·have e:=hyes λj hj=>hI j hj (by omega)
   (repeat' first|apply wZ;rfl|show Cn _;constructor|exact rfl|show (_:PV)=_;(rw [e]);done|simp only [zql];omega|(intro h;simp at h))
  have hil:i<o.row.length:=by omega
  by_cases hsv:o.row[i].s.size<=40
  ·have hI2:∀j (hj:j<o.row.length),j<i+1->nU o.row[j]=true:=λj hj hji=>by
    rcases zls.1 hji with q|q
    ·exact hI j hj q
    ·subst q;exact decide_eq_true hsv
   (repeat' first|(refine ⟨⟨i+1,by omega,hI2⟩, ?_, ?_⟩)|apply wZ;rfl|show Cn _;constructor|exact rfl|apply wI;rfl|apply gE;omega|omega|simp only [zql];omega|(intro h;simp at h))
  ·have e:=hno i hil (decide_eq_false hsv)
   (repeat' first|apply wZ;rfl|show Cn _;constructor|exact rfl|show (_:PV)=_;(rw [e]);done|apply wI;rfl|apply gE;omega|omega|simp only [zql];omega|(intro h;simp at h))
 ·rw [decide_eq_false h,Bool.false_and]
  refine pF Tryz.func55 rfl (λst=> ?_)
  (repeat' first|apply wZ;rfl|show Cn _;constructor|exact rfl|intro h;simp at h;omega|(intro h;simp at h))
theorem aiL (l:List Ot) (m:Int) (hl:l.length<200000000000000) (hrw:∀o∈l,o.row.length<200000000000000):PF Tryz.prog 23 [.seq (l.map Ot.cells),(vi (m))] (vb (decide ((l.length:Int)<=m)&&l.all fI)):=by
 by_cases hm:(l.length:Int)<=m
 ·rw [decide_eq_true hm,Bool.true_and]
  have hno:∀j (hj:j<l.length),fI l[j]=false->l.all fI=false:=λj hj q=>by
   rw [<-Bool.not_eq_true,zal]
   intro z
   rw [z _ (zgm hj)] at q;cases q
  have hyes:(∀j (hj:j<l.length),fI l[j]=true)->l.all fI=true:=λq=>by
   rw [zal]
   intro v hv
   obtain ⟨j,hj,rfl⟩:=zgo hv
   exact q j hj
  generalize l.all fI=A at*
  refine pF Tryz.func23 rfl (λst=> ?_)
  focus ((repeat' first|apply wZ;rfl|show Cn _;constructor|simp only [zql];omega|(intro h;simp at h)))
  refine aC (X:={x:Nat//x<=l.length/\∀j (hj:j<l.length),j<x->fI l[j]=true}) (λi=>(((St.nil 24 st).pv 0 (.seq (l.map Ot.cells))).pv 5 ((vi ((i.1:Nat)))))) (λi=>l.length-i.1) ⟨0,by omega,by omega⟩ ?_ (λi=> ?_)
  ·(repeat' first|show Cn _;constructor|exact rfl)
  obtain ⟨i,hi,hI⟩:=i
  dsimp only
  by_cases hend:l.length<=i
  ·have e:=hyes λj hj=>hI j hj (by omega)
   (repeat' first|apply wZ;rfl|show Cn _;constructor|exact rfl|show (_:PV)=_;(rw [e]);done|simp only [zql];omega|(intro h;simp at h))
  have hil:i<l.length:=by omega
  have hf:=amU l[i] (hrw _ (zgm hil))
  have hno:=hno i hil
  have hI2:fI l[i]=true->∀j (hj:j<l.length),j<i+1->fI l[j]=true:=λq j hj hji=>by
   rcases zls.1 hji with z|z
   ·exact hI j hj z
   ·subst z;exact q
  generalize fI l[i]=F at*
  cases F with
  |true=>
   have hI2:=hI2 rfl
   (repeat' first|(refine ⟨⟨i+1,by omega,hI2⟩, ?_, ?_⟩)|apply wZ;rfl|show Cn _;constructor|exact rfl|(apply hf)|apply wY;rfl|apply wI;rfl|apply gE;omega|omega|simp only [zql];omega|(intro h;simp at h))
  |false=>
   have e:=hno rfl
   (repeat' first|apply wZ;rfl|show Cn _;constructor|exact rfl|(apply hf)|show (_:PV)=_;(rw [e]);done|apply wY;rfl|apply wI;rfl|apply gE;omega|simp only [zql];omega|(intro h;simp at h))
 ·rw [decide_eq_false hm,Bool.false_and]
  refine pF Tryz.func23 rfl (λst=> ?_)
  (repeat' first|apply wZ;rfl|show Cn _;constructor|exact rfl|simp only [zql];omega|(intro h;simp at h))
theorem ScK.of {s:Sc} {b:Bs} (h:fewC s b=true) (hB:ScB s) (hK:∀t∈s,tN t):ScK s/\OpW 0 b:=by
 have hC:=CkB.of h hB hK
 refine ⟨⟨hC.sb,hC.len,hC.col,hC.chk⟩,aId ?_⟩
 unfold fewC at h
 simp only [zba] at h
 first|exact h.1.2|exact h.2.1|exact h.1.1|exact h.2|exact h.1
end
section
set_option maxRecDepth 10000
set_option maxHeartbeats 4000000
abbrev P4 :=Int×Int×Int×Int
def uT (p:P4) (M:List P4):List P4:=if p∈M then M else M++[p]
def acH (was is:Ln) (col k t c:Int) (M:List P4):List P4:=match ptP is col with
 |none=>M
 |some n=>if ptP was col=some n then M else uT (k,t,c,n) M
def asK (was is:Ln) (l:List Fr) (M:List P4):List P4:=l.foldl (λM f=>acH was is f.col 1 f.table 0 M) M
def azE (was is:Ln) (k:Int) (l:List Int) (M:List P4):List P4:=l.foldl (λM u=>acH was is u 2 k u M) M
def mD (t:Tb) (k:Int) (was is:Ln) (key:Int) (M:List P4):List P4:=azE was is k t.unique (asK was is t.foreign (uT (1,k,0,key) M))
def uN (t:Tb) (k:Int) (N L:List Ln) (M:List P4):List P4:=L.foldl (λM l=>match bE N l.key with
 |none=>mD t k l Ln.zero l.key M
 |some x=>if l=x then M else mD t k l x l.key M) M
def abU (t:Tb) (k:Int) (O L:List Ln) (M:List P4):List P4:=L.foldl (λM l=>if (bE O l.key).isSome=true then M else mD t k Ln.zero l l.key M) M
def vR (s:Sc) (was is:Bs) (M:List P4) (k:Nat):List P4:=abU s[k]! k (aF was k) (aF is k) (uN s[k]! k (aF is k) (aF was k) M)
def mH (s:Sc) (was is:Bs) (M:List P4):List P4:=(List.range s.length).foldl (vR s was is) M
def iF (w:Wr) (s:Sc):Bs->List Ot->List P4->List P4
 |_,[],M=>M
 |b,o::r,M=>iF w s (bS w s b o).1 r (mH s b (bS w s b o).1 M)
def xL (t:Tb) (k:Int) (was is:Ln) (key:Int) (x:P4):Prop:=x=(1,k,0,key)\/(∃f∈t.foreign,∃n,ptP is f.col=some n/\ptP was f.col≠some n/\x=(1,f.table,0,n))\/∃u∈t.unique,∃n,ptP is u=some n/\ptP was u≠some n/\x=(2,k,u,n)
def awP (s:Sc) (was is:Bs) (x:P4):Prop:=∃k<s.length,∃key,bE (aF was (k:Nat)) key≠bE (aF is (k:Nat)) key/\xL s[k]! k ((bE (aF was (k:Nat)) key).getD Ln.zero) ((bE (aF is (k:Nat)) key).getD Ln.zero) key x
def uQ (w:Wr) (s:Sc):Bs->List Ot->P4->Prop
 |_,[],_=>False
 |b,o::r,x=>awP s b (bS w s b o).1 x\/uQ w s (bS w s b o).1 r x
theorem auQ {p x:P4} {M:List P4}:x∈uT p M↔x∈M\/x=p:=by
 unfold uT
 split
 ·rename_i h
  exact ⟨.inl,λq=>q.elim id λe=>e▸h⟩
 ·simp
theorem aB8 {p:P4} {M:List P4} (h:M.Nodup):(uT p M).Nodup:=by
 unfold uT
 split
 ·exact h
 ·rename_i hn
  exact List.nodup_append.2 ⟨h,by simp,λa ha b hb=>by
   simp only [zms] at hb
   subst hb;exact λe=>hn (e▸ha)⟩
theorem mC {α:Type} {F:List P4->α->List P4} {Q:α->P4->Prop} {x:P4}:∀(l:List α) (M:List P4),(∀a∈l,∀M,x∈F M a↔x∈M\/Q a x)->(x∈l.foldl F M↔x∈M\/∃a∈l,Q a x)
 |[],M,_=>by simp
 |a::l,M,h=>by
  rw [List.foldl_cons,mC l (F M a) (λc hc=>h c (List.mem_cons_of_mem _ hc)),h a List.mem_cons_self]
  constructor
  ·rintro ((q|q)|⟨c,hc,q⟩)
   ·exact .inl q
   ·exact .inr ⟨a,List.mem_cons_self,q⟩
   ·exact .inr ⟨c,List.mem_cons_of_mem _ hc,q⟩
  ·rintro (q|⟨c,hc,q⟩)
   ·exact .inl (.inl q)
   ·rcases zmc.1 hc with rfl|hc
    ·exact .inl (.inr q)
    ·exact .inr ⟨c,hc,q⟩
theorem qZ {α:Type} {F:List P4->α->List P4}:∀(l:List α) (M:List P4),(∀a∈l,∀M:List P4,M.Nodup->(F M a).Nodup)->M.Nodup->(l.foldl F M).Nodup
 |[],_,_,h=>h
 |a::l,M,hF,h=>by
  rw [List.foldl_cons]
  exact qZ l _ (λc hc=>hF c (List.mem_cons_of_mem _ hc)) (hF a List.mem_cons_self _ h)
theorem awF {was is:Ln} {col k t c:Int} {M:List P4} {x:P4}:x∈acH was is col k t c M↔x∈M\/∃n,ptP is col=some n/\ptP was col≠some n/\x=(k,t,c,n):=by
 unfold acH
 cases h:ptP is col with
 |none=>simp
 |some n=>
  dsimp only
  split
  ·rename_i e
   constructor
   ·exact .inl
   ·rintro (q|⟨m,h1,h2,_⟩)
    ·exact q
    ·obtain rfl:=Option.some.inj h1
     exact absurd e h2
  ·rename_i e
   rw [auQ]
   constructor
   ·rintro (q|q)
    ·exact .inl q
    ·exact .inr ⟨n,rfl,e,q⟩
   ·rintro (q|⟨m,h1,_,q⟩)
    ·exact .inl q
    ·obtain rfl:=Option.some.inj h1
     exact .inr q
theorem aBx {was is:Ln} {col k t c:Int} {M:List P4} (h:M.Nodup):(acH was is col k t c M).Nodup:=by
 unfold acH
 split
 ·exact h
 ·split
  ·exact h
  ·exact aB8 h
theorem abB {t:Tb} {k key:Int} {was is:Ln} {M:List P4} {x:P4}:x∈mD t k was is key M↔x∈M\/xL t k was is key x:=by
 unfold mD azE asK xL
 rw [mC (Q:=λu x=>∃n,ptP is u=some n/\ptP was u≠some n/\x=(2,k,u,n)) _ _ (λu _ M=>awF),mC (Q:=λ(f:Fr) x=>∃n,ptP is f.col=some n/\ptP was f.col≠some n/\x=(1,f.table,0,n)) _ _ (λf _ M=>awF),auQ]
 simp only [or_assoc]
theorem ahR {t:Tb} {k key:Int} {was is:Ln} {M:List P4} (h:M.Nodup):(mD t k was is key M).Nodup:=
 qZ _ _ (λ_ _ _ q=>aBx q) (qZ _ _ (λ_ _ _ q=>aBx q) (aB8 h))
theorem aEQ {t:Tb} {k:Int} {N L:List Ln} {M:List P4} {x:P4}:x∈uN t k N L M↔x∈M\/∃l∈L,some l≠bE N l.key/\xL t k l ((bE N l.key).getD Ln.zero) l.key x:=by
 unfold uN
 refine mC (Q:=λ(l:Ln) x=>some l≠bE N l.key/\xL t k l ((bE N l.key).getD Ln.zero) l.key x) _ _ λl _ M=> ?_
 cases h:bE N l.key with
 |none=>
  dsimp only
  rw [abB]
  simp
 |some y=>
  dsimp only
  split
  ·rename_i e;simp [e]
  ·rename_i e
   rw [abB]
   simp [e]
theorem aG0 {t:Tb} {k:Int} {N L:List Ln} {M:List P4} (h:M.Nodup):(uN t k N L M).Nodup:=
 qZ _ _ (λl _ M q=>by
  cases bE N l.key with
  |none=>exact ahR q
  |some y=>
   dsimp only
   split
   ·exact q
   ·exact ahR q) h
theorem aEW {t:Tb} {k:Int} {O L:List Ln} {M:List P4} {x:P4}:x∈abU t k O L M↔x∈M\/∃l∈L,bE O l.key=none/\xL t k Ln.zero l l.key x:=by
 unfold abU
 refine mC (Q:=λ(l:Ln) x=>bE O l.key=none/\xL t k Ln.zero l l.key x) _ _ λl _ M=> ?_
 cases h:bE O l.key with
 |none=>rw [zn (by simp),abB];simp
 |some y=>simp
theorem aGT {t:Tb} {k:Int} {O L:List Ln} {M:List P4} (h:M.Nodup):(abU t k O L M).Nodup:=
 qZ _ _ (λl _ M q=>by
  split
  ·exact q
  ·exact ahR q) h
theorem aGp {s:Sc} {was is:Bs} {M:List P4} (h:M.Nodup):(mH s was is M).Nodup:=qZ _ _ (λ_ _ _ q=>aGT (aG0 q)) h
theorem aC0 {s:Sc} {was is:Bs} (h1:∀k:Int,KSort (aF was k)) (h2:∀k:Int,KSort (aF is k)) {M:List P4} {x:P4}:x∈mH s was is M↔x∈M\/awP s was is x:=by
 unfold mH awP
 rw [mC (Q:=λ(k:Nat) x=>∃key,bE (aF was (k:Nat)) key≠bE (aF is (k:Nat)) key/\xL s[k]! k ((bE (aF was (k:Nat)) key).getD Ln.zero) ((bE (aF is (k:Nat)) key).getD Ln.zero) key x) _ _ λk _ M=> ?_]
 ·simp only [List.mem_range]
 unfold vR
 rw [aEW,aEQ,or_assoc]
 refine or_congr Iff.rfl ?_
 constructor
 ·rintro (⟨l,hl,a,q⟩|⟨l,hl,a,q⟩)
  ·have e:bE (aF was k) l.key=some l:=(iP (h1 k)).2 ⟨hl,rfl⟩
   exact ⟨l.key,by rw [e];exact a,by rw [e];exact q⟩
  ·have e:bE (aF is k) l.key=some l:=(iP (h2 k)).2 ⟨hl,rfl⟩
   exact ⟨l.key,by rw [e,a];simp,by rw [e,a];exact q⟩
 ·rintro ⟨key,a,q⟩
  cases e:bE (aF was k) key with
  |some l=>
   obtain ⟨m1,rfl⟩:=(iP (h1 k)).1 e
   exact .inl ⟨l,m1,by rw [<-e];exact a,by rw [e] at q;exact q⟩
  |none=>
   cases e2:bE (aF is k) key with
   |none=>rw [e,e2] at a;exact absurd rfl a
   |some l=>
    obtain ⟨m1,rfl⟩:=(iP (h2 k)).1 e2
    exact .inr ⟨l,m1,e,by rw [e,e2] at q;exact q⟩
theorem aBj {w:Wr} {s:Sc}:∀{l:List Ot} {b:Bs} {M:List P4},M.Nodup->(iF w s b l M).Nodup
 |[],_,_,h=>h
 |o::r,b,M,h=>by
  show (iF w s (bS w s b o).1 r (mH s b (bS w s b o).1 M)).Nodup
  exact aBj (aGp h)
theorem iN {w:Wr} {s:Sc} {b:Bs} {o:Ot} {r:List Ot} (h:(aS w s b (o::r)).2=0):(bS w s b o).2=0/\aS w s b (o::r)=aS w s (bS w s b o).1 r:=by
 rw [mO] at h⊢
 by_cases e:(bS w s b o).2≠0
 ·rw [zp e] at h;exact absurd h e
 ·rw [zn e];exact ⟨zdn e,rfl⟩
theorem vV {w:Wr} {s:Sc} {b:Bs} {o:Ot} {k:Nat} (hw:pG w=true) (hb:bH T.rightP s b=true) (hW:OpW k b) (hf:lV o) (h:(bS w s b o).2=0):bH T.rightP s (bS w s b o).1=true/\OpW (k+1) (bS w s b o).1:=by
 have e:aS w s b [o]=((bS w s b o).1,0):=by rw [mO,zn (by simp [h])];rfl
 have:=oN hw (l:=[o]) hb hW (by simpa using hf) (by rw [e])
 rw [e] at this
 exact this
theorem aiE {w:Wr} {s:Sc} (hw:pG w=true) {x:P4}:∀{l:List Ot} {b:Bs} {k:Nat} {M:List P4},bH T.rightP s b=true->OpW k b->(∀o∈l,lV o)->(aS w s b l).2=0->(x∈iF w s b l M↔x∈M\/uQ w s b l x)
 |[],b,k,M,_,_,_,_=>by simp [iF,uQ]
 |o::r,b,k,M,hb,hW,hf,h=>by
  obtain ⟨h0,e⟩:=iN h
  obtain ⟨b1,b2⟩:=vV hw hb hW (hf o List.mem_cons_self) h0
  unfold iF uQ
  rw [aiE hw b1 b2 (λp hp=>hf p (List.mem_cons_of_mem _ hp)) (e▸h),aC0 (eO hb) (eO b1),or_assoc]
theorem ajS {w:Wr} {s:Sc} {k:Nat} (hk:k<s.length) {key:Int}:∀{l:List Ot} {b:Bs},(aS w s b l).2=0->¬uQ w s b l (1,(k:Int),0,key)->bE (aF (aS w s b l).1 (k:Int)) key=bE (aF b (k:Int)) key
 |[],b,_,_=>rfl
 |o::r,b,h,hn=>by
  obtain ⟨h0,e⟩:=iN h
  unfold uQ at hn
  rw [e,ajS hk (e▸h) λq=>hn (.inr q)]
  refine Classical.byContradiction λhne=>hn (.inl ⟨k,hk,key,λq=>hne q.symm, .inl rfl⟩)
theorem amR {w:Wr} {s:Sc} {k:Nat} (hk:k<s.length) {key u n:Int} (hu:u∈s[k]!.unique):∀{l:List Ot} {b:Bs},(aS w s b l).2=0->¬uQ w s b l (2,(k:Int),u,n)->ptP ((bE (aF (aS w s b l).1 (k:Int)) key).getD Ln.zero) u=some n->ptP ((bE (aF b (k:Int)) key).getD Ln.zero) u=some n
 |[],b,_,_,hp=>hp
 |o::r,b,h,hn,hp=>by
  obtain ⟨h0,e⟩:=iN h
  unfold uQ at hn
  rw [e] at hp
  have q:=amR hk hu (e▸h) (λq=>hn (.inr q)) hp
  refine Classical.byContradiction λhne=>hn (.inl ⟨k,hk,key,λc=>hne (by rw [c];exact q), .inr (.inr ⟨u,hu,n,q,hne,rfl⟩)⟩)
theorem akG {w:Wr} {s:Sc} {k:Nat} (hk:k<s.length) {key n:Int} {f:Fr} (hf:f∈s[k]!.foreign):∀{l:List Ot} {b:Bs},(aS w s b l).2=0->¬uQ w s b l (1,f.table,0,n)->ptP ((bE (aF (aS w s b l).1 (k:Int)) key).getD Ln.zero) f.col=some n->ptP ((bE (aF b (k:Int)) key).getD Ln.zero) f.col=some n
 |[],b,_,_,hp=>hp
 |o::r,b,h,hn,hp=>by
  obtain ⟨h0,e⟩:=iN h
  unfold uQ at hn
  rw [e] at hp
  have q:=akG hk hf (e▸h) (λq=>hn (.inr q)) hp
  refine Classical.byContradiction λhne=>hn (.inl ⟨k,hk,key,λc=>hne (by rw [c];exact q), .inr (.inl ⟨f,hf,n,q,hne,rfl⟩)⟩)
theorem avK (u:Int):ptP Ln.zero u=none:=by
 unfold ptP
 rw [zn]
 show ¬(0<=u/\u<((0:Nat):Int))
 omega
def yT (s:Sc) (k:Nat) (u:Int):Prop:=0<=u/\u<s[k]!.cols.length/\s[k]!.cols[u.toNat]!.kind=0
theorem awT {s:Sc} (h:cB s=0) {k:Nat} (hk:k<s.length) {f:Fr} (hf:f∈s[k]!.foreign):yT s k f.col:=by
 rw [getElem!_pos s k hk] at hf
 have q:=avP h hk hf
 unfold yT
 rw [getElem!_pos s k hk]
 exact ⟨by have:=q.c1;omega,q.c2,q.kind⟩
theorem atN {s:Sc} (h:cB s=0) {k:Nat} (hk:k<s.length) {u:Int} (hu:u∈s[k]!.unique):yT s k u:=by
 rw [getElem!_pos s k hk] at hu
 have q:=aGt h hk hu
 unfold yT
 rw [getElem!_pos s k hk]
 exact ⟨by have:=q.c1;omega,q.c2,q.kc⟩
theorem tL {s:Sc} {b:Bs} (hb:bH T.rightP s b=true) {k:Nat} (hk:k<s.length) {l:Ln} (hl:l∈aF b (k:Int)):LineOK T.rightP s[k]! l:=by
 obtain ⟨⟨_,h2⟩,_⟩:=aU.1 hb
 have hkb:k<b.length:=by omega
 rw [eZ hkb] at hl
 exact rE hb hkb hl
theorem sO {s:Sc} {b:Bs} (hb:bH T.rightP s b=true) {k:Nat} (hk:k<s.length) {u:Int} (hu:yT s k u) {l:Ln} (hl:l∈aF b (k:Int)):fR l u:=λj hj e=>by
 have hL:=tL hb hk hl
 rw [hL.kind j hj]
 have:=hu.2.2
 rwa [show u.toNat=j by omega] at this
theorem anB (u:Int):fR Ln.zero u:=λj hj _=>by simp [Ln.zero] at hj
theorem aDb {s:Sc} {b:Bs} (hb:bH T.rightP s b=true) {k:Nat} (hk:k<s.length) {u:Int} (hu:yT s k u) {l:Ln} (hl:l∈aF b (k:Int)) {n:Int} (hp:ptP l u=some n): -1099511627776<=n/\n<=1099511627776:=by
 have hL:=tL hb hk hl
 have hlen:=hL.len
 obtain ⟨u0,u1,u2⟩:=hu
 have hj:u.toNat<l.cells_.length:=by omega
 unfold ptP at hp
 rw [zp (by omega),getElem!_pos l.cells_ _ hj] at hp
 split at hp
 ·obtain rfl:=Option.some.inj hp
  have hc:=hL.cell _ (zgm hj)
  unfold iU at hc
  rw [zp (by rw [hL.kind _ hj];exact u2),zba] at hc
  exact (asY hc.1).1
 ·cases hp
def ahE (x:P4):Prop:= -1099511627776<=x.2.2.2/\x.2.2.2<=1099511627776
theorem apU {s:Sc} {was is:Bs} (h1:bH T.rightP s was=true) (h2:bH T.rightP s is=true) {x:P4} (h:awP s was is x):ahE x:=by
 obtain ⟨k,hk,key,hne,h⟩:=h
 have hrs:=(aU.1 h2).1.1
 have hpt:∀u n,yT s k u->ptP ((bE (aF is (k:Int)) key).getD Ln.zero) u=some n-> -1099511627776<=n/\n<=1099511627776:=λu n hu hp=>by
  cases e:bE (aF is (k:Int)) key with
  |none=>rw [e] at hp;rw [show ((none:Option Ln).getD Ln.zero)=Ln.zero from rfl,avK] at hp;cases hp
  |some l=>rw [e] at hp;exact aDb h2 hk hu (oA e) hp
 rcases h with rfl|⟨f,hf,n,q1,_,rfl⟩|⟨u,hu,n,q1,_,rfl⟩
 ·unfold ahE
  dsimp only
  cases e:bE (aF was (k:Int)) key with
  |some l=>
   obtain ⟨m1,m2⟩:=(iP (eO h1 k)).1 e
   have hL:=tL h1 hk m1
   have:=hL.k1;have:=hL.k2
   omega
  |none=>
   cases e2:bE (aF is (k:Int)) key with
   |none=>rw [e,e2] at hne;exact absurd rfl hne
   |some l=>
    obtain ⟨m1,m2⟩:=(iP (eO h2 k)).1 e2
    have hL:=tL h2 hk m1
    have:=hL.k1;have:=hL.k2
    omega
 ·exact hpt _ _ (awT hrs hk hf) q1
 ·exact hpt _ _ (atN hrs hk hu) q1
theorem aeB {w:Wr} {s:Sc} (hw:pG w=true) {x:P4}:∀{l:List Ot} {b:Bs} {k:Nat},bH T.rightP s b=true->OpW k b->(∀o∈l,lV o)->(aS w s b l).2=0->uQ w s b l x->ahE x
 |[],_,_,_,_,_,_,h=>h.elim
 |o::r,b,k,hb,hW,hf,h,hx=>by
  obtain ⟨h0,e⟩:=iN h
  obtain ⟨b1,b2⟩:=vV hw hb hW (hf o List.mem_cons_self) h0
  rcases hx with q|q
  ·exact apU hb b1 q
  ·exact aeB hw b1 b2 (λp hp=>hf p (List.mem_cons_of_mem _ hp)) (e▸h) q
theorem awL {was is:Ln} {col k t c:Int} {M:List P4}:(acH was is col k t c M).length<=M.length+1:=by
 unfold acH uT
 split
 ·omega
 ·split
  ·omega
  ·split
   ·omega
   ·simp
theorem mX {α:Type} {F:List P4->α->List P4} {n:Nat}:∀(l:List α) (M:List P4),(∀a∈l,∀M,(F M a).length<=M.length+n)->(l.foldl F M).length<=M.length+n*l.length
 |[],M,_=>by simp
 |a::l,M,h=>by
  have h1:=mX l (F M a) λc hc=>h c (List.mem_cons_of_mem _ hc)
  have h2:=h a List.mem_cons_self M
  rw [List.foldl_cons,zlc,Nat.mul_add]
  omega
theorem abQ {t:Tb} {k key:Int} {was is:Ln} {M:List P4}:(mD t k was is key M).length<=M.length+(1+t.foreign.length+t.unique.length):=by
 unfold mD azE asK
 refine Nat.le_trans (mX (n:=1) _ _ λ_ _ _=>awL) ?_
 have h1:=mX (n:=1) t.foreign (uT (1,k,0,key) M) (F:=λM f=>acH was is f.col 1 f.table 0 M) λ_ _ _=>awL
 have h2:(uT (1,k,0,key) M).length<=M.length+1:=by
  unfold uT
  split
  ·omega
  ·simp
 omega
theorem aER {t:Tb} {k:Int} {N L:List Ln} {M:List P4}:(uN t k N L M).length<=M.length+(1+t.foreign.length+t.unique.length)*L.length:=
 mX _ _ λl _ M=>by
  cases bE N l.key with
  |none=>exact abQ
  |some y=>
   dsimp only
   split
   ·omega
   ·exact abQ
theorem aEl {t:Tb} {k:Int} {O L:List Ln} {M:List P4}:(abU t k O L M).length<=M.length+(1+t.foreign.length+t.unique.length)*L.length:=
 mX _ _ λl _ M=>by
  split
  ·omega
  ·exact abQ
def aGf (s:Sc):Prop:=s.length<=20/\∀k<s.length,s[k]!.foreign.length+s[k]!.unique.length<=400
theorem aFg {s:Sc} {was is:Bs} (hs:aGf s) (h1:∀k:Int,(aF was k).length<=200) (h2:∀k:Int,(aF is k).length<=200) {k:Nat} (hk:k<s.length) {M:List P4}:(vR s was is M k).length<=M.length+160400:=by
 unfold vR
 have q1:=aEl (t:=s[k]!) (k:=k) (O:=aF was k) (L:=aF is k) (M:=uN s[k]! k (aF is k) (aF was k) M)
 have q2:=aER (t:=s[k]!) (k:=k) (N:=aF is k) (L:=aF was k) (M:=M)
 have q3:=hs.2 k hk
 have e1:(1+s[k]!.foreign.length+s[k]!.unique.length)*(aF was k).length<=401*200:=Nat.mul_le_mul (by omega) (h1 k)
 have e2:(1+s[k]!.foreign.length+s[k]!.unique.length)*(aF is k).length<=401*200:=Nat.mul_le_mul (by omega) (h2 k)
 omega
theorem ayQ {s:Sc} {was is:Bs} (hs:aGf s) (h1:∀k:Int,(aF was k).length<=200) (h2:∀k:Int,(aF is k).length<=200) {M:List P4}:(mH s was is M).length<=M.length+3208000:=by
 unfold mH
 have:=mX (F:=vR s was is) (n:=160400) (List.range s.length) M λk hk M=>aFg hs h1 h2 (List.mem_range.1 hk)
 rw [List.length_range] at this
 have h20:=hs.1
 have:160400*s.length<=160400*20:=Nat.mul_le_mul (Nat.le_refl _) h20
 omega
theorem agL {w:Wr} {s:Sc} (hs:aGf s):∀{l:List Ot} {b:Bs} {k:Nat} {M:List P4},OpW k b->k+l.length<=20->(∀o∈l,lV o)->(iF w s b l M).length<=M.length+3208000*l.length
 |[],_,_,_,_,_,_=>by simp [iF]
 |o::r,b,k,M,hW,hk,hf=>by
  rw [zlc] at hk
  have hW2:=aDF (w:=w) (s:=s) hW (hf o List.mem_cons_self)
  unfold iF
  have q1:=ayQ hs (was:=b) (is:=(bS w s b o).1) (M:=M) (λk=>by have:=(iT hW k).1;omega) (λk=>by have:=(iT hW2 k).1;omega)
  have q2:=agL hs (w:=w) (l:=r) (M:=mH s b (bS w s b o).1 M) hW2 (by omega) λp hp=>hf p (List.mem_cons_of_mem _ hp)
  rw [zlc]
  omega
end
section
set_option maxRecDepth 10000
set_option maxHeartbeats 4000000
section
variable {α:Type} (lt:α->α->Bool)
def arH (x:α):List α->List α
 |[]=>[x]
 |a::l=>if lt a x=true then a::arH x l else x::a::l
def wM (l:List α):List α:=l.foldr (arH lt) []
theorem wS (x:α):∀l:List α,(arH lt x l).Perm (x::l)
 |[]=> .refl _
 |a::l=>by
  unfold arH
  split
  ·exact ((wS x l).cons a).trans (List.Perm.swap x a l)
  ·exact .refl _
theorem eV :∀l:List α,(wM lt l).Perm l
 |[]=> .refl _
 |a::l=>(wS lt a (wM lt l)).trans ((eV l).cons a)
structure OrdX :Prop where
 asy:∀{a b},lt a b=true->lt b a=false
 neg:∀{a b c},lt a b=false->lt c a=false->lt c b=false
 eq:∀{a b},lt a b=false->lt b a=false->a=b
variable {lt}
theorem auO (h:OrdX lt) (x:α):∀{l:List α},l.Pairwise (λa b=>lt b a=false)->(arH lt x l).Pairwise λa b=>lt b a=false
 |[],_=>by simp [arH]
 |a::l,hp=>by
  obtain ⟨h1,h2⟩:=List.pairwise_cons.1 hp
  unfold arH
  split
  ·rename_i e
   refine List.pairwise_cons.2 ⟨λb hb=> ?_,auO h x h2⟩
   rcases zmc.1 ((wS lt x l).mem_iff.1 hb) with rfl|hb
   ·exact h.asy e
   ·exact h1 b hb
  ·rename_i e
   have e:lt a x=false:=by simpa using e
   refine List.pairwise_cons.2 ⟨λb hb=> ?_,hp⟩
   rcases zmc.1 hb with rfl|hb
   ·exact e
   ·exact h.neg e (h1 b hb)
theorem ahL (h:OrdX lt):∀l:List α,(wM lt l).Pairwise λa b=>lt b a=false
 |[]=>List.Pairwise.nil
 |a::l=>auO h a (ahL h l)
theorem vF (h:OrdX lt) {l:List α} (hn:l.Nodup) (hp:l.Pairwise λa b=>lt b a=false):l.Pairwise λa b=>lt a b=true:=by
 unfold List.Nodup at hn
 refine (hn.and hp).imp fun {a b} q=> ?_
 cases e:lt a b with
 |true=>rfl
 |false=>exact absurd (h.eq e q.2) q.1
theorem anK (h:OrdX lt) {l m:List α} (hl:l.Pairwise λa b=>lt a b=true) (hm:m.Pairwise λa b=>lt a b=true) (hx:∀x,x∈l↔x∈m):l=m:=
 awC (r:=λa b=>lt a b=true) (fun {a b c} h1 h2=>by
  cases e:lt a c with
  |true=>rfl
  |false=>have:=h.neg (h.asy h2) e;rw [h1] at this;cases this) (fun {a} q=>by have:=h.asy q;rw [q] at this;cases this) hl hm hx
theorem axA (h:OrdX lt) {M R:List α} (hn:M.Nodup) (hp:R.Perm M) (hw:R.Pairwise λa b=>lt b a=false):R=wM lt M:=
 anK h (vF h (hp.nodup_iff.2 hn) hw) (vF h ((eV lt M).nodup_iff.2 hn) (ahL h M)) λx=>hp.mem_iff.trans (eV lt M).mem_iff.symm
end
def jN (a b:P4):Bool:=decide (a.1<b.1\/a.1=b.1/\(a.2.1<b.2.1\/a.2.1=b.2.1/\(a.2.2.1<b.2.2.1\/a.2.2.1=b.2.2.1/\a.2.2.2<b.2.2.2)))
theorem aCN :OrdX jN where
 asy {a b} h:=by simp only [jN,zde,decide_eq_false_iff_not] at*;omega
 neg {a b c} h1 h2:=by simp only [jN,decide_eq_false_iff_not] at*;omega
 eq {a b} h1 h2:=by
  simp only [jN,decide_eq_false_iff_not] at*
  exact Prod.ext (by omega) (Prod.ext (by omega) (Prod.ext (by omega) (by omega)))
def ltI (a b:Int):Bool:=decide (a<b)
theorem ahC :OrdX ltI where
 asy {a b} h:=by simp only [ltI,zde,decide_eq_false_iff_not] at*;omega
 neg {a b c} h1 h2:=by simp only [ltI,decide_eq_false_iff_not] at*;omega
 eq {a b} h1 h2:=by simp only [ltI,decide_eq_false_iff_not] at*;omega
def adC :List Int->List Int
 |[]=>[]
 |a::l=>if a∈adC l then adC l else a::adC l
theorem aaL {x:Int}:∀{l:List Int},x∈adC l↔x∈l
 |[]=>Iff.rfl
 |a::l=>by
  unfold adC
  have ih:=aaL (x:=x) (l:=l)
  split
  ·rename_i h
   rw [ih,zmc]
   exact ⟨.inr,λq=>q.elim (λe=>e▸aaL.1 h) id⟩
  ·rw [zmc,zmc,ih]
theorem aiA :∀l:List Int,(adC l).Nodup
 |[]=>List.nodup_nil
 |a::l=>by
  unfold adC
  split
  ·exact aiA l
  ·rename_i h
   exact List.nodup_cons.2 ⟨h,aiA l⟩
def pM (l:List Int):List Int:=wM ltI (adC l)
theorem aqP {l r:List Int} (hp:r.Pairwise (· < ·)) (hx:∀x,x∈r↔x∈l):r=pM l:=
 anK ahC (hp.imp fun {a b} h=>decide_eq_true h) (vF ahC ((eV ltI _).nodup_iff.2 (aiA l)) (ahL ahC _)) λx=>by
  rw [hx];unfold pM;rw [(eV ltI _).mem_iff,aaL]
theorem afZ (l:List Int):(pM l).length<=l.length:=by
 unfold pM
 rw [(eV ltI _).length_eq]
 induction l with
 |nil=>simp [adC]
 |cons a l ih=>
  unfold adC
  split
  ·simp;omega
  ·simp;omega
def jU (b:Bs) (k:Nat) (m:Su):List Int:=(aF b (k:Int)).filterMap λl=>ptP l m.by_
abbrev S4 :=Int×Int×Int×Int
noncomputable def moreS (s:Sc) (was is:Bs) (k i:Nat) (g:Int):Option S4:=if totC s is k i g-totC s was k i g≠0 then some (k,i,g,totC s is k i g-totC s was k i g) else none
noncomputable def sumI (s:Sc) (was is:Bs) (k i:Nat):List S4:=(pM (jU was k s[k]!.sums[i]!++jU is k s[k]!.sums[i]!)).filterMap (moreS s was is k i)
noncomputable def sumK (s:Sc) (was is:Bs) (k:Nat):List S4:=(List.range s[k]!.sums.length).flatMap (sumI s was is k)
noncomputable def sumsP (s:Sc) (was is:Bs):List S4:=if bH T.rightP s was=true/\bH T.rightP s is=true then (List.range s.length).flatMap (sumK s was is) else []
structure Rg where
 kind:Int
 table:Int
 col:Int
 lo:Int
 hi:Int
 amt:Int
def Rg.cells (r:Rg):List PV:=[(vi (r.kind)),(vi (r.table)),(vi (r.col)),(vi (r.lo)),(vi (r.hi)),(vi (r.amt))]
def rgP (p:P4):Rg:=⟨p.1,p.2.1,p.2.2.1,p.2.2.2,p.2.2.2+1,0⟩
def rgS (x:S4):Rg:=⟨3,x.1,x.2.1,x.2.2.1,0,x.2.2.2⟩
noncomputable def ofP (w:Wr) (s:Sc) (b:Bs) (l:List Ot):List Rg×Int:=if l.length=0 then ([],0) else if (fG w s b l).2≠0 then ([],(fG w s b l).2) else ((wM jN (iF w s b l [])).map rgP++((sumsP s b (fG w s b l).1).filter λx=>decide (x.2.2.2>0)).map rgS,0)
def uH (l:List Rg) (kind table col n:Int):Bool:=l.any λr=>decide (r.kind=kind/\r.table=table/\r.col=col/\r.lo<=n/\n<r.hi)
theorem aEh {w:Wr} {s:Sc} {b:Bs} {l:List Ot} (hl:l.length≠0) (h:(fG w s b l).2=0) {k t c n:Int} (hk:k≠3):uH (ofP w s b l).1 k t c n=decide ((k,t,c,n)∈iF w s b l []):=by
 unfold ofP uH
 rw [zn hl,zn (by simp [h]),List.any_append]
 have h2:(List.map rgS ((sumsP s b (fG w s b l).1).filter λx=>decide (x.2.2.2>0))).any (λr=>decide (r.kind=k/\r.table=t/\r.col=c/\r.lo<=n/\n<r.hi))=false:=by
  rw [List.any_eq_false]
  intro r hr
  obtain ⟨x,_,rfl⟩:=List.mem_map.1 hr
  intro q
  exact hk (of_decide_eq_true q).1.symm
 rw [h2,Bool.or_false,Bool.eq_iff_iff,List.any_eq_true,zde]
 constructor
 ·rintro ⟨r,hr,q⟩
  obtain ⟨p,hp,rfl⟩:=List.mem_map.1 hr
  rw [(eV jN _).mem_iff] at hp
  obtain ⟨q1,q2,q3,q4,q5⟩:=of_decide_eq_true q
  have q4:p.2.2.2<=n:=q4
  have q5:n<p.2.2.2+1:=q5
  have:p=(k,t,c,n):=Prod.ext q1 (Prod.ext q2 (Prod.ext q3 (by show p.2.2.2=n;omega)))
  exact this▸hp
 ·intro h
  refine ⟨rgP (k,t,c,n),List.mem_map_of_mem ((eV jN _).mem_iff.2 h), ?_⟩
  exact decide_eq_true ⟨rfl,rfl,rfl,Int.le_refl _,by show n<n+1;omega⟩
end
section
attribute [local irreducible] Ev PWp
set_option maxRecDepth 10000
set_option maxHeartbeats 4000000
theorem afE {α:Type} {l m:List α} {i:Nat} (h:l.take i=m.take i) (h1:i<l.length) (h2:i<m.length) (e:l[i]=m[i]):l.take (i+1)=m.take (i+1):=by
 rw [List.take_succ_eq_append_getElem h1,List.take_succ_eq_append_getElem h2,h,e]
theorem atS {α:Type} [DecidableEq α] {l m:List α} {i:Nat} (h1:i<l.length) (h2:i<m.length) (e:l[i]≠m[i]):decide (l=m)=false:=decide_eq_false λh=>by subst h;exact e rfl
theorem avM {α:Type} [DecidableEq α] {l m:List α} {i:Nat} (h:l.take i=m.take i) (h1:l.length<=i) (h2:m.length<=i):decide (l=m)=true:=by
 rw [ztl h1,ztl h2] at h;exact decide_eq_true h
theorem amH (l m:List Dt) (hl:l.length<4611686018427387904):PF Tryz.prog 92 [.seq (l.map Dt.cells), .seq (m.map Dt.cells)] (vb (decide (l=m))):=by
 refine pF Tryz.func92 rfl (λst=> ?_)
 (repeat' first|apply wZ;rfl|show Cn _;constructor|exact rfl|show (_:PV)=_;(rw [decide_eq_false (λe:l=m=>by subst e;simp at*)]);done|(intro h;simp at h))
 refine aC (X:={x:Nat//x<=l.length/\l.take x=m.take x}) (λi=>(((((St.nil 26 st).pv 0 (.seq (l.map Dt.cells))).pv 1 (.seq (m.map Dt.cells))).pv 12 ((vi ((((l.map Dt.cells)).length:Nat))))).pv 13 ((vi ((i.1:Nat)))))) (λi=>l.length-i.1) ⟨0,by omega,rfl⟩ ?_ (λi=> ?_)
 ·(repeat' first|show Cn _;constructor|exact rfl)
 obtain ⟨i,hi,hinv⟩:=i
 dsimp only
 have hlm:l.length=m.length:=by omega
 (repeat' first|(refine ⟨⟨i+1,by omega,afE hinv (by omega) (by omega) (by rw [Dt.ext_iff];simpa [and_assoc] using h)⟩, ?_, ?_⟩)|apply wZ;rfl|show Cn _;constructor|exact rfl|apply KR.mk;kernel_rfl|show (_:PV)=_;(first|rw [atS (i:=i) (by omega) (by omega) (λe=>by simp [e] at h)];done|rw [avM hinv (by omega) (by omega)]);done|apply wI;rfl|apply gE;omega|omega|simp only [zql];omega|(intro h;simp at h))
theorem anS (a b:Cl) (hl:(a.parts.length:Nat)<4611686018427387904):PF Tryz.prog 94 [.agg a.cells, .agg b.cells] (vb (decide (a=b))):=by
 have h:=T.equal_spec a.parts b.parts hl
 have e:decide (a=b)=((decide (a.kind=b.kind)&&decide (a.val=b.val))&&decide (a.parts=b.parts)):=by rw [Bool.eq_iff_iff];simp [Cl.ext_iff,and_assoc]
 rw [e,<-Vl.eqb]
 generalize decide (a.parts=b.parts)=D at*
 refine pF Tryz.func94 rfl (λst=> ?_)
 (repeat' first|apply wZ;rfl|show Cn _;constructor|exact rfl|(apply h)|apply wY;rfl)
theorem aCI (l m:List Cl) (hl:l.length<4611686018427387904) (hp:∀c∈l,c.parts.length<4611686018427387904):PF Tryz.prog 93 [.seq (l.map Cl.cells), .seq (m.map Cl.cells), .fn 94 []] (vb (decide (l=m))):=by
 refine pF Tryz.func93 rfl (λst=> ?_)
 (repeat' first|apply wZ;rfl|show Cn _;constructor|exact rfl|show (_:PV)=_;(rw [decide_eq_false (λe:l=m=>by subst e;simp at*)]);done|(intro h;simp at h))
 refine aC (X:={x:Nat//x<=l.length/\l.take x=m.take x}) (λi=>((((((St.nil 32 st).pv 1 (.seq (m.map Cl.cells))).pv 2 (.fn 94 [])).pv 15 (.seq (l.map Cl.cells))).pv 16 ((vi ((((l.map Cl.cells)).length:Nat))))).pv 17 ((vi ((i.1:Nat)))))) (λi=>l.length-i.1) ⟨0,by omega,rfl⟩ ?_ (λi=> ?_)
 ·(repeat' first|show Cn _;constructor|exact rfl)
 obtain ⟨i,hi,hinv⟩:=i
 dsimp only
 have hlm:l.length=m.length:=by omega
 by_cases hend:l.length<=i
 ·have e:=avM hinv hend (by omega)
  (repeat' first|apply wZ;rfl|show Cn _;constructor|exact rfl|show (_:PV)=_;(rw [e]);done|simp only [zql];omega|(intro h;simp at h))
 have h1:i<l.length:=by omega
 have h2:i<m.length:=by omega
 have hc:=anS l[i] m[i] (hp _ (zgm h1))
 by_cases hx:l[i]=m[i]
 ·have hn:=afE hinv h1 h2 hx
  rw [decide_eq_true hx] at hc
  (repeat' first|(refine ⟨⟨i+1,by omega,hn⟩, ?_, ?_⟩)|apply wZ;rfl|show Cn _;constructor|exact rfl|(apply hc)|apply wY;rfl|apply wI;rfl|apply gE;omega|omega|simp only [zql];omega|(intro h;simp at h))
 ·have e:=atS h1 h2 hx
  rw [decide_eq_false hx] at hc
  (repeat' first|apply wZ;rfl|show Cn _;constructor|exact rfl|(apply hc)|show (_:PV)=_;(rw [e]);done|apply wY;rfl|apply wI;rfl|apply gE;omega|simp only [zql];omega|(intro h;simp at h))
theorem atH (a b:Ln) (h1:a.by_.length<4611686018427387904) (hb:a.cells_.length<4611686018427387904) (hp:∀c∈a.cells_,c.parts.length<4611686018427387904):PF Tryz.prog 62 [.agg a.cells, .agg b.cells] (vb (decide (a=b))):=by
 have h:=amH a.by_ b.by_ h1
 have h':=aCI a.cells_ b.cells_ hb hp
 have e:decide (a=b)=((decide (a.key=b.key)&&decide (a.by_=b.by_))&&decide (a.cells_=b.cells_)):=by
  rw [Bool.eq_iff_iff]
  simp only [zba,zde,Ln.ext_iff]
  exact ⟨λ⟨a,b,c⟩=>⟨⟨a,c⟩,b⟩,λ⟨⟨a,c⟩,b⟩=>⟨a,b,c⟩⟩
 rw [e]
 generalize decide (a.by_=b.by_)=D at*
 generalize decide (a.cells_=b.cells_)=C at*
 refine pF Tryz.func62 rfl (λst=> ?_)
 (repeat' first|apply wZ;rfl|show Cn _;constructor|exact rfl|((first|apply h|apply h'))|apply wY;rfl)
def p4C (p:P4):List PV:=[(vi (p.1)),(vi (p.2.1)),(vi (p.2.2.1)),(vi (p.2.2.2))]
theorem aFC :Tryz.prog.bytesOf 93=32:=by kernel_rfl
theorem aEJ :Tryz.prog.cellsOf 93=4:=by kernel_rfl
def p4L (p:P4):List Int:=[p.1,p.2.1,p.2.2.1,p.2.2.2]
def aCp (a b:P4):Int:=T.cmpL (p4L a) (p4L b)
theorem anD (a b:P4):aCp a b<0↔jN a b=true:=by
 unfold aCp p4L jN
 rw [zde]
 simp only [T.cmpL,T.cmpI_eq]
 by_cases h1:a.1=b.1
 ·rw [zp h1]
  by_cases h2:a.2.1=b.2.1
  ·rw [zp h2]
   by_cases h3:a.2.2.1=b.2.2.1
   ·rw [zp h3]
    by_cases h4:a.2.2.2=b.2.2.2
    ·rw [zp h4];omega
    ·rw [zn h4,T.cmpI_lt];omega
   ·rw [zn h3,T.cmpI_lt];omega
  ·rw [zn h2,T.cmpI_lt];omega
 ·rw [zn h1,T.cmpI_lt];omega
theorem nJ (a b:P4):PF Tryz.prog 30 [.agg (p4C a), .agg (p4C b)] (vi (aCp a b)):=by
 have h:=T.compare_spec (p4L a) (p4L b) (show 4<4611686018427387904 from by omega)
 refine pF Tryz.func30 rfl (λst=> ?_)
 (repeat' first|apply awA 2;rfl;rfl;rfl|apply awA 3;rfl;rfl;rfl|apply wZ;rfl|show Cn _;constructor|exact rfl|apply KR.mk;kernel_rfl|(apply h)|apply slA pk (rows:=(p4L a).map I1);(iterate 7 rfl);rotate_left;rfl;rfl|apply slA pk (rows:=(p4L b).map I1);(iterate 7 rfl);rotate_left;rfl;rfl|apply wY;rfl)
theorem aAP (l:List P4) {st:aD} {id n:Nat} (hst:st id=some (.arr 93 (l.map p4C))) (hn:l.length=n) (h62:n<4611686018427387904):
  PC Tryz.prog 29 [.vec id 4 0 n, .fn 30 []] st λ_ S=>∃r:List P4,S=upd st id (some (.arr 93 (r.map p4C)))/\r.Perm l/\r.Pairwise λx y=>jN y x=false:=by
 have hz:∀x y:P4,ltOf aCp x y=jN x y:=λx y=>by
  unfold ltOf
  rw [Bool.eq_iff_iff,zde,anD]
 have:=amI (P:=Tryz.prog) aJc (by kernel_rfl) (k:=4) Tryz.isAgg93 Tryz.sizeOf93 (enc:=λx:P4=>[.int .i64 x.1, .int .i64 x.2.1, .int .i64 x.2.2.1, .int .i64 x.2.2.2]) (λ_=>rfl) (λx v hv=>by simp only [zmc,List.not_mem_nil,or_false] at hv;rcases hv with rfl|rfl|rfl|rfl<;>rfl) (cmp:=aCp)
  ⟨λx=>by rw [hz,jN,decide_eq_false_iff_not];omega,λx y z h1 h2=>by rw [hz,jN,zde] at*;omega,λx y z h1 h2=>by rw [hz,jN,decide_eq_false_iff_not] at*;omega⟩ (gf:=30) (by kernel_rfl) (λx y=>nJ x y) (st:=st) (id:=id) (n:=n) (d:=l) (e:=93) (by kernel_rfl) hst hn h62
 refine ⟨this.1,λw g vs h1 h2=>(this.2 w g vs h1 h2).mono ?_⟩
 rintro e w' ⟨v,q,S,g',h3,⟨r,hS,hp,hw⟩,h4⟩
 exact ⟨v,q,S,g',h3,⟨r,hS,hp,hw.imp fun {a b} h=>by cases e:jN b a with|false=>rfl|true=>exact absurd ((anD b a).2 e) h⟩,h4⟩
end
end Go.Proofs.YtfablfldonhkiaaGreatDoor
