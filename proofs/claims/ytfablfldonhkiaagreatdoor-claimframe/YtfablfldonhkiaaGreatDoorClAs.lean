import Derived.Test.YtfablfldonhkiaaGreatDoorClAr
import Derived.Test.YtfablfldonhkiaaGreatDoorClAk
import Derived.Test.YtfablfldonhkiaaGreatDoorAbsJ
set_option linter.unusedSimpArgs false
set_option linter.unusedVariables false
namespace Go.Proofs.YtfablfldonhkiaaGreatDoor
open Go Go.Abs
section
attribute [local irreducible] Ev PWp
set_option maxRecDepth 10000
set_option maxHeartbeats 4000000
theorem abX {n:Nat} {w:Wr} {s:Sc} {b:Bs} {o:Ot} (i:DoB n w s b o) (a:∀t∈s,t.cols.length<10000000000) (hb:aV T.rightP s b=true):PF Tryz.prog 32 [.agg w.cells, .agg (scC s), .agg (bsC b), .agg o.cells] (nG (bD w s b o)):=by
 have f:=amJ s o (by have:=i.len;omega) (λt ht=>by have:=a t ht;omega) λt ht=>ahC t o.row (by have:=a t ht;omega) (by have:=i.few.1;omega);by_cases d:eO s o≠0
 ·have e:bD w s b o=([],eO s o):=by unfold bD;rw [zp d]
  rw [e];generalize eO s o=R at*;refine pF Tryz.func32 rfl (λst=> ?_)
  (repeat' first|exact Cn.any ⟨_,_,_,rfl,oV _,zsr _,rfl,rfl⟩|apply wZ;rfl|show Cn _;constructor|(apply f)|apply wY;rfl|omega|intro h)
 have d:=zdn d;rw [aEI d];rw [d] at f;have g:=aI2 i hb d;generalize atH w s b o=R at*;unfold nG at g;by_cases c:R.2≠0
 ·rw [zp c]
  refine pF Tryz.func32 rfl (λst=> ?_)
  (repeat' first|exact Cn.any ⟨_,_,_,rfl,oV _,zsr _,rfl,rfl⟩|apply wZ;rfl|show Cn _;constructor|((first|apply f|apply g))|apply wY;rfl|omega|intro h)
 ·rw [zn c]
  have c:=zdn c;obtain ⟨B,e⟩:=R;dsimp only at c g;subst c;refine pF Tryz.func32 rfl (λst=> ?_)
  (repeat' first|apply wZ;rfl|show Cn _;constructor|exact rfl|((first|apply f|apply g))|apply wY;rfl)
theorem azF (w:Wr) (hk:w.knew.length<1000000000000):PF Tryz.prog 68 [.agg w.cells] (vb (pW w)):=by
 have a:=dX w.who.time 1 1125899906842624;have b:=dX w.who.dev 1 64;have c:=dX w.who.seq 1 1048576;have h4:=akS w.knew hk;unfold pW;generalize T.withinB w.who.time 1 1125899906842624=A at*;generalize T.withinB w.who.dev 1 64=B at*;generalize T.withinB w.who.seq 1 1048576=C at*;generalize aCG w.knew=D at*;refine pF Tryz.func68 rfl (λst=> ?_)
 (repeat' first|apply wZ;rfl|show Cn _;constructor|exact rfl|((first|apply a|apply b|apply c|apply h4))|apply wY;rfl)
theorem zJ {n:Nat} {s:Sc} {b:Bs} (a:CkB n s b) (w:Wr) (hk:w.knew.length<1000000000000):PF Tryz.prog 31 [.agg w.cells, .agg (scC s), .agg (bsC b)] (vb (rightW w s b)):=by
 have c:=a.right;have d:=fB a.bs a.hn a.sb a.len;have e:=azF w hk;unfold rightW mayC;generalize rightC s=R at*;generalize aV T.rightP s b=B at*;generalize pW w=M at*;refine pF Tryz.func31 rfl (λst=> ?_)
 (repeat' first|apply wZ;rfl|show Cn _;constructor|exact rfl|((first|apply c|apply d|apply e))|apply wY;rfl)
structure ScK (s:Sc):Prop where
 sb:ScB s
 len:s.length<=20
 col:∀t∈s,t.cols.length<10000000000
 chk:∀t∈s,vE t
theorem ScK.ck {s:Sc} (h:ScK s) {n:Nat} {b:Bs} (hb:BsS n b) (hn:n<=1000):CkB n s b:=⟨h.sb,h.len,h.col,h.chk,hb,hn⟩
theorem aEq {n:Nat} {w:Wr} {s:Sc} {b:Bs} {o:Ot} (f:ScK s) (c:DoB n w s b o):PF Tryz.prog 27 [.agg (scC s), .agg (bsC b), .agg o.cells, .agg w.who.cells, .seq (w.knew.map I1)] (nG (doP w s b o)):=by
 have a:=zJ (f.ck c.S (by omega)) w c.kn;unfold doP;cases d:rightW w s b with
 |false=>
  rw [d] at a;rw [zn (by simp)];refine pF Tryz.func27 rfl (λst=> ?_)
  (repeat' first|exact Cn.any ⟨_,_,_,rfl,oV _,zsr _,rfl,rfl⟩|apply wZ;rfl|show Cn _;constructor|(apply a)|apply wY;rfl)
 |true=>
  rw [d] at a;rw [zp rfl];have e:=abX c f.col (eK.1 d).2.1;generalize bD w s b o=R at*;unfold nG at e;refine pF Tryz.func27 rfl (λst=> ?_)
  (repeat' first|apply wZ;rfl|show Cn _;constructor|exact rfl|((first|apply a|apply e))|apply wY;rfl)
theorem nP {n:Nat} {w:Wr} {s:Sc} {b:Bs} {l:List Ot} (d:ScK s) (t:OpW n b) (hn:n+l.length<=20) (hk:w.knew.length<1000000000000) (hf:∀o∈l,mC o):PF Tryz.prog 9 [.agg (scC s), .agg (bsC b), .seq (l.map Ot.cells), .agg w.who.cells, .seq (w.knew.map I1)] (nG (fP w s b l)):=by
 have j:=zJ (d.ck (t.S (by omega)) (by omega)) w hk;unfold fP;cases p:rightW w s b with
 |false=>
  rw [p] at j;rw [zp rfl];refine pF Tryz.func9 rfl (λst=> ?_)
  (repeat' first|exact Cn.any ⟨_,_,_,rfl,oV _,zsr _,rfl,rfl⟩|apply wZ;rfl|show Cn _;constructor|(apply j)|apply wY;rfl)
 |true=>
 rw [p] at j;rw [zn (by simp),zn (by omega)];obtain ⟨_,hb,hm⟩:=eK.1 p;have q:=λi (hi:i<=l.length) (h0:(aR w s b (l.take i)).2=0)=>mP hm (l:=l.take i) hb t (λo ho=>hf o (List.mem_of_mem_take ho)) h0;refine pF Tryz.func9 rfl (λst=> ?_)
 focus ((repeat' first|apply wZ;rfl|show Cn _;constructor|(apply j)|apply wY;rfl|simp only [zql];omega|(intro h;simp at h)))
 refine aC (X:={x:Nat//x<=l.length/\(aR w s b (l.take x)).2=0}) (λi=>((((((((St.nil 61 st).var 5 24 ((scC s))).var 6 27 (bsC (aR w s b (l.take i.1)).1)).var 10 27 ([.val (.slice none 0 0)])).var 12 97 (w.cells)).pv 33 (.seq (l.map Ot.cells))).pv 34 ((vi ((((l.map Ot.cells)).length:Nat))))).pv 35 ((vi ((i.1:Nat)))))) (λi=>l.length-i.1) ⟨0,by omega,rfl⟩ ?_ (λi=> ?_)
 ·(repeat' first|show Cn _;constructor|exact rfl)
 obtain ⟨i,hi,h0⟩:=i;dsimp only;obtain ⟨v,k⟩:=q i hi h0;rw [zlt,Nat.min_eq_left hi] at k;by_cases f:l.length<=i
 ·have e:l.take i=l:=ztl f
  rw [e] at h0 v k⊢;rw [zn (by simp [h0])];have hy:=anI (d.ck (k.S (by omega)) (by omega));generalize (aR w s b l).1=B at*;generalize whyC s B=Y at*;by_cases u:Y≠0
  ·rw [zp u]
   (repeat' first|exact Cn.any ⟨_,_,_,rfl,oV _,zsr _,rfl,rfl⟩|apply wZ;rfl|show Cn _;constructor|(apply hy)|apply wY;rfl|omega|simp only [zql];omega|(intro h;simp at h)|intro h)
  ·rw [zn u]
   (repeat' first|apply wZ;rfl|show Cn _;constructor|exact rfl|(apply hy)|apply wY;rfl|omega|simp only [zql];omega|(intro h;simp at h)|intro h)
 have g:i<l.length:=by omega
 have c:=awZ g h0;have r:=λh=>aoC (i:=i+1) (l:=l) (w:=w) (s:=s) (b:=b) h;have m:=abX (w:=w) (o:=l[i]) (n:=n+i) ⟨d.sb,d.len,k,by omega,hk,hf _ (zgm g)⟩ d.col v;generalize (aR w s b (l.take i)).1=B at*;generalize bD w s B l[i]=R at*;unfold nG at m;by_cases a:R.2≠0
 ·rw [zp a] at c
  have e:=r (by rw [c];exact a);rw [e,c,zp a]
  (repeat' first|exact Cn.any ⟨_,_,_,rfl,oV _,zsr _,rfl,rfl⟩|apply wZ;rfl|show Cn _;constructor|exact rfl|(apply m)|apply wY;rfl|apply wI;rfl|apply gE;omega|omega|simp only [zql];omega|(intro h;simp at h)|intro h)
 ·rw [zn a] at c
  have a:=zdn a
  (repeat' first|refine ⟨⟨i+1,by omega,by rw [c]⟩, ?_, ?_⟩;((dsimp only;rw [c]))|apply wZ;rfl|show Cn _;constructor|exact rfl|(apply m)|apply wY;rfl|apply wI;rfl|apply gE;omega|omega|simp only [zql];omega|(intro h;simp at h)|intro h)
def oU (v:Vl):Bool:=decide (v.s.size<=40)
def gO (o:Ot):Bool:=decide (o.row.length<=20/\o.val.s.size<=40)&&o.row.all oU
theorem xR {o:Ot}:gO o=true↔mC o:=by
 unfold gO mC oU;rw [zba,zde,zal,and_assoc];simp
theorem apU (o:Ot) (hl:o.row.length<200000000000000):PF Tryz.prog 55 [.agg o.cells] (vb (gO o)):=by
 unfold gO;by_cases h:o.row.length<=20/\o.val.s.size<=40
 ·rw [decide_eq_true h,Bool.true_and]
  have g:∀j (hj:j<o.row.length),oU o.row[j]=false->o.row.all oU=false:=λj hj q=>by
   rw [<-Bool.not_eq_true,zal]
   intro z
   rw [z _ (zgm hj)] at q;cases q
  have b:(∀j (hj:j<o.row.length),oU o.row[j]=true)->o.row.all oU=true:=λq=>by
   rw [zal]
   intro v hv
   obtain ⟨j,hj,rfl⟩:=zgo hv
   exact q j hj
  generalize o.row.all oU=A at*;refine pF Tryz.func55 rfl (λst=> ?_)
  focus ((repeat' first|apply wZ;rfl|show Cn _;constructor|intro h;simp at h;omega|(intro h;simp at h)))
  refine aC (X:={x:Nat//x<=o.row.length/\∀j (hj:j<o.row.length),j<x->oU o.row[j]=true}) (λi=>(((St.nil 30 st).var 1 82 (o.cells)).pv 3 ((vi ((i.1:Nat)))))) (λi=>o.row.length-i.1) ⟨0,by omega,by omega⟩ ?_ (λi=> ?_)
  ·(repeat' first|show Cn _;constructor|exact rfl)
  obtain ⟨i,hi,k⟩:=i;dsimp only;by_cases l:o.row.length<=i
  ·have e:=b λj hj=>k j hj (by omega)
   (repeat' first|apply wZ;rfl|show Cn _;constructor|exact rfl|show (_:PV)=_;(rw [e]);done|simp only [zql];omega|(intro h;simp at h))
  have d:i<o.row.length:=by omega
  by_cases a:o.row[i].s.size<=40
  ·have c:∀j (hj:j<o.row.length),j<i+1->oU o.row[j]=true:=λj hj f=>by
    rcases zls.1 f with q|q
    ·exact k j hj q
    ·subst q;exact decide_eq_true a
   (repeat' first|(refine ⟨⟨i+1,by omega,c⟩, ?_, ?_⟩)|apply wZ;rfl|show Cn _;constructor|exact rfl|apply wI;rfl|apply gE;omega|omega|simp only [zql];omega|(intro h;simp at h))
  ·have e:=g i d (decide_eq_false a)
   (repeat' first|apply wZ;rfl|show Cn _;constructor|exact rfl|show (_:PV)=_;(rw [e]);done|apply wI;rfl|apply gE;omega|omega|simp only [zql];omega|(intro h;simp at h))
 ·rw [decide_eq_false h,Bool.false_and]
  refine pF Tryz.func55 rfl (λst=> ?_)
  (repeat' first|apply wZ;rfl|show Cn _;constructor|exact rfl|intro h;simp at h;omega|(intro h;simp at h))
theorem akU (l:List Ot) (m:Int) (hl:l.length<200000000000000) (g:∀o∈l,o.row.length<200000000000000):PF Tryz.prog 23 [.seq (l.map Ot.cells),(vi (m))] (vb (decide ((l.length:Int)<=m)&&l.all gO)):=by
 by_cases hm:(l.length:Int)<=m
 ·rw [decide_eq_true hm,Bool.true_and]
  have b:∀j (hj:j<l.length),gO l[j]=false->l.all gO=false:=λj hj q=>by
   rw [<-Bool.not_eq_true,zal]
   intro z
   rw [z _ (zgm hj)] at q;cases q
  have d:(∀j (hj:j<l.length),gO l[j]=true)->l.all gO=true:=λq=>by
   rw [zal]
   intro v hv
   obtain ⟨j,hj,rfl⟩:=zgo hv
   exact q j hj
  generalize l.all gO=A at*;refine pF Tryz.func23 rfl (λst=> ?_)
  focus ((repeat' first|apply wZ;rfl|show Cn _;constructor|simp only [zql];omega|(intro h;simp at h)))
  refine aC (X:={x:Nat//x<=l.length/\∀j (hj:j<l.length),j<x->gO l[j]=true}) (λi=>(((St.nil 24 st).pv 0 (.seq (l.map Ot.cells))).pv 5 ((vi ((i.1:Nat)))))) (λi=>l.length-i.1) ⟨0,by omega,by omega⟩ ?_ (λi=> ?_)
  ·(repeat' first|show Cn _;constructor|exact rfl)
  obtain ⟨i,hi,k⟩:=i;dsimp only;by_cases n:l.length<=i
  ·have e:=d λj hj=>k j hj (by omega)
   (repeat' first|apply wZ;rfl|show Cn _;constructor|exact rfl|show (_:PV)=_;(rw [e]);done|simp only [zql];omega|(intro h;simp at h))
  have c:i<l.length:=by omega
  have hf:=apU l[i] (g _ (zgm c));have b:=b i c;have a:gO l[i]=true->∀j (hj:j<l.length),j<i+1->gO l[j]=true:=λq j hj f=>by
   rcases zls.1 f with z|z
   ·exact k j hj z
   ·subst z;exact q
  generalize gO l[i]=F at*;cases F with
  |true=>
   have a:=a rfl
   (repeat' first|(refine ⟨⟨i+1,by omega,a⟩, ?_, ?_⟩)|apply wZ;rfl|show Cn _;constructor|exact rfl|(apply hf)|apply wY;rfl|apply wI;rfl|apply gE;omega|omega|simp only [zql];omega|(intro h;simp at h))
  |false=>
   have e:=b rfl
   (repeat' first|apply wZ;rfl|show Cn _;constructor|exact rfl|(apply hf)|show (_:PV)=_;(rw [e]);done|apply wY;rfl|apply wI;rfl|apply gE;omega|simp only [zql];omega|(intro h;simp at h))
 ·rw [decide_eq_false hm,Bool.false_and]
  refine pF Tryz.func23 rfl (λst=> ?_)
  (repeat' first|apply wZ;rfl|show Cn _;constructor|exact rfl|simp only [zql];omega|(intro h;simp at h))
theorem ScK.of {s:Sc} {b:Bs} (h:fewC s b=true) (c:ScB s) (d:∀t∈s,vE t):ScK s/\OpW 0 b:=by
 have a:=CkB.of h c d;refine ⟨⟨a.sb,a.len,a.col,a.chk⟩,aJZ ?_⟩;unfold fewC at h;simp only [zba] at h
 first|exact h.1.2|exact h.2.1|exact h.1.1|exact h.2|exact h.1
end
section
set_option maxRecDepth 10000
set_option maxHeartbeats 4000000
abbrev P4 :=Int×Int×Int×Int
def wQ (p:P4) (M:List P4):List P4:=if p∈M then M else M++[p]
def aeP (was is:Ln) (col k t c:Int) (M:List P4):List P4:=match ptP is col with
 |none=>M
 |some n=>if ptP was col=some n then M else wQ (k,t,c,n) M
def auR (was is:Ln) (l:List Fr) (M:List P4):List P4:=l.foldl (λM f=>aeP was is f.col 1 f.table 0 M) M
def aAN (was is:Ln) (k:Int) (l:List Int) (M:List P4):List P4:=l.foldl (λM u=>aeP was is u 2 k u M) M
def nC (t:Tb) (k:Int) (was is:Ln) (key:Int) (M:List P4):List P4:=aAN was is k t.unique (auR was is t.foreign (wQ (1,k,0,key) M))
def wJ (t:Tb) (k:Int) (N L:List Ln) (M:List P4):List P4:=L.foldl (λM l=>match aY N l.key with
 |none=>nC t k l Ln.zero l.key M
 |some x=>if l=x then M else nC t k l x l.key M) M
def adZ (t:Tb) (k:Int) (O L:List Ln) (M:List P4):List P4:=L.foldl (λM l=>if (aY O l.key).isSome=true then M else nC t k Ln.zero l l.key M) M
def xP (s:Sc) (was is:Bs) (M:List P4) (k:Nat):List P4:=adZ s[k]! k (aF was k) (aF is k) (wJ s[k]! k (aF is k) (aF was k) M)
def nF (s:Sc) (was is:Bs) (M:List P4):List P4:=(List.range s.length).foldl (xP s was is) M
def iA (w:Wr) (s:Sc):Bs->List Ot->List P4->List P4
 |_,[],M=>M
 |b,o::r,M=>iA w s (bD w s b o).1 r (nF s b (bD w s b o).1 M)
def yW (t:Tb) (k:Int) (was is:Ln) (key:Int) (x:P4):Prop:=x=(1,k,0,key)\/(∃f∈t.foreign,∃n,ptP is f.col=some n/\ptP was f.col≠some n/\x=(1,f.table,0,n))\/∃u∈t.unique,∃n,ptP is u=some n/\ptP was u≠some n/\x=(2,k,u,n)
def mQ (s:Sc) (was is:Bs) (x:P4):Prop:=∃k<s.length,∃key,aY (aF was (k:Nat)) key≠aY (aF is (k:Nat)) key/\yW s[k]! k ((aY (aF was (k:Nat)) key).getD Ln.zero) ((aY (aF is (k:Nat)) key).getD Ln.zero) key x
def wN (w:Wr) (s:Sc):Bs->List Ot->P4->Prop
 |_,[],_=>False
 |b,o::r,x=>mQ s b (bD w s b o).1 x\/wN w s (bD w s b o).1 r x
theorem awX {p x:P4} {M:List P4}:x∈wQ p M↔x∈M\/x=p:=by
 unfold wQ;split
 ·rename_i h
  exact ⟨.inl,λq=>q.elim id λe=>e▸h⟩
 ·simp
theorem aDg {p:P4} {M:List P4} (h:M.Nodup):(wQ p M).Nodup:=by
 unfold wQ;split
 ·exact h
 ·rename_i hn
  exact List.nodup_append.2 ⟨h,by simp,λa ha b hb=>by
   simp only [zms] at hb
   subst hb;exact λe=>hn (e▸ha)⟩
theorem nB {α:Type} {F:List P4->α->List P4} {Q:α->P4->Prop} {x:P4}:∀(l:List α) (M:List P4),(∀a∈l,∀M,x∈F M a↔x∈M\/Q a x)->(x∈l.foldl F M↔x∈M\/∃a∈l,Q a x)
 |[],M,_=>by simp
 |a::l,M,h=>by
  rw [List.foldl_cons,nB l (F M a) (λc hc=>h c (List.mem_cons_of_mem _ hc)),h a List.mem_cons_self]
  constructor
  ·rintro ((q|q)|⟨c,hc,q⟩)
   ·exact .inl q
   ·exact .inr ⟨a,List.mem_cons_self,q⟩
   ·exact .inr ⟨c,List.mem_cons_of_mem _ hc,q⟩
  ·rintro (q|⟨c,hc,q⟩)
   ·exact .inl (.inl q)
   ·rcases zmc.1 hc with rfl|hc
    ·exact .inl (.inr q)
    ·exact .inr ⟨c,hc,q⟩
theorem sB {α:Type} {F:List P4->α->List P4}:∀(l:List α) (M:List P4),(∀a∈l,∀M:List P4,M.Nodup->(F M a).Nodup)->M.Nodup->(l.foldl F M).Nodup
 |[],_,_,h=>h
 |a::l,M,hF,h=>by
  rw [List.foldl_cons]
  exact sB l _ (λc hc=>hF c (List.mem_cons_of_mem _ hc)) (hF a List.mem_cons_self _ h)
theorem ayJ {was is:Ln} {col k t c:Int} {M:List P4} {x:P4}:x∈aeP was is col k t c M↔x∈M\/∃n,ptP is col=some n/\ptP was col≠some n/\x=(k,t,c,n):=by
 unfold aeP;cases h:ptP is col with
 |none=>simp
 |some n=>
  dsimp only;split
  ·rename_i e
   constructor
   ·exact .inl
   ·rintro (q|⟨m,a,b,_⟩)
    ·exact q
    ·obtain rfl:=Option.some.inj a
     exact absurd e b
  ·rename_i e
   rw [awX];constructor
   ·rintro (q|q)
    ·exact .inl q
    ·exact .inr ⟨n,rfl,e,q⟩
   ·rintro (q|⟨m,a,_,q⟩)
    ·exact .inl q
    ·obtain rfl:=Option.some.inj a
     exact .inr q
theorem aCD {was is:Ln} {col k t c:Int} {M:List P4} (h:M.Nodup):(aeP was is col k t c M).Nodup:=by
 unfold aeP;split
 ·exact h
 ·split
  ·exact h
  ·exact aDg h
theorem adD {t:Tb} {k key:Int} {was is:Ln} {M:List P4} {x:P4}:x∈nC t k was is key M↔x∈M\/yW t k was is key x:=by
 unfold nC aAN auR yW;rw [nB (Q:=λu x=>∃n,ptP is u=some n/\ptP was u≠some n/\x=(2,k,u,n)) _ _ (λu _ M=>ayJ),nB (Q:=λ(f:Fr) x=>∃n,ptP is f.col=some n/\ptP was f.col≠some n/\x=(1,f.table,0,n)) _ _ (λf _ M=>ayJ),awX];simp only [or_assoc]
theorem ajX {t:Tb} {k key:Int} {was is:Ln} {M:List P4} (h:M.Nodup):(nC t k was is key M).Nodup:=
 sB _ _ (λ_ _ _ q=>aCD q) (sB _ _ (λ_ _ _ q=>aCD q) (aDg h))
theorem aFU {t:Tb} {k:Int} {N L:List Ln} {M:List P4} {x:P4}:x∈wJ t k N L M↔x∈M\/∃l∈L,some l≠aY N l.key/\yW t k l ((aY N l.key).getD Ln.zero) l.key x:=by
 unfold wJ;refine nB (Q:=λ(l:Ln) x=>some l≠aY N l.key/\yW t k l ((aY N l.key).getD Ln.zero) l.key x) _ _ λl _ M=> ?_;cases h:aY N l.key with
 |none=>
  dsimp only;rw [adD];simp
 |some y=>
  dsimp only;split
  ·rename_i e;simp [e]
  ·rename_i e
   rw [adD];simp [e]
theorem aId {t:Tb} {k:Int} {N L:List Ln} {M:List P4} (h:M.Nodup):(wJ t k N L M).Nodup:=
 sB _ _ (λl _ M q=>by
  cases aY N l.key with
  |none=>exact ajX q
  |some y=>
   dsimp only;split
   ·exact q
   ·exact ajX q) h
theorem aF1 {t:Tb} {k:Int} {O L:List Ln} {M:List P4} {x:P4}:x∈adZ t k O L M↔x∈M\/∃l∈L,aY O l.key=none/\yW t k Ln.zero l l.key x:=by
 unfold adZ;refine nB (Q:=λ(l:Ln) x=>aY O l.key=none/\yW t k Ln.zero l l.key x) _ _ λl _ M=> ?_;cases h:aY O l.key with
 |none=>rw [zn (by simp),adD];simp
 |some y=>simp
theorem aH5 {t:Tb} {k:Int} {O L:List Ln} {M:List P4} (h:M.Nodup):(adZ t k O L M).Nodup:=
 sB _ _ (λl _ M q=>by
  split
  ·exact q
  ·exact ajX q) h
theorem aHD {s:Sc} {was is:Bs} {M:List P4} (h:M.Nodup):(nF s was is M).Nodup:=sB _ _ (λ_ _ _ q=>aH5 (aId q)) h
theorem aD6 {s:Sc} {was is:Bs} (c:∀k:Int,KSort (aF was k)) (d:∀k:Int,KSort (aF is k)) {M:List P4} {x:P4}:x∈nF s was is M↔x∈M\/mQ s was is x:=by
 unfold nF mQ;rw [nB (Q:=λ(k:Nat) x=>∃key,aY (aF was (k:Nat)) key≠aY (aF is (k:Nat)) key/\yW s[k]! k ((aY (aF was (k:Nat)) key).getD Ln.zero) ((aY (aF is (k:Nat)) key).getD Ln.zero) key x) _ _ λk _ M=> ?_]
 ·simp only [List.mem_range]
 unfold xP;rw [aF1,aFU,or_assoc];refine or_congr Iff.rfl ?_;constructor
 ·rintro (⟨l,hl,a,q⟩|⟨l,hl,a,q⟩)
  ·have e:aY (aF was k) l.key=some l:=(eG (c k)).2 ⟨hl,rfl⟩
   exact ⟨l.key,by rw [e];exact a,by rw [e];exact q⟩
  ·have e:aY (aF is k) l.key=some l:=(eG (d k)).2 ⟨hl,rfl⟩
   exact ⟨l.key,by rw [e,a];simp,by rw [e,a];exact q⟩
 ·rintro ⟨key,a,q⟩
  cases e:aY (aF was k) key with
  |some l=>
   obtain ⟨m1,rfl⟩:=(eG (c k)).1 e;exact .inl ⟨l,m1,by rw [<-e];exact a,by rw [e] at q;exact q⟩
  |none=>
   cases b:aY (aF is k) key with
   |none=>rw [e,b] at a;exact absurd rfl a
   |some l=>
    obtain ⟨m1,rfl⟩:=(eG (d k)).1 b;exact .inr ⟨l,m1,e,by rw [e,b] at q;exact q⟩
theorem aiX {w:Wr} {s:Sc}:∀{l:List Ot} {b:Bs} {M:List P4},M.Nodup->(iA w s b l M).Nodup
 |[],_,_,h=>h
 |o::r,b,M,h=>by
  show (iA w s (bD w s b o).1 r (nF s b (bD w s b o).1 M)).Nodup
  exact aiX (aHD h)
theorem lZ {w:Wr} {s:Sc} {b:Bs} {o:Ot} {r:List Ot} (h:(aR w s b (o::r)).2=0):(bD w s b o).2=0/\aR w s b (o::r)=aR w s (bD w s b o).1 r:=by
 rw [kQ] at h⊢;by_cases e:(bD w s b o).2≠0
 ·rw [zp e] at h;exact absurd h e
 ·rw [zn e];exact ⟨zdn e,rfl⟩
theorem rW {w:Wr} {s:Sc} {b:Bs} {o:Ot} {k:Nat} (hw:pW w=true) (hb:aV T.rightP s b=true) (a:OpW k b) (hf:mC o) (h:(bD w s b o).2=0):aV T.rightP s (bD w s b o).1=true/\OpW (k+1) (bD w s b o).1:=by
 have e:aR w s b [o]=((bD w s b o).1,0):=by rw [kQ,zn (by simp [h])];rfl
 have:=mP hw (l:=[o]) hb a (by simpa using hf) (by rw [e]);rw [e] at this;exact this
theorem wA {w:Wr} {s:Sc} (hw:pW w=true) {x:P4}:∀{l:List Ot} {b:Bs} {k:Nat} {M:List P4},aV T.rightP s b=true->OpW k b->(∀o∈l,mC o)->(aR w s b l).2=0->(x∈iA w s b l M↔x∈M\/wN w s b l x)
 |[],b,k,M,_,_,_,_=>by simp [iA,wN]
 |o::r,b,k,M,hb,hW,hf,h=>by
  obtain ⟨h0,e⟩:=lZ h
  obtain ⟨b1,b2⟩:=rW hw hb hW (hf o List.mem_cons_self) h0
  unfold iA wN
  rw [wA hw b1 b2 (λp hp=>hf p (List.mem_cons_of_mem _ hp)) (e▸h),aD6 (dR hb) (dR b1),or_assoc]
theorem amI {w:Wr} {s:Sc} {k:Nat} (hk:k<s.length) {key:Int}:∀{l:List Ot} {b:Bs},(aR w s b l).2=0->¬wN w s b l (1,(k:Int),0,key)->aY (aF (aR w s b l).1 (k:Int)) key=aY (aF b (k:Int)) key
 |[],b,_,_=>rfl
 |o::r,b,h,hn=>by
  obtain ⟨h0,e⟩:=lZ h
  unfold wN at hn
  rw [e,amI hk (e▸h) λq=>hn (.inr q)]
  refine Classical.byContradiction λa=>hn (.inl ⟨k,hk,key,λq=>a q.symm, .inl rfl⟩)
theorem aGE (u:Int):ptP Ln.zero u=none:=by
 unfold ptP;rw [zn];show ¬(0<=u/\u<((0:Nat):Int));omega
def akY (s:Sc) (k:Nat) (u:Int):Prop:=0<=u/\u<s[k]!.cols.length/\s[k]!.cols[u.toNat]!.kind=0
theorem aFa {s:Sc} (h:cE s=0) {k:Nat} (hk:k<s.length) {f:Fr} (hf:f∈s[k]!.foreign):akY s k f.col:=by
 rw [getElem!_pos s k hk] at hf;have q:=axQ h hk hf;unfold akY;rw [getElem!_pos s k hk];exact ⟨by have:=q.c1;omega,q.c2,q.kind⟩
theorem aB2 {s:Sc} (h:cE s=0) {k:Nat} (hk:k<s.length) {u:Int} (hu:u∈s[k]!.unique):akY s k u:=by
 rw [getElem!_pos s k hk] at hu;have q:=aHI h hk hu;unfold akY;rw [getElem!_pos s k hk];exact ⟨by have:=q.c1;omega,q.c2,q.kc⟩
theorem vD {s:Sc} {b:Bs} (hb:aV T.rightP s b=true) {k:Nat} (hk:k<s.length) {l:Ln} (hl:l∈aF b (k:Int)):LineOK T.rightP s[k]! l:=by
 obtain ⟨⟨_,c⟩,_⟩:=aI.1 hb;have a:k<b.length:=by omega
 rw [dV a] at hl;exact sG hb a hl
theorem qQ {s:Sc} {b:Bs} (hb:aV T.rightP s b=true) {k:Nat} (hk:k<s.length) {u:Int} (hu:akY s k u) {l:Ln} (hl:l∈aF b (k:Int)):fS l u:=λj hj e=>by
 have hL:=vD hb hk hl
 rw [hL.kind j hj]
 have:=hu.2.2
 rwa [show u.toNat=j by omega] at this
theorem aqD (u:Int):fS Ln.zero u:=λj hj _=>by simp [Ln.zero] at hj
theorem aEe {s:Sc} {b:Bs} (hb:aV T.rightP s b=true) {k:Nat} (hk:k<s.length) {u:Int} (hu:akY s k u) {l:Ln} (hl:l∈aF b (k:Int)) {n:Int} (hp:ptP l u=some n): -1099511627776<=n/\n<=1099511627776:=by
 have hL:=vD hb hk hl;have a:=hL.len;obtain ⟨d,e,c⟩:=hu;have hj:u.toNat<l.cells_.length:=by omega
 unfold ptP at hp;rw [zp (by omega),getElem!_pos l.cells_ _ hj] at hp;split at hp
 ·obtain rfl:=Option.some.inj hp
  have hc:=hL.cell _ (zgm hj);unfold jM at hc;rw [zp (by rw [hL.kind _ hj];exact c),zba] at hc;exact (avF hc.1).1
 ·cases hp
def ajI (x:P4):Prop:= -1099511627776<=x.2.2.2/\x.2.2.2<=1099511627776
theorem asL {s:Sc} {was is:Bs} (j:aV T.rightP s was=true) (d:aV T.rightP s is=true) {x:P4} (h:mQ s was is x):ajI x:=by
 obtain ⟨k,hk,key,a,h⟩:=h;have c:=(aI.1 d).1.1;have b:∀u n,akY s k u->ptP ((aY (aF is (k:Int)) key).getD Ln.zero) u=some n-> -1099511627776<=n/\n<=1099511627776:=λu n hu hp=>by
  cases e:aY (aF is (k:Int)) key with
  |none=>rw [e] at hp;rw [show ((none:Option Ln).getD Ln.zero)=Ln.zero from rfl,aGE] at hp;cases hp
  |some l=>rw [e] at hp;exact aEe d hk hu (vU e) hp
 rcases h with rfl|⟨f,hf,n,g,_,rfl⟩|⟨u,hu,n,g,_,rfl⟩
 ·unfold ajI
  dsimp only;cases e:aY (aF was (k:Int)) key with
  |some l=>
   obtain ⟨m1,m⟩:=(eG (dR j k)).1 e;have hL:=vD j hk m1;have:=hL.k1;have:=hL.k2;omega
  |none=>
   cases i:aY (aF is (k:Int)) key with
   |none=>rw [e,i] at a;exact absurd rfl a
   |some l=>
    obtain ⟨m1,m⟩:=(eG (dR d k)).1 i;have hL:=vD d hk m1;have:=hL.k1;have:=hL.k2;omega
 ·exact b _ _ (aFa c hk hf) g
 ·exact b _ _ (aB2 c hk hu) g
theorem agE {w:Wr} {s:Sc} (hw:pW w=true) {x:P4}:∀{l:List Ot} {b:Bs} {k:Nat},aV T.rightP s b=true->OpW k b->(∀o∈l,mC o)->(aR w s b l).2=0->wN w s b l x->ajI x
 |[],_,_,_,_,_,_,h=>h.elim
 |o::r,b,k,hb,hW,hf,h,hx=>by
  obtain ⟨h0,e⟩:=lZ h
  obtain ⟨b1,b2⟩:=rW hw hb hW (hf o List.mem_cons_self) h0
  rcases hx with q|q
  ·exact asL hb b1 q
  ·exact agE hw b1 b2 (λp hp=>hf p (List.mem_cons_of_mem _ hp)) (e▸h) q
theorem ayP {was is:Ln} {col k t c:Int} {M:List P4}:(aeP was is col k t c M).length<=M.length+1:=by
 unfold aeP wQ;split
 ·omega
 ·split
  ·omega
  ·split
   ·omega
   ·simp
theorem nW {α:Type} {F:List P4->α->List P4} {n:Nat}:∀(l:List α) (M:List P4),(∀a∈l,∀M,(F M a).length<=M.length+n)->(l.foldl F M).length<=M.length+n*l.length
 |[],M,_=>by simp
 |a::l,M,h=>by
  have b:=nW l (F M a) λc hc=>h c (List.mem_cons_of_mem _ hc)
  have d:=h a List.mem_cons_self M
  rw [List.foldl_cons,zlc,Nat.mul_add]
  omega
theorem adW {t:Tb} {k key:Int} {was is:Ln} {M:List P4}:(nC t k was is key M).length<=M.length+(1+t.foreign.length+t.unique.length):=by
 unfold nC aAN auR;refine Nat.le_trans (nW (n:=1) _ _ λ_ _ _=>ayP) ?_;have a:=nW (n:=1) t.foreign (wQ (1,k,0,key) M) (F:=λM f=>aeP was is f.col 1 f.table 0 M) λ_ _ _=>ayP;have b:(wQ (1,k,0,key) M).length<=M.length+1:=by
  unfold wQ;split
  ·omega
  ·simp
 omega
theorem aFW {t:Tb} {k:Int} {N L:List Ln} {M:List P4}:(wJ t k N L M).length<=M.length+(1+t.foreign.length+t.unique.length)*L.length:=
 nW _ _ λl _ M=>by
  cases aY N l.key with
  |none=>exact adW
  |some y=>
   dsimp only;split
   ·omega
   ·exact adW
theorem aFn {t:Tb} {k:Int} {O L:List Ln} {M:List P4}:(adZ t k O L M).length<=M.length+(1+t.foreign.length+t.unique.length)*L.length:=
 nW _ _ λl _ M=>by
  split
  ·omega
  ·exact adW
def aHu (s:Sc):Prop:=s.length<=20/\∀k<s.length,s[k]!.foreign.length+s[k]!.unique.length<=400
theorem aGn {s:Sc} {was is:Bs} (hs:aHu s) (a:∀k:Int,(aF was k).length<=200) (b:∀k:Int,(aF is k).length<=200) {k:Nat} (hk:k<s.length) {M:List P4}:(xP s was is M k).length<=M.length+160400:=by
 unfold xP;have e:=aFn (t:=s[k]!) (k:=k) (O:=aF was k) (L:=aF is k) (M:=wJ s[k]! k (aF is k) (aF was k) M);have f:=aFW (t:=s[k]!) (k:=k) (N:=aF is k) (L:=aF was k) (M:=M);have g:=hs.2 k hk;have c:(1+s[k]!.foreign.length+s[k]!.unique.length)*(aF was k).length<=401*200:=Nat.mul_le_mul (by omega) (a k);have d:(1+s[k]!.foreign.length+s[k]!.unique.length)*(aF is k).length<=401*200:=Nat.mul_le_mul (by omega) (b k);omega
theorem aAy {s:Sc} {was is:Bs} (hs:aHu s) (b:∀k:Int,(aF was k).length<=200) (c:∀k:Int,(aF is k).length<=200) {M:List P4}:(nF s was is M).length<=M.length+3208000:=by
 unfold nF;have:=nW (F:=xP s was is) (n:=160400) (List.range s.length) M λk hk M=>aGn hs b c (List.mem_range.1 hk);rw [List.length_range] at this;have a:=hs.1;have:160400*s.length<=160400*20:=Nat.mul_le_mul (Nat.le_refl _) a;omega
theorem aiQ {w:Wr} {s:Sc} (hs:aHu s):∀{l:List Ot} {b:Bs} {k:Nat} {M:List P4},OpW k b->k+l.length<=20->(∀o∈l,mC o)->(iA w s b l M).length<=M.length+3208000*l.length
 |[],_,_,_,_,_,_=>by simp [iA]
 |o::r,b,k,M,hW,hk,hf=>by
  rw [zlc] at hk
  have a:=aEH (w:=w) (s:=s) hW (hf o List.mem_cons_self)
  unfold iA
  have c:=aAy hs (was:=b) (is:=(bD w s b o).1) (M:=M) (λk=>by have:=(iD hW k).1;omega) (λk=>by have:=(iD a k).1;omega)
  have d:=aiQ hs (w:=w) (l:=r) (M:=nF s b (bD w s b o).1 M) a (by omega) λp hp=>hf p (List.mem_cons_of_mem _ hp)
  rw [zlc]
  omega
end
section
set_option maxRecDepth 10000
set_option maxHeartbeats 4000000
section
variable {α:Type} (lt:α->α->Bool)
def atQ (x:α):List α->List α
 |[]=>[x]
 |a::l=>if lt a x=true then a::atQ x l else x::a::l
def uG (l:List α):List α:=l.foldr (atQ lt) []
theorem yJ (x:α):∀l:List α,(atQ lt x l).Perm (x::l)
 |[]=> .refl _
 |a::l=>by
  unfold atQ
  split
  ·exact ((yJ x l).cons a).trans (List.Perm.swap x a l)
  ·exact .refl _
theorem dC :∀l:List α,(uG lt l).Perm l
 |[]=> .refl _
 |a::l=>(yJ lt a (uG lt l)).trans ((dC l).cons a)
structure OrdX :Prop where
 asy:∀{a b},lt a b=true->lt b a=false
 neg:∀{a b c},lt a b=false->lt c a=false->lt c b=false
 eq:∀{a b},lt a b=false->lt b a=false->a=b
variable {lt}
theorem awV (h:OrdX lt) (x:α):∀{l:List α},l.Pairwise (λa b=>lt b a=false)->(atQ lt x l).Pairwise λa b=>lt b a=false
 |[],_=>by simp [atQ]
 |a::l,hp=>by
  obtain ⟨c,d⟩:=List.pairwise_cons.1 hp
  unfold atQ
  split
  ·rename_i e
   refine List.pairwise_cons.2 ⟨λb hb=> ?_,awV h x d⟩;rcases zmc.1 ((yJ lt x l).mem_iff.1 hb) with rfl|hb
   ·exact h.asy e
   ·exact c b hb
  ·rename_i e
   have e:lt a x=false:=by simpa using e
   refine List.pairwise_cons.2 ⟨λb hb=> ?_,hp⟩;rcases zmc.1 hb with rfl|hb
   ·exact e
   ·exact h.neg e (c b hb)
theorem rX (h:OrdX lt):∀l:List α,(uG lt l).Pairwise λa b=>lt b a=false
 |[]=>List.Pairwise.nil
 |a::l=>awV h a (rX h l)
theorem kO (h:OrdX lt) {l:List α} (hn:l.Nodup) (hp:l.Pairwise λa b=>lt b a=false):l.Pairwise λa b=>lt a b=true:=by
 unfold List.Nodup at hn;refine (hn.and hp).imp fun {a b} q=> ?_;cases e:lt a b with
 |true=>rfl
 |false=>exact absurd (h.eq e q.2) q.1
theorem xA (h:OrdX lt) {l m:List α} (hl:l.Pairwise λa b=>lt a b=true) (hm:m.Pairwise λa b=>lt a b=true) (hx:∀x,x∈l↔x∈m):l=m:=
 akX (r:=λa b=>lt a b=true) (fun {a b c} h1 h2=>by
  cases e:lt a c with
  |true=>rfl
  |false=>have:=h.neg (h.asy h2) e;rw [h1] at this;cases this) (fun {a} q=>by have:=h.asy q;rw [q] at this;cases this) hl hm hx
theorem azC (h:OrdX lt) {M R:List α} (hn:M.Nodup) (hp:R.Perm M) (hw:R.Pairwise λa b=>lt b a=false):R=uG lt M:=
 xA h (kO h (hp.nodup_iff.2 hn) hw) (kO h ((dC lt M).nodup_iff.2 hn) (rX h M)) λx=>hp.mem_iff.trans (dC lt M).mem_iff.symm
end
def gL (a b:P4):Bool:=decide (a.1<b.1\/a.1=b.1/\(a.2.1<b.2.1\/a.2.1=b.2.1/\(a.2.2.1<b.2.2.1\/a.2.2.1=b.2.2.1/\a.2.2.2<b.2.2.2)))
theorem nR :OrdX gL where
 asy {a b} h:=by simp only [gL,zde,decide_eq_false_iff_not] at*;omega
 neg {a b c} h1 h2:=by simp only [gL,decide_eq_false_iff_not] at*;omega
 eq {a b} h1 h2:=by
  simp only [gL,decide_eq_false_iff_not] at*;exact Prod.ext (by omega) (Prod.ext (by omega) (Prod.ext (by omega) (by omega)))
def ltI (a b:Int):Bool:=decide (a<b)
theorem rT :OrdX ltI where
 asy {a b} h:=by simp only [ltI,zde,decide_eq_false_iff_not] at*;omega
 neg {a b c} h1 h2:=by simp only [ltI,decide_eq_false_iff_not] at*;omega
 eq {a b} h1 h2:=by simp only [ltI,decide_eq_false_iff_not] at*;omega
def afI :List Int->List Int
 |[]=>[]
 |a::l=>if a∈afI l then afI l else a::afI l
theorem vH {x:Int}:∀{l:List Int},x∈afI l↔x∈l
 |[]=>Iff.rfl
 |a::l=>by
  unfold afI
  have b:=vH (x:=x) (l:=l)
  split
  ·rename_i h
   rw [b,zmc];exact ⟨.inr,λq=>q.elim (λe=>e▸vH.1 h) id⟩
  ·rw [zmc,zmc,b]
theorem abB :∀l:List Int,(afI l).Nodup
 |[]=>List.nodup_nil
 |a::l=>by
  unfold afI
  split
  ·exact abB l
  ·rename_i h
   exact List.nodup_cons.2 ⟨h,abB l⟩
def iL (l:List Int):List Int:=uG ltI (afI l)
theorem atA {l r:List Int} (hp:r.Pairwise (· < ·)) (hx:∀x,x∈r↔x∈l):r=iL l:=
 xA rT (hp.imp fun {a b} h=>decide_eq_true h) (kO rT ((dC ltI _).nodup_iff.2 (abB l)) (rX rT _)) λx=>by
  rw [hx];unfold iL;rw [(dC ltI _).mem_iff,vH]
theorem agN {l:List Int} {x:Int}:x∈iL l↔x∈l:=by unfold iL;rw [(dC ltI _).mem_iff,vH]
theorem aiF (l:List Int):(iL l).length<=l.length:=by
 unfold iL;rw [(dC ltI _).length_eq]
 induction l with
 |nil=>simp [afI]
 |cons a l ih=>
  unfold afI;split
  ·simp;omega
  ·simp;omega
def iJ (b:Bs) (k:Nat) (m:Su):List Int:=(aF b (k:Int)).filterMap λl=>ptP l m.by_
abbrev S4 :=Int×Int×Int×Int
noncomputable def moreS (s:Sc) (was is:Bs) (k i:Nat) (g:Int):Option S4:=if totC s is k i g-totC s was k i g≠0 then some (k,i,g,totC s is k i g-totC s was k i g) else none
noncomputable def sumI (s:Sc) (was is:Bs) (k i:Nat):List S4:=(iL (iJ was k s[k]!.sums[i]!++iJ is k s[k]!.sums[i]!)).filterMap (moreS s was is k i)
noncomputable def sumK (s:Sc) (was is:Bs) (k:Nat):List S4:=(List.range s[k]!.sums.length).flatMap (sumI s was is k)
noncomputable def sumsP (s:Sc) (was is:Bs):List S4:=if aV T.rightP s was=true/\aV T.rightP s is=true then (List.range s.length).flatMap (sumK s was is) else []
structure Rg where
 kind:Int
 table:Int
 col:Int
 lo:Int
 hi:Int
 amt:Int
def Rg.cells (r:Rg):List PV:=[(vi (r.kind)),(vi (r.table)),(vi (r.col)),(vi (r.lo)),(vi (r.hi)),(vi (r.amt))]
def rgP (p:P4):Rg:=⟨p.1,p.2.1,p.2.2.1,p.2.2.2,p.2.2.2+1,0⟩
def rgS (x:S4):Rg:=⟨3,x.1,x.2.1,x.2.2.1,0,x.2.2.2⟩
noncomputable def ofP (w:Wr) (s:Sc) (b:Bs) (l:List Ot):List Rg×Int:=if l.length=0 then ([],0) else if (fP w s b l).2≠0 then ([],(fP w s b l).2) else ((uG gL (iA w s b l [])).map rgP++((sumsP s b (fP w s b l).1).filter λx=>decide (x.2.2.2>0)).map rgS,0)
def qY (l:List Rg) (kind table col n:Int):Bool:=l.any λr=>decide (r.kind=kind/\r.table=table/\r.col=col/\r.lo<=n/\n<r.hi)
theorem aFj {w:Wr} {s:Sc} {b:Bs} {l:List Ot} (hl:l.length≠0) (h:(fP w s b l).2=0) {k t c n:Int} (hk:k≠3):qY (ofP w s b l).1 k t c n=decide ((k,t,c,n)∈iA w s b l []):=by
 unfold ofP qY;rw [zn hl,zn (by simp [h]),List.any_append];have f:(List.map rgS ((sumsP s b (fP w s b l).1).filter λx=>decide (x.2.2.2>0))).any (λr=>decide (r.kind=k/\r.table=t/\r.col=c/\r.lo<=n/\n<r.hi))=false:=by
  rw [List.any_eq_false];intro r a;obtain ⟨x,_,rfl⟩:=List.mem_map.1 a;intro q;exact hk (of_decide_eq_true q).1.symm
 rw [f,Bool.or_false,Bool.eq_iff_iff,List.any_eq_true,zde];constructor
 ·rintro ⟨r,a,q⟩
  obtain ⟨p,hp,rfl⟩:=List.mem_map.1 a;rw [(dC gL _).mem_iff] at hp;obtain ⟨g,i,j,d,e⟩:=of_decide_eq_true q;have d:p.2.2.2<=n:=d;have e:n<p.2.2.2+1:=e;have:p=(k,t,c,n):=Prod.ext g (Prod.ext i (Prod.ext j (by show p.2.2.2=n;omega)));exact this▸hp
 ·intro h
  refine ⟨rgP (k,t,c,n),List.mem_map_of_mem ((dC gL _).mem_iff.2 h), ?_⟩;exact decide_eq_true ⟨rfl,rfl,rfl,Int.le_refl _,by show n<n+1;omega⟩
end
section
attribute [local irreducible] Ev PWp
set_option maxRecDepth 10000
set_option maxHeartbeats 4000000
theorem ahM {α:Type} {l m:List α} {i:Nat} (h:l.take i=m.take i) (a:i<l.length) (b:i<m.length) (e:l[i]=m[i]):l.take (i+1)=m.take (i+1):=by
 rw [List.take_succ_eq_append_getElem a,List.take_succ_eq_append_getElem b,h,e]
theorem avX {α:Type} [DecidableEq α] {l m:List α} {i:Nat} (a:i<l.length) (b:i<m.length) (e:l[i]≠m[i]):decide (l=m)=false:=decide_eq_false λh=>by subst h;exact e rfl
theorem axM {α:Type} [DecidableEq α] {l m:List α} {i:Nat} (h:l.take i=m.take i) (a:l.length<=i) (b:m.length<=i):decide (l=m)=true:=by
 rw [ztl a,ztl b] at h;exact decide_eq_true h
theorem apF (l m:List Dt) (hl:l.length<4611686018427387904):PF Tryz.prog 92 [.seq (l.map Dt.cells), .seq (m.map Dt.cells)] (vb (decide (l=m))):=by
 refine pF Tryz.func92 rfl (λst=> ?_)
 (repeat' first|apply wZ;rfl|show Cn _;constructor|exact rfl|show (_:PV)=_;(rw [decide_eq_false (λe:l=m=>by subst e;simp at*)]);done|(intro h;simp at h))
 refine aC (X:={x:Nat//x<=l.length/\l.take x=m.take x}) (λi=>(((((St.nil 26 st).pv 0 (.seq (l.map Dt.cells))).pv 1 (.seq (m.map Dt.cells))).pv 12 ((vi ((((l.map Dt.cells)).length:Nat))))).pv 13 ((vi ((i.1:Nat)))))) (λi=>l.length-i.1) ⟨0,by omega,rfl⟩ ?_ (λi=> ?_)
 ·(repeat' first|show Cn _;constructor|exact rfl)
 obtain ⟨i,hi,a⟩:=i;dsimp only;have b:l.length=m.length:=by omega
 (repeat' first|(refine ⟨⟨i+1,by omega,ahM a (by omega) (by omega) (by rw [Dt.ext_iff];simpa [and_assoc] using h)⟩, ?_, ?_⟩)|apply wZ;rfl|show Cn _;constructor|exact rfl|apply KR.mk;kernel_rfl|show (_:PV)=_;(first|rw [avX (i:=i) (by omega) (by omega) (λe=>by simp [e] at h)];done|rw [axM a (by omega) (by omega)]);done|apply wI;rfl|apply gE;omega|omega|simp only [zql];omega|(intro h;simp at h))
theorem aqX (a b:Cl) (hl:(a.parts.length:Nat)<4611686018427387904):PF Tryz.prog 94 [.agg a.cells, .agg b.cells] (vb (decide (a=b))):=by
 have h:=T.equal_spec a.parts b.parts hl;have e:decide (a=b)=((decide (a.kind=b.kind)&&decide (a.val=b.val))&&decide (a.parts=b.parts)):=by rw [Bool.eq_iff_iff];simp [Cl.ext_iff,and_assoc]
 rw [e,<-Vl.eqb];generalize decide (a.parts=b.parts)=D at*;refine pF Tryz.func94 rfl (λst=> ?_)
 (repeat' first|apply wZ;rfl|show Cn _;constructor|exact rfl|(apply h)|apply wY;rfl)
theorem aDM (l m:List Cl) (hl:l.length<4611686018427387904) (hp:∀c∈l,c.parts.length<4611686018427387904):PF Tryz.prog 93 [.seq (l.map Cl.cells), .seq (m.map Cl.cells), .fn 94 []] (vb (decide (l=m))):=by
 refine pF Tryz.func93 rfl (λst=> ?_)
 (repeat' first|apply wZ;rfl|show Cn _;constructor|exact rfl|show (_:PV)=_;(rw [decide_eq_false (λe:l=m=>by subst e;simp at*)]);done|(intro h;simp at h))
 refine aC (X:={x:Nat//x<=l.length/\l.take x=m.take x}) (λi=>((((((St.nil 32 st).pv 1 (.seq (m.map Cl.cells))).pv 2 (.fn 94 [])).pv 15 (.seq (l.map Cl.cells))).pv 16 ((vi ((((l.map Cl.cells)).length:Nat))))).pv 17 ((vi ((i.1:Nat)))))) (λi=>l.length-i.1) ⟨0,by omega,rfl⟩ ?_ (λi=> ?_)
 ·(repeat' first|show Cn _;constructor|exact rfl)
 obtain ⟨i,hi,a⟩:=i;dsimp only;have g:l.length=m.length:=by omega
 by_cases b:l.length<=i
 ·have e:=axM a b (by omega)
  (repeat' first|apply wZ;rfl|show Cn _;constructor|exact rfl|show (_:PV)=_;(rw [e]);done|simp only [zql];omega|(intro h;simp at h))
 have d:i<l.length:=by omega
 have f:i<m.length:=by omega
 have hc:=aqX l[i] m[i] (hp _ (zgm d));by_cases hx:l[i]=m[i]
 ·have hn:=ahM a d f hx
  rw [decide_eq_true hx] at hc
  (repeat' first|(refine ⟨⟨i+1,by omega,hn⟩, ?_, ?_⟩)|apply wZ;rfl|show Cn _;constructor|exact rfl|(apply hc)|apply wY;rfl|apply wI;rfl|apply gE;omega|omega|simp only [zql];omega|(intro h;simp at h))
 ·have e:=avX d f hx
  rw [decide_eq_false hx] at hc
  (repeat' first|apply wZ;rfl|show Cn _;constructor|exact rfl|(apply hc)|show (_:PV)=_;(rw [e]);done|apply wY;rfl|apply wI;rfl|apply gE;omega|simp only [zql];omega|(intro h;simp at h))
theorem avN (a b:Ln) (f:a.by_.length<4611686018427387904) (hb:a.cells_.length<4611686018427387904) (hp:∀c∈a.cells_,c.parts.length<4611686018427387904):PF Tryz.prog 62 [.agg a.cells, .agg b.cells] (vb (decide (a=b))):=by
 have h:=apF a.by_ b.by_ f;have d:=aDM a.cells_ b.cells_ hb hp;have e:decide (a=b)=((decide (a.key=b.key)&&decide (a.by_=b.by_))&&decide (a.cells_=b.cells_)):=by
  rw [Bool.eq_iff_iff];simp only [zba,zde,Ln.ext_iff];exact ⟨λ⟨a,b,c⟩=>⟨⟨a,c⟩,b⟩,λ⟨⟨a,c⟩,b⟩=>⟨a,b,c⟩⟩
 rw [e];generalize decide (a.by_=b.by_)=D at*;generalize decide (a.cells_=b.cells_)=C at*;refine pF Tryz.func62 rfl (λst=> ?_)
 (repeat' first|apply wZ;rfl|show Cn _;constructor|exact rfl|((first|apply h|apply d))|apply wY;rfl)
def p4C (p:P4):List PV:=[(vi (p.1)),(vi (p.2.1)),(vi (p.2.2.1)),(vi (p.2.2.2))]
theorem aGP :Tryz.prog.bytesOf 93=32:=by kernel_rfl
theorem aFO :Tryz.prog.cellsOf 93=4:=by kernel_rfl
def p4L (p:P4):List Int:=[p.1,p.2.1,p.2.2.1,p.2.2.2]
def aDy (a b:P4):Int:=T.cmpL (p4L a) (p4L b)
theorem aqF (a b:P4):aDy a b<0↔gL a b=true:=by
 unfold aDy p4L gL;rw [zde];simp only [T.cmpL,T.cmpI_eq];by_cases c:a.1=b.1
 ·rw [zp c]
  by_cases d:a.2.1=b.2.1
  ·rw [zp d]
   by_cases e:a.2.2.1=b.2.2.1
   ·rw [zp e]
    by_cases h4:a.2.2.2=b.2.2.2
    ·rw [zp h4];omega
    ·rw [zn h4,T.cmpI_lt];omega
   ·rw [zn e,T.cmpI_lt];omega
  ·rw [zn d,T.cmpI_lt];omega
 ·rw [zn c,T.cmpI_lt];omega
theorem oJ (a b:P4):PF Tryz.prog 30 [.agg (p4C a), .agg (p4C b)] (vi (aDy a b)):=by
 have h:=T.compare_spec (p4L a) (p4L b) (show 4<4611686018427387904 from by omega);refine pF Tryz.func30 rfl (λst=> ?_)
 (repeat' first|apply ayC 2;rfl;rfl;rfl|apply ayC 3;rfl;rfl;rfl|apply wZ;rfl|show Cn _;constructor|exact rfl|apply KR.mk;kernel_rfl|(apply h)|apply slA pk (rows:=(p4L a).map I1);(iterate 7 rfl);rotate_left;rfl;rfl|apply slA pk (rows:=(p4L b).map I1);(iterate 7 rfl);rotate_left;rfl;rfl|apply wY;rfl)
theorem aBV (l:List P4) {st:aD} {id n:Nat} (j:st id=some (.arr 93 (l.map p4C))) (hn:l.length=n) (i:n<4611686018427387904):
  PC Tryz.prog 29 [.vec id 4 0 n, .fn 30 []] st λ_ S=>∃r:List P4,S=upd st id (some (.arr 93 (r.map p4C)))/\r.Perm l/\r.Pairwise λx y=>gL y x=false:=by
 have hz:∀x y:P4,ltOf aDy x y=gL x y:=λx y=>by
  unfold ltOf
  rw [Bool.eq_iff_iff,zde,aqF]
 have:=apH (P:=Tryz.prog) aLe (by kernel_rfl) (k:=4) Tryz.isAgg93 Tryz.sizeOf93 (enc:=λx:P4=>[.int .i64 x.1, .int .i64 x.2.1, .int .i64 x.2.2.1, .int .i64 x.2.2.2]) (λ_=>rfl) (λx v hv=>by simp only [zmc,List.not_mem_nil,or_false] at hv;rcases hv with rfl|rfl|rfl|rfl<;>rfl) (cmp:=aDy)
  ⟨λx=>by rw [hz,gL,decide_eq_false_iff_not];omega,λx y z c f=>by rw [hz,gL,zde] at*;omega,λx y z c f=>by rw [hz,gL,decide_eq_false_iff_not] at*;omega⟩ (gf:=30) (by kernel_rfl) (λx y=>oJ x y) (st:=st) (id:=id) (n:=n) (d:=l) (e:=93) (by kernel_rfl) j hn i
 refine ⟨this.1,λw g vs c f=>(this.2 w g vs c f).mono ?_⟩
 rintro e w' ⟨v,q,S,g',h3,⟨r,hS,hp,hw⟩,h4⟩
 exact ⟨v,q,S,g',h3,⟨r,hS,hp,hw.imp fun {a b} h=>by cases e:gL b a with|false=>rfl|true=>exact absurd ((aqF b a).2 e) h⟩,h4⟩
end
end Go.Proofs.YtfablfldonhkiaaGreatDoor
