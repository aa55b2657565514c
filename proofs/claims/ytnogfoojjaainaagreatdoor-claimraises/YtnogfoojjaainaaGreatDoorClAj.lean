import Derived.Test.YtnogfoojjaainaaGreatDoorClAi
import Derived.Test.YtnogfoojjaainaaGreatDoorClAf
import Derived.Test.YtnogfoojjaainaaGreatDoorAbsJ
import Derived.Test.YtnogfoojjaainaaGreatDoorClAg
import Derived.Test.YtnogfoojjaainaaGreatDoorClAe
set_option linter.unusedSimpArgs false
set_option linter.unusedVariables false
namespace Go.Proofs.YtnogfoojjaainaaGreatDoor
open Go Go.Abs
section
attribute [local irreducible] Ev PWp
set_option maxRecDepth 10000
set_option maxHeartbeats 4000000
theorem acL{n:Nat}{w:Wr}{s:Sc}{b:Bs}{o:Ot}(i:DoB n w s b o)(a:∀t∈s,t.cols.length<10000000000)(hb:bC T.rightP s b=true):PF Tryz.prog 33 [.agg w.cells, .agg (scC s), .agg (bsC b), .agg o.cells] (oS (bX w s b o)):=by
 have f:=anL s o (by have:=i.len;omega) (λt ht=>by have:=a t ht;omega) λt ht=>aiE t o.row (by have:=a t ht;omega) (by have:=i.few.1;omega);by_cases d:gS s o≠0
 ·have e:bX w s b o=([],gS s o):=by unfold bX;rw[zp d]
  rw[e];generalize gS s o=R at*;refine pF Tryz.func33 rfl λst=>?_
  repeat' first|exact Cn.any ⟨_,_,_,rfl,oY _,zsr _,rfl,rfl⟩|apply wZ;rfl|show Cn _;constructor|apply f|apply wY;rfl|omega|intro h
 have d:=zdn d;rw[aE6 d];rw[d]at f;have g:=aJf i hb d;generalize auN w s b o=R at*;unfold oS at g;by_cases c:R.2≠0
 ·rw[zp c]
  refine pF Tryz.func33 rfl λst=>?_
  repeat' first|exact Cn.any ⟨_,_,_,rfl,oY _,zsr _,rfl,rfl⟩|apply wZ;rfl|show Cn _;constructor|(first|apply f|apply g)|apply wY;rfl|omega|intro h
 ·rw[zn c]
  have c:=zdn c;obtain⟨B,e⟩:=R;dsimp only at c g;subst c;refine pF Tryz.func33 rfl λst=>?_
  repeat' first|apply wZ;rfl|show Cn _;constructor|exact rfl|(first|apply f|apply g)|apply wY;rfl
theorem aAq(w:Wr)(hk:w.knew.length<1000000000000):PF Tryz.prog 61 [.agg w.cells] (vb (qK w)):=by
 have a:=dW w.who.time 1 1125899906842624;have b:=dW w.who.dev 1 64;have c:=dW w.who.seq 1 1048576;have h4:=alS w.knew hk;unfold qK;generalize T.withinB w.who.time 1 1125899906842624=A at*;generalize T.withinB w.who.dev 1 64=B at*;generalize T.withinB w.who.seq 1 1048576=C at*;generalize aDd w.knew=D at*;refine pF Tryz.func61 rfl λst=>?_
 repeat' first|apply wZ;rfl|show Cn _;constructor|exact rfl|(first|apply a|apply b|apply c|apply h4)|apply wY;rfl
theorem aaF{n:Nat}{s:Sc}{b:Bs}(a:CkB n s b)(w:Wr)(hk:w.knew.length<1000000000000):PF Tryz.prog 32 [.agg w.cells, .agg (scC s), .agg (bsC b)] (vb (rightW w s b)):=by
 have c:=a.right;have d:=fV a.bs a.hn a.sb a.len;have e:=aAq w hk;unfold rightW mayC;generalize rightC s=R at*;generalize bC T.rightP s b=B at*;generalize qK w=M at*;refine pF Tryz.func32 rfl λst=>?_
 repeat' first|apply wZ;rfl|show Cn _;constructor|exact rfl|(first|apply c|apply d|apply e)|apply wY;rfl
structure ScK (s:Sc):Prop where
 sb:ScB s
 len:s.length<=20
 col:∀t∈s,t.cols.length<10000000000
 chk:∀t∈s,tM t
theorem ScK.ck{s:Sc}(h:ScK s){n:Nat}{b:Bs}(hb:BsS n b)(hn:n<=1000):CkB n s b:=⟨h.sb,h.len,h.col,h.chk,hb,hn⟩
theorem aEN{n:Nat}{w:Wr}{s:Sc}{b:Bs}{o:Ot}(f:ScK s)(c:DoB n w s b o):PF Tryz.prog 28 [.agg (scC s), .agg (bsC b), .agg o.cells, .agg w.who.cells, .seq (w.knew.map I1)] (oS (doP w s b o)):=by
 have a:=aaF (f.ck c.S (by omega)) w c.kn;unfold doP;cases d:rightW w s b with
 |false=>
  rw[d]at a;rw[zn (by simp)];refine pF Tryz.func28 rfl λst=>?_
  (repeat' first|exact Cn.any ⟨_,_,_,rfl,oY _,zsr _,rfl,rfl⟩|apply wZ;rfl|show Cn _;constructor|apply a|apply wY;rfl)
 |true=>
  rw[d]at a;rw[zp rfl];have e:=acL c f.col (fO.1 d).2.1;generalize bX w s b o=R at*;unfold oS at e;refine pF Tryz.func28 rfl λst=>?_
  repeat' first|apply wZ;rfl|show Cn _;constructor|exact rfl|(first|apply a|apply e)|apply wY;rfl
theorem sG{n:Nat}{w:Wr}{s:Sc}{b:Bs}{l:List Ot}(d:ScK s)(t:OpW n b)(hn:n+l.length<=20)(hk:w.knew.length<1000000000000)(hf:∀o∈l,nF o):PF Tryz.prog 11 [.agg (scC s), .agg (bsC b), .seq (l.map Ot.cells), .agg w.who.cells, .seq (w.knew.map I1)] (oS (fY w s b l)):=by
 have j:=aaF (d.ck (t.S (by omega)) (by omega)) w hk;unfold fY;cases p:rightW w s b with
 |false=>
  rw[p]at j;rw[zp rfl];refine pF Tryz.func11 rfl λst=>?_
  (repeat' first|exact Cn.any ⟨_,_,_,rfl,oY _,zsr _,rfl,rfl⟩|apply wZ;rfl|show Cn _;constructor|apply j|apply wY;rfl)
 |true=>
 rw[p]at j;rw[zn (by simp),zn (by omega)];obtain⟨_,hb,hm⟩:=fO.1 p;have q:=λi (hi:i<=l.length) (h0:(bD w s b (l.take i)).2=0)=>pR hm (l:=l.take i) hb t (λo ho=>hf o (List.mem_of_mem_take ho)) h0;refine pF Tryz.func11 rfl λst=>?_
 focus(repeat' first|apply wZ;rfl|show Cn _;constructor|apply j|apply wY;rfl|simp only[zql];omega|intro h;simp at h)
 refine aC (X:={x:Nat//x<=l.length/\(bD w s b (l.take x)).2=0}) (λi=>((((((((St.nil 61 st).var 5 24 (scC s)).var 6 27 (bsC (bD w s b (l.take i.1)).1)).var 10 27 ([.val (.slice none 0 0)])).var 12 91 (w.cells)).pv 33 (.seq (l.map Ot.cells))).pv 34 (vi ((l.map Ot.cells).length:Nat))).pv 35 (vi (i.1:Nat)))) (λi=>l.length-i.1) ⟨0,by omega,rfl⟩ ?_ λi=>?_
 ·repeat' first|show Cn _;constructor|exact rfl
 obtain⟨i,hi,h0⟩:=i;dsimp only;obtain⟨v,k⟩:=q i hi h0;rw[zlt,Nat.min_eq_left hi]at k;by_cases f:l.length<=i
 ·have e:l.take i=l:=ztl f
  rw[e]at h0 v k⊢;rw[zn (by simp[h0])];have hy:=aDF (d.ck (k.S (by omega)) (by omega));generalize(bD w s b l).1=B at*;generalize whyC s B=Y at*;by_cases u:Y≠0
  ·rw[zp u]
   repeat' first|exact Cn.any ⟨_,_,_,rfl,oY _,zsr _,rfl,rfl⟩|apply wZ;rfl|show Cn _;constructor|apply hy|apply wY;rfl|omega|simp only[zql];omega|intro h;simp at h|intro h
  ·rw[zn u]
   repeat' first|apply wZ;rfl|show Cn _;constructor|exact rfl|apply hy|apply wY;rfl|omega|simp only[zql];omega|intro h;simp at h|intro h
 have g:i<l.length:=by omega
 have c:=ayF g h0;have r:=λh=>apF (i:=i+1) (l:=l) (w:=w) (s:=s) (b:=b) h;have m:=acL (w:=w) (o:=l[i]) (n:=n+i) ⟨d.sb,d.len,k,by omega,hk,hf _ (zgm g)⟩ d.col v;generalize(bD w s b (l.take i)).1=B at*;generalize bX w s B l[i]=R at*;unfold oS at m;by_cases a:R.2≠0
 ·rw[zp a]at c
  have e:=r (by rw[c];exact a);rw[e,c,zp a]
  repeat' first|exact Cn.any ⟨_,_,_,rfl,oY _,zsr _,rfl,rfl⟩|apply wZ;rfl|show Cn _;constructor|exact rfl|apply m|apply wY;rfl|apply wI;rfl|apply gE;omega|omega|simp only[zql];omega|intro h;simp at h|intro h
 ·rw[zn a]at c
  have a:=zdn a
  repeat' first|refine⟨⟨i+1,by omega,by rw[c]⟩,?_,?_⟩;(dsimp only;rw[c])|apply wZ;rfl|show Cn _;constructor|exact rfl|apply m|apply wY;rfl|apply wI;rfl|apply gE;omega|omega|simp only[zql];omega|intro h;simp at h|intro h
def oV(v:Vl):Bool:=decide (v.s.size<=40)
def gY(o:Ot):Bool:=decide (o.row.length<=20/\o.val.s.size<=40)&&o.row.all oV
theorem yF{o:Ot}:gY o=true↔nF o:=by
 unfold gY nF oV;rw[zba,zde,zal,and_assoc];simp
theorem aqY(o:Ot)(hl:o.row.length<200000000000000):PF Tryz.prog 54 [.agg o.cells] (vb (gY o)):=by
 unfold gY;by_cases h:o.row.length<=20/\o.val.s.size<=40
 ·rw[decide_eq_true h,Bool.true_and]
  have g:∀j (hj:j<o.row.length),oV o.row[j]=false->o.row.all oV=false:=λj hj q=>by
   rw[<-Bool.not_eq_true,zal]
   intro z
   rw[z _ (zgm hj)]at q;cases q
  have b:(∀j (hj:j<o.row.length),oV o.row[j]=true)->o.row.all oV=true:=λq=>by
   rw[zal]
   intro v hv
   obtain⟨j,hj,rfl⟩:=zgo hv
   exact q j hj
  generalize o.row.all oV=A at*;refine pF Tryz.func54 rfl λst=>?_
  focus(repeat' first|apply wZ;rfl|show Cn _;constructor|intro h;simp at h;omega|intro h;simp at h)
  refine aC (X:={x:Nat//x<=o.row.length/\∀j (hj:j<o.row.length),j<x->oV o.row[j]=true}) (λi=>(((St.nil 30 st).var 1 71 (o.cells)).pv 3 (vi (i.1:Nat)))) (λi=>o.row.length-i.1) ⟨0,by omega,by omega⟩ ?_ λi=>?_
  ·repeat' first|show Cn _;constructor|exact rfl
  obtain⟨i,hi,k⟩:=i;dsimp only;by_cases l:o.row.length<=i
  ·have e:=b λj hj=>k j hj (by omega)
   repeat' first|apply wZ;rfl|show Cn _;constructor|exact rfl|show(_:PV)=_;(rw[e]);done|simp only[zql];omega|intro h;simp at h
  have d:i<o.row.length:=by omega
  by_cases a:o.row[i].s.size<=40
  ·have c:∀j (hj:j<o.row.length),j<i+1->oV o.row[j]=true:=λj hj f=>by
    rcases zls.1 f with q|q
    ·exact k j hj q
    ·subst q;exact decide_eq_true a
   repeat' first|refine⟨⟨i+1,by omega,c⟩,?_,?_⟩|apply wZ;rfl|show Cn _;constructor|exact rfl|apply wI;rfl|apply gE;omega|omega|simp only[zql];omega|intro h;simp at h
  ·have e:=g i d (decide_eq_false a)
   repeat' first|apply wZ;rfl|show Cn _;constructor|exact rfl|show(_:PV)=_;(rw[e]);done|apply wI;rfl|apply gE;omega|omega|simp only[zql];omega|intro h;simp at h
 ·rw[decide_eq_false h,Bool.false_and]
  refine pF Tryz.func54 rfl λst=>?_
  repeat' first|apply wZ;rfl|show Cn _;constructor|exact rfl|intro h;simp at h;omega|intro h;simp at h
theorem alV(l:List Ot)(m:Int)(hl:l.length<200000000000000)(g:∀o∈l,o.row.length<200000000000000):PF Tryz.prog 27 [.seq (l.map Ot.cells),vi m] (vb (decide ((l.length:Int)<=m)&&l.all gY)):=by
 by_cases hm:(l.length:Int)<=m
 ·rw[decide_eq_true hm,Bool.true_and]
  have b:∀j (hj:j<l.length),gY l[j]=false->l.all gY=false:=λj hj q=>by
   rw[<-Bool.not_eq_true,zal]
   intro z
   rw[z _ (zgm hj)]at q;cases q
  have d:(∀j (hj:j<l.length),gY l[j]=true)->l.all gY=true:=λq=>by
   rw[zal]
   intro v hv
   obtain⟨j,hj,rfl⟩:=zgo hv
   exact q j hj
  generalize l.all gY=A at*;refine pF Tryz.func27 rfl λst=>?_
  focus(repeat' first|apply wZ;rfl|show Cn _;constructor|simp only[zql];omega|intro h;simp at h)
  refine aC (X:={x:Nat//x<=l.length/\∀j (hj:j<l.length),j<x->gY l[j]=true}) (λi=>(((St.nil 24 st).pv 0 (.seq (l.map Ot.cells))).pv 5 (vi (i.1:Nat)))) (λi=>l.length-i.1) ⟨0,by omega,by omega⟩ ?_ λi=>?_
  ·repeat' first|show Cn _;constructor|exact rfl
  obtain⟨i,hi,k⟩:=i;dsimp only;by_cases n:l.length<=i
  ·have e:=d λj hj=>k j hj (by omega)
   repeat' first|apply wZ;rfl|show Cn _;constructor|exact rfl|show(_:PV)=_;(rw[e]);done|simp only[zql];omega|intro h;simp at h
  have c:i<l.length:=by omega
  have hf:=aqY l[i] (g _ (zgm c));have b:=b i c;have a:gY l[i]=true->∀j (hj:j<l.length),j<i+1->gY l[j]=true:=λq j hj f=>by
   rcases zls.1 f with z|z
   ·exact k j hj z
   ·subst z;exact q
  generalize gY l[i]=F at*;cases F with
  |true=>
   have a:=a rfl
   (repeat' first|refine⟨⟨i+1,by omega,a⟩,?_,?_⟩|apply wZ;rfl|show Cn _;constructor|exact rfl|apply hf|apply wY;rfl|apply wI;rfl|apply gE;omega|omega|simp only[zql];omega|intro h;simp at h)
  |false=>
   have e:=b rfl
   repeat' first|apply wZ;rfl|show Cn _;constructor|exact rfl|apply hf|show(_:PV)=_;(rw[e]);done|apply wY;rfl|apply wI;rfl|apply gE;omega|simp only[zql];omega|intro h;simp at h
 ·rw[decide_eq_false hm,Bool.false_and]
  refine pF Tryz.func27 rfl λst=>?_
  repeat' first|apply wZ;rfl|show Cn _;constructor|exact rfl|simp only[zql];omega|intro h;simp at h
theorem ScK.of{s:Sc}{b:Bs}(h:fewC s b=true)(c:ScB s)(d:∀t∈s,tM t):ScK s/\OpW 0 b:=by
 have a:=CkB.of h c d;refine⟨⟨a.sb,a.len,a.col,a.chk⟩,aKf ?_⟩;unfold fewC at h;simp only[zba]at h
 first|exact h.1.2|exact h.2.1|exact h.1.1|exact h.2|exact h.1
end
section
set_option maxRecDepth 10000
set_option maxHeartbeats 4000000
abbrev P4 :=Int×Int×Int×Int
def xF(p:P4)(M:List P4):List P4:=if p∈M then M else M++[p]
def afP(was is:Ln)(col k t c:Int)(M:List P4):List P4:=match ptP is col with
 |none=>M
 |some n=>if ptP was col=some n then M else xF (k,t,c,n) M
def avV(was is:Ln)(l:List Fr)(M:List P4):List P4:=l.foldl (λM f=>afP was is f.col 1 f.table 0 M) M
def aBk(was is:Ln)(k:Int)(l:List Int)(M:List P4):List P4:=l.foldl (λM u=>afP was is u 2 k u M) M
def nC(t:Tb)(k:Int)(was is:Ln)(key:Int)(M:List P4):List P4:=aBk was is k t.unique (avV was is t.foreign (xF (1,k,0,key) M))
def xC(t:Tb)(k:Int)(N L:List Ln)(M:List P4):List P4:=L.foldl (λM l=>match cB N l.key with
 |none=>nC t k l Ln.zero l.key M
 |some x=>if l=x then M else nC t k l x l.key M) M
def aeW(t:Tb)(k:Int)(O L:List Ln)(M:List P4):List P4:=L.foldl (λM l=>if(cB O l.key).isSome=true then M else nC t k Ln.zero l l.key M) M
def yD(s:Sc)(was is:Bs)(M:List P4)(k:Nat):List P4:=aeW s[k]! k (aF was k) (aF is k) (xC s[k]! k (aF is k) (aF was k) M)
def nE(s:Sc)(was is:Bs)(M:List P4):List P4:=(List.range s.length).foldl (yD s was is) M
def kD(w:Wr)(s:Sc):Bs->List Ot->List P4->List P4
 |_,[],M=>M
 |b,o::r,M=>kD w s (bX w s b o).1 r (nE s b (bX w s b o).1 M)
def zS(t:Tb)(k:Int)(was is:Ln)(key:Int)(x:P4):Prop:=x=(1,k,0,key)\/(∃f∈t.foreign,∃n,ptP is f.col=some n/\ptP was f.col≠some n/\x=(1,f.table,0,n))\/∃u∈t.unique,∃n,ptP is u=some n/\ptP was u≠some n/\x=(2,k,u,n)
def aAb(s:Sc)(was is:Bs)(x:P4):Prop:=∃k<s.length,∃key,cB (aF was (k:Nat)) key≠cB (aF is (k:Nat)) key/\zS s[k]! k ((cB (aF was (k:Nat)) key).getD Ln.zero) ((cB (aF is (k:Nat)) key).getD Ln.zero) key x
def aB0(w:Wr)(s:Sc):Bs->List Ot->P4->Prop
 |_,[],_=>False
 |b,o::r,x=>aAb s b (bX w s b o).1 x\/aB0 w s (bX w s b o).1 r x
theorem ayD{p x:P4}{M:List P4}:x∈xF p M↔x∈M\/x=p:=by
 unfold xF;split
 ·rename_i h
  exact⟨.inl,λq=>q.elim id λe=>e▸h⟩
 ·simp
theorem aDE{p:P4}{M:List P4}(h:M.Nodup):(xF p M).Nodup:=by
 unfold xF;split
 ·exact h
 ·rename_i hn
  exact List.nodup_append.2 ⟨h,by simp,λa ha b hb=>by
   simp only[zms]at hb
   subst hb;exactλe=>hn (e▸ha)⟩
theorem nA{α:Type}{F:List P4->α->List P4}{Q:α->P4->Prop}{x:P4}:∀(l:List α)(M:List P4),(∀a∈l,∀M,x∈F M a↔x∈M\/Q a x)->(x∈l.foldl F M↔x∈M\/∃a∈l,Q a x)
 |[],M,_=>by simp
 |a::l,M,h=>by
  rw[List.foldl_cons,nA l (F M a) λc hc=>h c (List.mem_cons_of_mem _ hc),h a List.mem_cons_self]
  constructor
  ·rintro((q|q)|⟨c,hc,q⟩)
   ·exact .inl q
   ·exact .inr ⟨a,List.mem_cons_self,q⟩
   ·exact .inr ⟨c,List.mem_cons_of_mem _ hc,q⟩
  ·rintro(q|⟨c,hc,q⟩)
   ·exact .inl (.inl q)
   ·rcases zmc.1 hc with rfl|hc
    ·exact .inl (.inr q)
    ·exact .inr ⟨c,hc,q⟩
theorem sJ{α:Type}{F:List P4->α->List P4}:∀(l:List α)(M:List P4),(∀a∈l,∀M:List P4,M.Nodup->(F M a).Nodup)->M.Nodup->(l.foldl F M).Nodup
 |[],_,_,h=>h
 |a::l,M,hF,h=>by
  rw[List.foldl_cons]
  exact sJ l _ (λc hc=>hF c (List.mem_cons_of_mem _ hc)) (hF a List.mem_cons_self _ h)
theorem azP{was is:Ln}{col k t c:Int}{M:List P4}{x:P4}:x∈afP was is col k t c M↔x∈M\/∃n,ptP is col=some n/\ptP was col≠some n/\x=(k,t,c,n):=by
 unfold afP;cases h:ptP is col with
 |none=>simp
 |some n=>
  dsimp only;split
  ·rename_i e
   constructor
   ·exact .inl
   ·rintro(q|⟨m,a,b,_⟩)
    ·exact q
    ·obtain rfl:=Option.some.inj a
     exact absurd e b
  ·rename_i e
   rw[ayD];constructor
   ·rintro(q|q)
    ·exact .inl q
    ·exact .inr ⟨n,rfl,e,q⟩
   ·rintro(q|⟨m,a,_,q⟩)
    ·exact .inl q
    ·obtain rfl:=Option.some.inj a
     exact .inr q
theorem aDa{was is:Ln}{col k t c:Int}{M:List P4}(h:M.Nodup):(afP was is col k t c M).Nodup:=by
 unfold afP;split
 ·exact h
 ·split
  ·exact h
  ·exact aDE h
theorem adY{t:Tb}{k key:Int}{was is:Ln}{M:List P4}{x:P4}:x∈nC t k was is key M↔x∈M\/zS t k was is key x:=by
 unfold nC aBk avV zS;rw[nA (Q:=λu x=>∃n,ptP is u=some n/\ptP was u≠some n/\x=(2,k,u,n)) _ _ λu _ M=>azP,nA (Q:=λ(f:Fr) x=>∃n,ptP is f.col=some n/\ptP was f.col≠some n/\x=(1,f.table,0,n)) _ _ λf _ M=>azP,ayD];simp only[or_assoc]
theorem akY{t:Tb}{k key:Int}{was is:Ln}{M:List P4}(h:M.Nodup):(nC t k was is key M).Nodup:=
 sJ _ _ (λ_ _ _ q=>aDa q) (sJ _ _ (λ_ _ _ q=>aDa q) (aDE h))
theorem aGd{t:Tb}{k:Int}{N L:List Ln}{M:List P4}{x:P4}:x∈xC t k N L M↔x∈M\/∃l∈L,some l≠cB N l.key/\zS t k l ((cB N l.key).getD Ln.zero) l.key x:=by
 unfold xC;refine nA (Q:=λ(l:Ln) x=>some l≠cB N l.key/\zS t k l ((cB N l.key).getD Ln.zero) l.key x) _ _ λl _ M=>?_;cases h:cB N l.key with
 |none=>
  dsimp only;rw[adY];simp
 |some y=>
  dsimp only;split
  ·rename_i e;simp[e]
  ·rename_i e
   rw[adY];simp[e]
theorem aIs{t:Tb}{k:Int}{N L:List Ln}{M:List P4}(h:M.Nodup):(xC t k N L M).Nodup:=
 sJ _ _ (λl _ M q=>by
  cases cB N l.key with
  |none=>exact akY q
  |some y=>
   dsimp only;split
   ·exact q
   ·exact akY q) h
theorem aGj{t:Tb}{k:Int}{O L:List Ln}{M:List P4}{x:P4}:x∈aeW t k O L M↔x∈M\/∃l∈L,cB O l.key=none/\zS t k Ln.zero l l.key x:=by
 unfold aeW;refine nA (Q:=λ(l:Ln) x=>cB O l.key=none/\zS t k Ln.zero l l.key x) _ _ λl _ M=>?_;cases h:cB O l.key with
 |none=>rw[zn (by simp),adY];simp
 |some y=>simp
theorem aIk{t:Tb}{k:Int}{O L:List Ln}{M:List P4}(h:M.Nodup):(aeW t k O L M).Nodup:=
 sJ _ _ (λl _ M q=>by
  split
  ·exact q
  ·exact akY q) h
theorem aHN{s:Sc}{was is:Bs}{M:List P4}(h:M.Nodup):(nE s was is M).Nodup:=sJ _ _ (λ_ _ _ q=>aIk (aIs q)) h
theorem aEs{s:Sc}{was is:Bs}(c:∀k:Int,KSort (aF was k))(d:∀k:Int,KSort (aF is k)){M:List P4}{x:P4}:x∈nE s was is M↔x∈M\/aAb s was is x:=by
 unfold nE aAb;rw[nA (Q:=λ(k:Nat) x=>∃key,cB (aF was (k:Nat)) key≠cB (aF is (k:Nat)) key/\zS s[k]! k ((cB (aF was (k:Nat)) key).getD Ln.zero) ((cB (aF is (k:Nat)) key).getD Ln.zero) key x) _ _ λk _ M=>?_]
 ·simp only[List.mem_range]
 unfold yD;rw[aGj,aGd,or_assoc];refine or_congr Iff.rfl ?_;constructor
 ·rintro(⟨l,hl,a,q⟩|⟨l,hl,a,q⟩)
  ·have e:cB (aF was k) l.key=some l:=(oP (c k)).2 ⟨hl,rfl⟩
   exact⟨l.key,by rw[e];exact a,by rw[e];exact q⟩
  ·have e:cB (aF is k) l.key=some l:=(oP (d k)).2 ⟨hl,rfl⟩
   exact⟨l.key,by rw[e,a];simp,by rw[e,a];exact q⟩
 ·rintro⟨key,a,q⟩
  cases e:cB (aF was k) key with
  |some l=>
   obtain⟨m1,rfl⟩:=(oP (c k)).1 e;exact .inl ⟨l,m1,by rw[<-e];exact a,by rw[e]at q;exact q⟩
  |none=>
   cases b:cB (aF is k) key with
   |none=>rw[e,b]at a;exact absurd rfl a
   |some l=>
    obtain⟨m1,rfl⟩:=(oP (d k)).1 b;exact .inr ⟨l,m1,e,by rw[e,b]at q;exact q⟩
theorem aCX{w:Wr}{s:Sc}:∀{l:List Ot}{b:Bs}{M:List P4},M.Nodup->(kD w s b l M).Nodup
 |[],_,_,h=>h
 |o::r,b,M,h=>by
  show(kD w s (bX w s b o).1 r (nE s b (bX w s b o).1 M)).Nodup
  exact aCX (aHN h)
theorem uZ{w:Wr}{s:Sc}{b:Bs}{o:Ot}{r:List Ot}(h:(bD w s b (o::r)).2=0):(bX w s b o).2=0/\bD w s b (o::r)=bD w s (bX w s b o).1 r:=by
 rw[nK]at h⊢;by_cases e:(bX w s b o).2≠0
 ·rw[zp e]at h;exact absurd h e
 ·rw[zn e];exact⟨zdn e,rfl⟩
theorem yJ{w:Wr}{s:Sc}{b:Bs}{o:Ot}{k:Nat}(hw:qK w=true)(hb:bC T.rightP s b=true)(a:OpW k b)(hf:nF o)(h:(bX w s b o).2=0):bC T.rightP s (bX w s b o).1=true/\OpW (k+1) (bX w s b o).1:=by
 have e:bD w s b [o]=((bX w s b o).1,0):=by rw[nK,zn (by simp[h])];rfl
 have:=pR hw (l:=[o]) hb a (by simpa using hf) (by rw[e]);rw[e]at this;exact this
theorem alO{w:Wr}{s:Sc}(hw:qK w=true){x:P4}:∀{l:List Ot}{b:Bs}{k:Nat}{M:List P4},bC T.rightP s b=true->OpW k b->(∀o∈l,nF o)->(bD w s b l).2=0->(x∈kD w s b l M↔x∈M\/aB0 w s b l x)
 |[],b,k,M,_,_,_,_=>by simp[kD,aB0]
 |o::r,b,k,M,hb,hW,hf,h=>by
  obtain⟨h0,e⟩:=uZ h
  obtain⟨b1,b2⟩:=yJ hw hb hW (hf o List.mem_cons_self) h0
  unfold kD aB0
  rw[alO hw b1 b2 (λp hp=>hf p (List.mem_cons_of_mem _ hp)) (e▸h),aEs (kM hb) (kM b1),or_assoc]
theorem aGV(u:Int):ptP Ln.zero u=none:=by
 unfold ptP;rw[zn];show¬(0<=u/\u<((0:Nat):Int));omega
def avS(s:Sc)(k:Nat)(u:Int):Prop:=0<=u/\u<s[k]!.cols.length/\s[k]!.cols[u.toNat]!.kind=0
theorem aIj{s:Sc}(h:bT s=0){k:Nat}(hk:k<s.length){f:Fr}(hf:f∈s[k]!.foreign):avS s k f.col:=by
 rw[getElem!_pos s k hk]at hf;have q:=ayW h hk hf;unfold avS;rw[getElem!_pos s k hk];exact⟨by have:=q.c1;omega,q.c2,q.kind⟩
theorem aHR{s:Sc}(h:bT s=0){k:Nat}(hk:k<s.length){u:Int}(hu:u∈s[k]!.unique):avS s k u:=by
 rw[getElem!_pos s k hk]at hu;have q:=aHT h hk hu;unfold avS;rw[getElem!_pos s k hk];exact⟨by have:=q.c1;omega,q.c2,q.kc⟩
theorem abM{s:Sc}{b:Bs}(hb:bC T.rightP s b=true){k:Nat}(hk:k<s.length){l:Ln}(hl:l∈aF b (k:Int)):LineOK T.rightP s[k]! l:=by
 obtain⟨⟨_,c⟩,_⟩:=aU.1 hb;have a:k<b.length:=by omega
 rw[gJ a]at hl;exact sQ hb a hl
theorem aeC{s:Sc}{b:Bs}(hb:bC T.rightP s b=true){k:Nat}(hk:k<s.length){u:Int}(hu:avS s k u){l:Ln}(hl:l∈aF b (k:Int)):eV l u:=λj hj e=>by
 have hL:=abM hb hk hl
 rw[hL.kind j hj]
 have:=hu.2.2
 rwa[show u.toNat=j by omega]at this
theorem arE(u:Int):eV Ln.zero u:=λj hj _=>by simp[Ln.zero]at hj
theorem aEA{s:Sc}{b:Bs}(hb:bC T.rightP s b=true){k:Nat}(hk:k<s.length){u:Int}(hu:avS s k u){l:Ln}(hl:l∈aF b (k:Int)){n:Int}(hp:ptP l u=some n): -1099511627776<=n/\n<=1099511627776:=by
 have hL:=abM hb hk hl;have a:=hL.len;obtain⟨d,e,c⟩:=hu;have hj:u.toNat<l.cells_.length:=by omega
 unfold ptP at hp;rw[zp (by omega),getElem!_pos l.cells_ _ hj]at hp;split at hp
 ·obtain rfl:=Option.some.inj hp
  have hc:=hL.cell _ (zgm hj);unfold iR at hc;rw[zp (by rw[hL.kind _ hj];exact c),zba]at hc;exact(awL hc.1).1
 ·cases hp
def akH(x:P4):Prop:= -1099511627776<=x.2.2.2/\x.2.2.2<=1099511627776
theorem atM{s:Sc}{was is:Bs}(j:bC T.rightP s was=true)(d:bC T.rightP s is=true){x:P4}(h:aAb s was is x):akH x:=by
 obtain⟨k,hk,key,a,h⟩:=h;have c:=(aU.1 d).1.1;have b:∀u n,avS s k u->ptP ((cB (aF is (k:Int)) key).getD Ln.zero) u=some n-> -1099511627776<=n/\n<=1099511627776:=λu n hu hp=>by
  cases e:cB (aF is (k:Int)) key with
  |none=>rw[e]at hp;rw[show((none:Option Ln).getD Ln.zero)=Ln.zero from rfl,aGV]at hp;cases hp
  |some l=>rw[e]at hp;exact aEA d hk hu (wJ e) hp
 rcases h with rfl|⟨f,hf,n,g,_,rfl⟩|⟨u,hu,n,g,_,rfl⟩
 ·unfold akH
  dsimp only;cases e:cB (aF was (k:Int)) key with
  |some l=>
   obtain⟨m1,m⟩:=(oP (kM j k)).1 e;have hL:=abM j hk m1;have:=hL.k1;have:=hL.k2;omega
  |none=>
   cases i:cB (aF is (k:Int)) key with
   |none=>rw[e,i]at a;exact absurd rfl a
   |some l=>
    obtain⟨m1,m⟩:=(oP (kM d k)).1 i;have hL:=abM d hk m1;have:=hL.k1;have:=hL.k2;omega
 ·exact b _ _ (aIj c hk hf) g
 ·exact b _ _ (aHR c hk hu) g
theorem ahE{w:Wr}{s:Sc}(hw:qK w=true){x:P4}:∀{l:List Ot}{b:Bs}{k:Nat},bC T.rightP s b=true->OpW k b->(∀o∈l,nF o)->(bD w s b l).2=0->aB0 w s b l x->akH x
 |[],_,_,_,_,_,_,h=>h.elim
 |o::r,b,k,hb,hW,hf,h,hx=>by
  obtain⟨h0,e⟩:=uZ h
  obtain⟨b1,b2⟩:=yJ hw hb hW (hf o List.mem_cons_self) h0
  rcases hx with q|q
  ·exact atM hb b1 q
  ·exact ahE hw b1 b2 (λp hp=>hf p (List.mem_cons_of_mem _ hp)) (e▸h) q
theorem azW{was is:Ln}{col k t c:Int}{M:List P4}:(afP was is col k t c M).length<=M.length+1:=by
 unfold afP xF;split
 ·omega
 ·split
  ·omega
  ·split
   ·omega
   ·simp
theorem nW{α:Type}{F:List P4->α->List P4}{n:Nat}:∀(l:List α)(M:List P4),(∀a∈l,∀M,(F M a).length<=M.length+n)->(l.foldl F M).length<=M.length+n*l.length
 |[],M,_=>by simp
 |a::l,M,h=>by
  have b:=nW l (F M a) λc hc=>h c (List.mem_cons_of_mem _ hc)
  have d:=h a List.mem_cons_self M
  rw[List.foldl_cons,zlc,Nat.mul_add]
  omega
theorem aeT{t:Tb}{k key:Int}{was is:Ln}{M:List P4}:(nC t k was is key M).length<=M.length+(1+t.foreign.length+t.unique.length):=by
 unfold nC aBk avV;refine Nat.le_trans (nW (n:=1) _ _ λ_ _ _=>azW) ?_;have a:=nW (n:=1) t.foreign (xF (1,k,0,key) M) (F:=λM f=>afP was is f.col 1 f.table 0 M) λ_ _ _=>azW;have b:(xF (1,k,0,key) M).length<=M.length+1:=by
  unfold xF;split
  ·omega
  ·simp
 omega
theorem aGe{t:Tb}{k:Int}{N L:List Ln}{M:List P4}:(xC t k N L M).length<=M.length+(1+t.foreign.length+t.unique.length)*L.length:=
 nW _ _ λl _ M=>by
  cases cB N l.key with
  |none=>exact aeT
  |some y=>
   dsimp only;split
   ·omega
   ·exact aeT
theorem aFI{t:Tb}{k:Int}{O L:List Ln}{M:List P4}:(aeW t k O L M).length<=M.length+(1+t.foreign.length+t.unique.length)*L.length:=
 nW _ _ λl _ M=>by
  split
  ·omega
  ·exact aeT
def aHF(s:Sc):Prop:=s.length<=20/\∀k<s.length,s[k]!.foreign.length+s[k]!.unique.length<=400
theorem aGE{s:Sc}{was is:Bs}(hs:aHF s)(a:∀k:Int,(aF was k).length<=200)(b:∀k:Int,(aF is k).length<=200){k:Nat}(hk:k<s.length){M:List P4}:(yD s was is M k).length<=M.length+160400:=by
 unfold yD;have e:=aFI (t:=s[k]!) (k:=k) (O:=aF was k) (L:=aF is k) (M:=xC s[k]! k (aF is k) (aF was k) M);have f:=aGe (t:=s[k]!) (k:=k) (N:=aF is k) (L:=aF was k) (M:=M);have g:=hs.2 k hk;have c:(1+s[k]!.foreign.length+s[k]!.unique.length)*(aF was k).length<=401*200:=Nat.mul_le_mul (by omega) (a k);have d:(1+s[k]!.foreign.length+s[k]!.unique.length)*(aF is k).length<=401*200:=Nat.mul_le_mul (by omega) (b k);omega
theorem aA6{s:Sc}{was is:Bs}(hs:aHF s)(b:∀k:Int,(aF was k).length<=200)(c:∀k:Int,(aF is k).length<=200){M:List P4}:(nE s was is M).length<=M.length+3208000:=by
 unfold nE;have:=nW (F:=yD s was is) (n:=160400) (List.range s.length) M λk hk M=>aGE hs b c (List.mem_range.1 hk);rw[List.length_range]at this;have a:=hs.1;have:160400*s.length<=160400*20:=Nat.mul_le_mul (Nat.le_refl _) a;omega
theorem ajR{w:Wr}{s:Sc}(hs:aHF s):∀{l:List Ot}{b:Bs}{k:Nat}{M:List P4},OpW k b->k+l.length<=20->(∀o∈l,nF o)->(kD w s b l M).length<=M.length+3208000*l.length
 |[],_,_,_,_,_,_=>by simp[kD]
 |o::r,b,k,M,hW,hk,hf=>by
  rw[zlc]at hk
  have a:=aE5 (w:=w) (s:=s) hW (hf o List.mem_cons_self)
  unfold kD
  have c:=aA6 hs (was:=b) (is:=(bX w s b o).1) (M:=M) (λk=>by have:=(jX hW k).1;omega) λk=>by have:=(jX a k).1;omega
  have d:=ajR hs (w:=w) (l:=r) (M:=nE s b (bX w s b o).1 M) a (by omega) λp hp=>hf p (List.mem_cons_of_mem _ hp)
  rw[zlc]
  omega
end
section
set_option maxRecDepth 10000
set_option maxHeartbeats 4000000
section
variable{α:Type}(lt:α->α->Bool)
def auT(x:α):List α->List α
 |[]=>[x]
 |a::l=>if lt a x=true then a::auT x l else x::a::l
def yX(l:List α):List α:=l.foldr (auT lt) []
theorem zC(x:α):∀l:List α,(auT lt x l).Perm (x::l)
 |[]=> .refl _
 |a::l=>by
  unfold auT
  split
  ·exact((zC x l).cons a).trans (List.Perm.swap x a l)
  ·exact .refl _
theorem eW :∀l:List α,(yX lt l).Perm l
 |[]=> .refl _
 |a::l=>(zC lt a (yX lt l)).trans ((eW l).cons a)
structure OrdX :Prop where
 asy:∀{a b},lt a b=true->lt b a=false
 neg:∀{a b c},lt a b=false->lt c a=false->lt c b=false
 eq:∀{a b},lt a b=false->lt b a=false->a=b
variable{lt}
theorem ayB(h:OrdX lt)(x:α):∀{l:List α},l.Pairwise (λa b=>lt b a=false)->(auT lt x l).Pairwise λa b=>lt b a=false
 |[],_=>by simp[auT]
 |a::l,hp=>by
  obtain⟨c,d⟩:=List.pairwise_cons.1 hp
  unfold auT
  split
  ·rename_i e
   refine List.pairwise_cons.2 ⟨λb hb=>?_,ayB h x d⟩;rcases zmc.1 ((zC lt x l).mem_iff.1 hb)with rfl|hb
   ·exact h.asy e
   ·exact c b hb
  ·rename_i e
   have e:lt a x=false:=by simpa using e
   refine List.pairwise_cons.2 ⟨λb hb=>?_,hp⟩;rcases zmc.1 hb with rfl|hb
   ·exact e
   ·exact h.neg e (c b hb)
theorem abP(h:OrdX lt):∀l:List α,(yX lt l).Pairwise λa b=>lt b a=false
 |[]=>List.Pairwise.nil
 |a::l=>ayB h a (abP h l)
theorem sA(h:OrdX lt){l:List α}(hn:l.Nodup)(hp:l.Pairwise λa b=>lt b a=false):l.Pairwise λa b=>lt a b=true:=by
 unfold List.Nodup at hn;refine(hn.and hp).imp fun{a b} q=>?_;cases e:lt a b with
 |true=>rfl
 |false=>exact absurd (h.eq e q.2) q.1
theorem arR(h:OrdX lt){l m:List α}(hl:l.Pairwise λa b=>lt a b=true)(hm:m.Pairwise λa b=>lt a b=true)(hx:∀x,x∈l↔x∈m):l=m:=
 azM (r:=λa b=>lt a b=true) (fun{a b c} h1 h2=>by
  cases e:lt a c with
  |true=>rfl
  |false=>have:=h.neg (h.asy h2) e;rw[h1]at this;cases this) (fun{a} q=>by have:=h.asy q;rw[q]at this;cases this) hl hm hx
theorem aAm(h:OrdX lt){M R:List α}(hn:M.Nodup)(hp:R.Perm M)(hw:R.Pairwise λa b=>lt b a=false):R=yX lt M:=
 arR h (sA h (hp.nodup_iff.2 hn) hw) (sA h ((eW lt M).nodup_iff.2 hn) (abP h M)) λx=>hp.mem_iff.trans (eW lt M).mem_iff.symm
end
def kW(a b:P4):Bool:=decide (a.1<b.1\/a.1=b.1/\(a.2.1<b.2.1\/a.2.1=b.2.1/\(a.2.2.1<b.2.2.1\/a.2.2.1=b.2.2.1/\a.2.2.2<b.2.2.2)))
theorem aEe :OrdX kW where
 asy {a b} h:=by simp only[kW,zde,decide_eq_false_iff_not]at*;omega
 neg {a b c} h1 h2:=by simp only[kW,decide_eq_false_iff_not]at*;omega
 eq {a b} h1 h2:=by
  simp only[kW,decide_eq_false_iff_not]at*;exact Prod.ext (by omega) (Prod.ext (by omega) (Prod.ext (by omega) (by omega)))
def ltI(a b:Int):Bool:=decide (a<b)
theorem vO :OrdX ltI where
 asy {a b} h:=by simp only[ltI,zde,decide_eq_false_iff_not]at*;omega
 neg {a b c} h1 h2:=by simp only[ltI,decide_eq_false_iff_not]at*;omega
 eq {a b} h1 h2:=by simp only[ltI,decide_eq_false_iff_not]at*;omega
def adJ :List Int->List Int
 |[]=>[]
 |a::l=>if a∈adJ l then adJ l else a::adJ l
theorem vS{x:Int}:∀{l:List Int},x∈adJ l↔x∈l
 |[]=>Iff.rfl
 |a::l=>by
  unfold adJ
  have b:=vS (x:=x) (l:=l)
  split
  ·rename_i h
   rw[b,zmc];exact⟨.inr,λq=>q.elim (λe=>e▸vS.1 h) id⟩
  ·rw[zmc,zmc,b]
theorem abS :∀l:List Int,(adJ l).Nodup
 |[]=>List.nodup_nil
 |a::l=>by
  unfold adJ
  split
  ·exact abS l
  ·rename_i h
   exact List.nodup_cons.2 ⟨h,abS l⟩
def iU(l:List Int):List Int:=yX ltI (adJ l)
theorem auG{l r:List Int}(hp:r.Pairwise (· < ·))(hx:∀x,x∈r↔x∈l):r=iU l:=
 arR vO (hp.imp fun{a b} h=>decide_eq_true h) (sA vO ((eW ltI _).nodup_iff.2 (abS l)) (abP vO _)) λx=>by
  rw[hx];unfold iU;rw[(eW ltI _).mem_iff,vS]
theorem aAR{l:List Int}{x:Int}:x∈iU l↔x∈l:=by unfold iU;rw[(eW ltI _).mem_iff,vS]
theorem zK(l:List Int):(iU l).length<=l.length:=by
 unfold iU;rw[(eW ltI _).length_eq]
 induction l with
 |nil=>simp[adJ]
 |cons a l ih=>
  unfold adJ;split
  ·simp;omega
  ·simp;omega
def gI(b:Bs)(k:Nat)(m:Su):List Int:=(aF b (k:Int)).filterMap λl=>ptP l m.by_
abbrev S4 :=Int×Int×Int×Int
noncomputable def moreS(s:Sc)(was is:Bs)(k i:Nat)(g:Int):Option S4:=if totC s is k i g-totC s was k i g≠0 then some (k,i,g,totC s is k i g-totC s was k i g)else none
noncomputable def sumI(s:Sc)(was is:Bs)(k i:Nat):List S4:=(iU (gI was k s[k]!.sums[i]!++gI is k s[k]!.sums[i]!)).filterMap (moreS s was is k i)
noncomputable def sumK(s:Sc)(was is:Bs)(k:Nat):List S4:=(List.range s[k]!.sums.length).flatMap (sumI s was is k)
noncomputable def sumsP(s:Sc)(was is:Bs):List S4:=if bC T.rightP s was=true/\bC T.rightP s is=true then(List.range s.length).flatMap (sumK s was is)else[]
structure Rg where
 kind:Int
 table:Int
 col:Int
 lo:Int
 hi:Int
 amt:Int
def Rg.cells(r:Rg):List PV:=[vi r.kind,vi r.table,vi r.col,vi r.lo,vi r.hi,vi r.amt]
def rgP(p:P4):Rg:=⟨p.1,p.2.1,p.2.2.1,p.2.2.2,p.2.2.2+1,0⟩
def rgS(x:S4):Rg:=⟨3,x.1,x.2.1,x.2.2.1,0,x.2.2.2⟩
noncomputable def ofP(w:Wr)(s:Sc)(b:Bs)(l:List Ot):List Rg×Int:=if l.length=0 then([],0)else if(fY w s b l).2≠0 then([],(fY w s b l).2)else((yX kW (kD w s b l [])).map rgP++((sumsP s b (fY w s b l).1).filter λx=>decide (x.2.2.2>0)).map rgS,0)
end
section
attribute [local irreducible] Ev PWp
set_option maxRecDepth 10000
set_option maxHeartbeats 4000000
theorem aiO{α:Type}{l m:List α}{i:Nat}(h:l.take i=m.take i)(a:i<l.length)(b:i<m.length)(e:l[i]=m[i]):l.take (i+1)=m.take (i+1):=by
 rw[List.take_succ_eq_append_getElem a,List.take_succ_eq_append_getElem b,h,e]
theorem axB{α:Type}[DecidableEq α]{l m:List α}{i:Nat}(a:i<l.length)(b:i<m.length)(e:l[i]≠m[i]):decide (l=m)=false:=decide_eq_false λh=>by subst h;exact e rfl
theorem ayT{α:Type}[DecidableEq α]{l m:List α}{i:Nat}(h:l.take i=m.take i)(a:l.length<=i)(b:m.length<=i):decide (l=m)=true:=by
 rw[ztl a,ztl b]at h;exact decide_eq_true h
theorem aqO(l m:List Dt)(hl:l.length<4611686018427387904):PF Tryz.prog 97 [.seq (l.map Dt.cells), .seq (m.map Dt.cells)] (vb (decide (l=m))):=by
 refine pF Tryz.func97 rfl λst=>?_
 repeat' first|apply wZ;rfl|show Cn _;constructor|exact rfl|show(_:PV)=_;(rw[decide_eq_false λe:l=m=>by subst e;simp at*]);done|intro h;simp at h
 refine aC (X:={x:Nat//x<=l.length/\l.take x=m.take x}) (λi=>(((((St.nil 26 st).pv 0 (.seq (l.map Dt.cells))).pv 1 (.seq (m.map Dt.cells))).pv 12 (vi ((l.map Dt.cells).length:Nat))).pv 13 (vi (i.1:Nat)))) (λi=>l.length-i.1) ⟨0,by omega,rfl⟩ ?_ λi=>?_
 ·repeat' first|show Cn _;constructor|exact rfl
 obtain⟨i,hi,a⟩:=i;dsimp only;have b:l.length=m.length:=by omega
 repeat' first|refine⟨⟨i+1,by omega,aiO a (by omega) (by omega) (by rw[Dt.ext_iff];simpa[and_assoc]using h)⟩,?_,?_⟩|apply wZ;rfl|show Cn _;constructor|exact rfl|apply KR.mk;kernel_rfl|show(_:PV)=_;(first|rw[axB (i:=i) (by omega) (by omega) λe=>by simp[e]at h];done|rw[ayT a (by omega) (by omega)]);done|apply wI;rfl|apply gE;omega|omega|simp only[zql];omega|intro h;simp at h
theorem arX(a b:Cl)(hl:(a.parts.length:Nat)<4611686018427387904):PF Tryz.prog 99 [.agg a.cells, .agg b.cells] (vb (decide (a=b))):=by
 have h:=T.equal_spec a.parts b.parts hl;have e:decide (a=b)=((decide (a.kind=b.kind)&&decide (a.val=b.val))&&decide (a.parts=b.parts)):=by rw[Bool.eq_iff_iff];simp[Cl.ext_iff,and_assoc]
 rw[e,<-Vl.eqb];generalize decide (a.parts=b.parts)=D at*;refine pF Tryz.func99 rfl λst=>?_
 repeat' first|apply wZ;rfl|show Cn _;constructor|exact rfl|apply h|apply wY;rfl
theorem aD9(l m:List Cl)(hl:l.length<4611686018427387904)(hp:∀c∈l,c.parts.length<4611686018427387904):PF Tryz.prog 98 [.seq (l.map Cl.cells), .seq (m.map Cl.cells), .fn 99 []] (vb (decide (l=m))):=by
 refine pF Tryz.func98 rfl λst=>?_
 repeat' first|apply wZ;rfl|show Cn _;constructor|exact rfl|show(_:PV)=_;(rw[decide_eq_false λe:l=m=>by subst e;simp at*]);done|intro h;simp at h
 refine aC (X:={x:Nat//x<=l.length/\l.take x=m.take x}) (λi=>((((((St.nil 32 st).pv 1 (.seq (m.map Cl.cells))).pv 2 (.fn 99 [])).pv 15 (.seq (l.map Cl.cells))).pv 16 (vi ((l.map Cl.cells).length:Nat))).pv 17 (vi (i.1:Nat)))) (λi=>l.length-i.1) ⟨0,by omega,rfl⟩ ?_ λi=>?_
 ·repeat' first|show Cn _;constructor|exact rfl
 obtain⟨i,hi,a⟩:=i;dsimp only;have g:l.length=m.length:=by omega
 by_cases b:l.length<=i
 ·have e:=ayT a b (by omega)
  repeat' first|apply wZ;rfl|show Cn _;constructor|exact rfl|show(_:PV)=_;(rw[e]);done|simp only[zql];omega|intro h;simp at h
 have d:i<l.length:=by omega
 have f:i<m.length:=by omega
 have hc:=arX l[i] m[i] (hp _ (zgm d));by_cases hx:l[i]=m[i]
 ·have hn:=aiO a d f hx
  rw[decide_eq_true hx]at hc
  repeat' first|refine⟨⟨i+1,by omega,hn⟩,?_,?_⟩|apply wZ;rfl|show Cn _;constructor|exact rfl|apply hc|apply wY;rfl|apply wI;rfl|apply gE;omega|omega|simp only[zql];omega|intro h;simp at h
 ·have e:=axB d f hx
  rw[decide_eq_false hx]at hc
  repeat' first|apply wZ;rfl|show Cn _;constructor|exact rfl|apply hc|show(_:PV)=_;(rw[e]);done|apply wY;rfl|apply wI;rfl|apply gE;omega|simp only[zql];omega|intro h;simp at h
theorem awS(a b:Ln)(f:a.by_.length<4611686018427387904)(hb:a.cells_.length<4611686018427387904)(hp:∀c∈a.cells_,c.parts.length<4611686018427387904):PF Tryz.prog 56 [.agg a.cells, .agg b.cells] (vb (decide (a=b))):=by
 have h:=aqO a.by_ b.by_ f;have d:=aD9 a.cells_ b.cells_ hb hp;have e:decide (a=b)=((decide (a.key=b.key)&&decide (a.by_=b.by_))&&decide (a.cells_=b.cells_)):=by
  rw[Bool.eq_iff_iff];simp only[zba,zde,Ln.ext_iff];exact⟨λ⟨a,b,c⟩=>⟨⟨a,c⟩,b⟩,λ⟨⟨a,c⟩,b⟩=>⟨a,b,c⟩⟩
 rw[e];generalize decide (a.by_=b.by_)=D at*;generalize decide (a.cells_=b.cells_)=C at*;refine pF Tryz.func56 rfl λst=>?_
 repeat' first|apply wZ;rfl|show Cn _;constructor|exact rfl|(first|apply h|apply d)|apply wY;rfl
def p4C(p:P4):List PV:=[vi p.1,vi p.2.1,vi p.2.2.1,vi p.2.2.2]
theorem aG5 :Tryz.prog.bytesOf 87=32:=by kernel_rfl
theorem aF8 :Tryz.prog.cellsOf 87=4:=by kernel_rfl
def p4L(p:P4):List Int:=[p.1,p.2.1,p.2.2.1,p.2.2.2]
def aDV(a b:P4):Int:=T.cmpL (p4L a) (p4L b)
theorem arG(a b:P4):aDV a b<0↔kW a b=true:=by
 unfold aDV p4L kW;rw[zde];simp only[T.cmpL,T.cmpI_eq];by_cases c:a.1=b.1
 ·rw[zp c]
  by_cases d:a.2.1=b.2.1
  ·rw[zp d]
   by_cases e:a.2.2.1=b.2.2.1
   ·rw[zp e]
    by_cases h4:a.2.2.2=b.2.2.2
    ·rw[zp h4];omega
    ·rw[zn h4,T.cmpI_lt];omega
   ·rw[zn e,T.cmpI_lt];omega
  ·rw[zn d,T.cmpI_lt];omega
 ·rw[zn c,T.cmpI_lt];omega
theorem oH(a b:P4):PF Tryz.prog 31 [.agg (p4C a), .agg (p4C b)] (vi (aDV a b)):=by
 have h:=T.compare_spec (p4L a) (p4L b) (show 4<4611686018427387904 from by omega);refine pF Tryz.func31 rfl λst=>?_
 repeat' first|apply azK 2;rfl;rfl;rfl|apply azK 3;rfl;rfl;rfl|apply wZ;rfl|show Cn _;constructor|exact rfl|apply KR.mk;kernel_rfl|apply h|apply slA pk (rows:=(p4L a).map I1);(iterate 7 rfl);rotate_left;rfl;rfl|apply slA pk (rows:=(p4L b).map I1);(iterate 7 rfl);rotate_left;rfl;rfl|apply wY;rfl
theorem aCv(l:List P4){st:aD}{id n:Nat}(j:st id=some (.arr 87 (l.map p4C)))(hn:l.length=n)(i:n<4611686018427387904):
  PC Tryz.prog 30 [.vec id 4 0 n, .fn 31 []] st λ_ S=>∃r:List P4,S=upd st id (some (.arr 87 (r.map p4C)))/\r.Perm l/\r.Pairwise λx y=>kW y x=false:=by
 have hz:∀x y:P4,ltOf aDV x y=kW x y:=λx y=>by
  unfold ltOf
  rw[Bool.eq_iff_iff,zde,arG]
 have:=aqQ (P:=Tryz.prog) aLu (by kernel_rfl) (k:=4) Tryz.isAgg87 Tryz.sizeOf87 (enc:=λx:P4=>[.int .i64 x.1, .int .i64 x.2.1, .int .i64 x.2.2.1, .int .i64 x.2.2.2]) (λ_=>rfl) (λx v hv=>by simp only[zmc,List.not_mem_nil,or_false]at hv;rcases hv with rfl|rfl|rfl|rfl<;>rfl) (cmp:=aDV)
  ⟨λx=>by rw[hz,kW,decide_eq_false_iff_not];omega,λx y z c f=>by rw[hz,kW,zde]at*;omega,λx y z c f=>by rw[hz,kW,decide_eq_false_iff_not]at*;omega⟩ (gf:=31) (by kernel_rfl) (λx y=>oH x y) (st:=st) (id:=id) (n:=n) (d:=l) (e:=87) (by kernel_rfl) j hn i
 refine⟨this.1,λw g vs c f=>(this.2 w g vs c f).mono ?_⟩
 rintro e w' ⟨v,q,S,g',h3,⟨r,hS,hp,hw⟩,h4⟩
 exact⟨v,q,S,g',h3,⟨r,hS,hp,hw.imp fun{a b} h=>by cases e:kW b a with|false=>rfl|true=>exact absurd ((arG b a).2 e) h⟩,h4⟩
def dL(xs:Array Int):Nat->List Int
 |0=>[]
 |1=>[xs[0]!]
 |i+2=>dL xs (i+1)++if xs[i+1]! =xs[i]! then[]else[xs[i+1]!]
theorem ayL(xs:Array Int){k:Nat}(h:1<=k):dL xs (k+1)=dL xs k++if xs[k]! =xs[k-1]! then[]else[xs[k]!]:=by
 obtain⟨i,rfl⟩:∃i,k=i+1:=⟨k-1,by omega⟩;rfl
theorem aFj(xs:Array Int):∀k,1<=k->(dL xs k).length=1+dN xs k
 |1,_=>rfl
 |k+2,_=>by
  have a:=aFj xs (k+1) (by omega)
  rw[ayL xs (by omega),aaO xs (by omega),zla,a]
  split<;>simp<;>omega
def hdA(xs:Array Int)(n:Nat):List Int:=xs.toList.take n
theorem avU{xs:Array Int}{k:Nat}(h:k<xs.size):hdA xs (k+1)=hdA xs k++[xs[k]!]:=by
 unfold hdA;rw[List.take_succ_eq_append_getElem (by simpa using h),getElem!_pos xs k h];simp
theorem aFQ{xs:Array Int}{k n:Nat}{v:Int}(h:n<=k):hdA (xs.setIfInBounds k v) n=hdA xs n:=by
 unfold hdA;rw[Array.toList_setIfInBounds,List.take_set,List.set_eq_of_length_le (by simp;omega)]
theorem arU(xs:Array Int){st:aD}{id n:Nat}(o:st id=some (.arr 3 (xs.toList.map I1)))(hn:xs.size=n)(N:n<1000000000000):
  PC Tryz.prog 23 [.vec id 1 0 n] st λr S=>r= .vec id 1 0 (dL xs n).length/\∃rows,S=upd st id (some (.arr 3 rows))/\rows.length=n/\rows.take (dL xs n).length=(dL xs n).map I1:=by
 by_cases h0:n=0
 ·subst h0
  refine pC Tryz.func23 rfl ?_
  repeat' first|show Cn (.r _ _ _);refine .rr ?_;(exact⟨rfl,_,(kV o).symm,by simp[hn],by simp[dL]⟩);done|apply wZ;rfl|show Cn _;constructor
 have e:(dL xs n).length=1+dN xs n:=aFj xs n (by omega)
 rw[e]
 have z:hdA xs 1=dL xs 1:=by rw[avU (by omega)];rfl
 by_cases A:n<2
 ·obtain rfl:n=1:=by omega
  refine pC Tryz.func23 rfl ?_
  repeat' first|show Cn (.r _ _ _);refine .rr ?_;(exact⟨rfl,_,(kV o).symm,by simp[hn],by rw[<-List.map_take];exact congrArg (List.map I1) z⟩);done|apply wZ;rfl|show Cn _;constructor
 refine pC Tryz.func23 rfl ?_
 focus(repeat' first|apply wZ;rfl|show Cn _;constructor|omega|intro h;simp at h)
 refine aC (X:={x:Nat//1<=x/\x<=n/\dN xs x+1=x/\hdA xs x=dL xs x}) (λi=>(((St.nil 61 (st)).pv 0 (.vec id 1 0 n)).pv 3 (vi (i.1:Nat)))) (λi=>n-i.1) ⟨1,by omega,by omega,rfl,z⟩ ?_ λi=>?_
 ·repeat' first|show Cn (.t _ _);exact Cn.t0|show Cn _;constructor|exact rfl
 obtain⟨k,s,O,P,g⟩:=i
 dsimp only
 by_cases K:n<=k
 ·obtain rfl:k=n:=by omega
  have L:1+dN xs k=k:=by omega
  rw[L];have M:(xs.toList.map I1).take k=(dL xs k).map I1:=by rw[<-List.map_take];exact congrArg (List.map I1) g
  repeat' first|show Cn (.r _ _ _);refine .rr ?_;(exact⟨rfl,_,(kV o).symm,by simp[hn],M⟩);done|apply wZ;rfl|show Cn _;constructor|omega|intro h;simp at h
 have Q:k<n:=by omega
 have hu:=aaO xs s
 have hL:=ayL xs s
 by_cases hd:¬xs[k]! =xs[k-1]!
 ·rw[zn hd]at hu hL
  have H:dN xs (k+1)+1=k+1:=by omega
  have C:hdA xs (k+1)=dL xs (k+1):=by rw[hL,<-g,avU (by omega)]
  repeat' first|apply wDx pk;rfl;kernel_rfl;rfl;rfl|refine⟨⟨k+1,by omega,by omega,H,C⟩,?_,?_⟩|show Cn (.t _ _);exact Cn.t0|apply wZ;rfl|show Cn _;constructor|exact rfl|apply ixA pk;(iterate 5 rfl);rotate_left;rfl;(intro hw;(first|exact(show _=((k:Nat):Int)from by omega)|exact(show _=((k-1:Nat):Int)from by omega)));(intro hw;(omega));rfl;(exact Nat.zero_add _)|apply ldA pk I1.elem;rfl;rfl;rotate_left;rfl;(assumption);(intro hw;(omega));rfl|omega|simp only[zql];omega|intro h;simp at h|intro h
 replace hd:=zdn hd
 rw[zp hd]at hu hL
 rw[List.append_nil]at hL
 have E:hdA xs (1+dN xs (k+1))=dL xs (k+1):=by rw[hL,<-g,show 1+dN xs (k+1)=k by omega]
 focus(repeat' first|apply wDx pk;rfl;kernel_rfl;rfl;rfl|apply wZ;rfl|show Cn _;constructor|apply ixA pk;(iterate 5 rfl);rotate_left;rfl;(intro hw;(first|exact(show _=((k:Nat):Int)from by omega)|exact(show _=((k-1:Nat):Int)from by omega)));(intro hw;(omega));rfl;(exact Nat.zero_add _)|apply ldA pk I1.elem;rfl;rfl;rotate_left;rfl;(assumption);(intro hw;(omega));rfl|apply eM pk k (n-k);(iterate 4 rfl);rotate_left;rfl;(intro _;exact⟨_,aL rfl rfl,by omega⟩);(intro _;exact⟨_,aX,by omega⟩);(intro _;omega);(intro _;omega);rfl|omega|intro h;simp at h|intro h)
 refine aC (X:={x:Nat×Array Int//1<=x.1/\x.1<=n-k/\x.2.size=n/\(∀j,k+x.1<=j+1->j<n->x.2[j]! =xs[j]!)/\hdA x.2 (1+dN xs (k+x.1))=dL xs (k+x.1)}) (λy=>(((((St.nil 61 (upd st id (some (.arr 3 (y.1.2.toList.map I1))))).pv 0 (.vec id 1 0 n)).pv 3 (vi ((1+dN xs (k+y.1.1):Nat):Int))).pv 4 (.vec id 1 k (n-k))).pv 5 (vi (y.1.1:Nat)))) (λy=>n-y.1.1) ⟨(1,xs),by omega,by omega,hn,λ_ _ _=>rfl,E⟩ ?_ λy=>?_
 ·dsimp only
  repeat' first|show Cn (.t _ _);exact .any (cN (by(exact kV ‹_›)))|show Cn _;constructor|exact rfl|congr 2;omega
 obtain⟨⟨y,a⟩,I,J,f,hy,c⟩:=y
 simp only at I J f hy c
 dsimp only
 have u:=azH xs (k+1) (y-1) (by omega)
 rw[show k+1+(y-1)=k+y by omega]at u
 by_cases D:n-k<=y
 ·obtain rfl:y=n-k:=by omega
  rw[show k+(n-k)=n by omega]at u c⊢;have G:(a.toList.map I1).length=n:=by rw[zql,Array.length_toList,f]
  have F:(aQ (a.toList.map I1) (1+dN xs n) (aT (n-(1+dN xs n)) 1)).length=n:=(dM (by rw[G];simp only[aT,List.length_replicate];omega)).trans G;have v:∀m,(aQ (a.toList.map I1) (1+dN xs n) (aT m 1)).take (1+dN xs n)=(dL xs n).map I1:=λm=>by
   unfold aQ
   rw[List.append_assoc,List.take_append_of_le_length (by rw[zlt,G];omega),List.take_take,Nat.min_self,<-List.map_take]
   exact congrArg (List.map I1) c
  have R:(a.toList.map I1).take (1+dN xs n)=(dL xs n).map I1:=by rw[<-List.map_take];exact congrArg (List.map I1) c
  repeat' first|show Cn (.r _ _ _);refine .rr ?_;(exact⟨rfl,_,eI _ _ _ _,F,v _⟩);done|apply wZ;rfl|show Cn _;constructor|apply eM pk (1+dN xs n) (n-(1+dN xs n));(iterate 4 rfl);rotate_left;rfl;(intro _;exact⟨_,aL rfl rfl,by omega⟩);(intro _;exact⟨_,aX,by omega⟩);(intro _;omega);(intro _;omega);rfl|refine aDQ pk (id:=id) (off:=1+dN xs n) (len:=n-(1+dN xs n)) (rows:=a.toList.map I1) rfl rfl rfl rfl rfl rfl rfl rfl (aA _ _ _) (by omega) (by omega) (by omega) rfl ?_|apply aEq pk (1+dN xs n);(iterate 4 rfl);rotate_left;rfl;(intro _;exact aL rfl rfl);(intro _;omega);(intro _;omega);rfl|omega|intro h;simp at h
 have l:=hy (k+y) (by omega) (by omega)
 have w:=hy (k+(y-1)) (by omega) (by omega)
 have d:=aaO xs (show 1<=k+y by omega)
 have b:=ayL xs (show 1<=k+y by omega)
 rw[show k+y-1=k+(y-1) by omega,show k+y+1=k+(y+1)from rfl]at d b
 by_cases B:xs[k+y]! =xs[k+(y-1)]!
 ·rw[zp B]at d b
  rw[List.append_nil]at b;have q:∀j,k+(y+1)<=j+1->j<n->a[j]! =xs[j]!:=λj z A=>hy j (by omega) A;have p:hdA a (1+dN xs (k+(y+1)))=dL xs (k+(y+1)):=by rw[b,d,Nat.add_zero];exact c
  rw[<-l,<-w]at B
  repeat' first|apply wDx pk;rfl;kernel_rfl;rfl;rfl|refine⟨⟨(y+1,a),by simp only;omega,by simp only;omega,f,q,p⟩,?_,?_⟩;(dsimp only)|show Cn (.t _ _);exact Cn.t0|apply wZ;rfl|show Cn _;constructor|exact rfl|show _=_;(congr 2;omega)|apply ixA pk;(iterate 5 rfl);rotate_left;rfl;(intro hw;(first|exact(show _=((y:Nat):Int)from by omega)|exact(show _=((y-1:Nat):Int)from by omega)));(intro hw;(omega));rfl;(rfl)|apply ldA pk I1.elem;rfl;rfl;rotate_left;rfl;(exact aA _ _ _);(intro hw;(omega));rfl|omega|simp only[zql];omega|intro h;simp at h|intro h
 ·rw[zn B]at d b
  have q:∀j,k+(y+1)<=j+1->j<n->(a.setIfInBounds (1+dN xs (k+y)) a[k+y]!)[j]! =xs[j]!:=λj z A=>by
   rw[getElem!_pos _ j (by rw[zqs];omega),Array.getElem_setIfInBounds_ne (by omega) (by omega),<-getElem!_pos a j (by omega)]
   exact hy j (by omega) A
  have p:hdA (a.setIfInBounds (1+dN xs (k+y)) a[k+y]!) (1+dN xs (k+(y+1)))=dL xs (k+(y+1)):=by
   rw[b,d,<-c,show 1+(dN xs (k+y)+1)=(1+dN xs (k+y))+1 by omega,avU (by rw[zqs];omega),aFQ (Nat.le_refl _),getElem!_pos _ _ (by rw[zqs];omega),Array.getElem_setIfInBounds_self,l]
  rw[<-l,<-w]at B
  repeat' first|apply wDx pk;rfl;kernel_rfl;rfl;rfl|refine⟨⟨(y+1,a.setIfInBounds (1+dN xs (k+y)) a[k+y]!),by simp only;omega,by simp only;omega,by rw[zqs];exact f,q,p⟩,?_,?_⟩;(dsimp only)|show Cn (.t _ _);exact .any (cN (by((simp only[St.pv,St.put,St.sst,St.setv,St.nil,St.var,eI]);(done))))|apply wZ;rfl|show Cn _;constructor|exact rfl|show _=_;(congr 2;omega)|apply ixA pk;(iterate 5 rfl);rotate_left;rfl;(intro hw;(first|exact(show _=((y:Nat):Int)from by omega)|exact(show _=((y-1:Nat):Int)from by omega)|exact(show _=((1+dN xs (k+y):Nat):Int)from by omega)));(intro hw;(omega));rfl;(first|exact Nat.zero_add _|exact rfl)|apply ldA pk I1.elem;rfl;rfl;rotate_left;rfl;(exact aA _ _ _);(intro hw;(omega));rfl|apply stA pk I1.elem;rfl;rfl;rfl;(exact aA _ _ _);(omega);rfl|omega|simp only[zql];omega|intro h;simp at h|intro h
theorem aId{xs:Array Int}(hs:∀i j,i<j->j<xs.size->xs[i]!<=xs[j]!):∀k,k<=xs.size->(dL xs k).Pairwise (· < ·)/\(∀x∈dL xs k,1<=k/\x<=xs[k-1]!)/\∀x,x∈dL xs k↔∃i<k,xs[i]! =x
 |0,_=>by simp[dL]
 |1,_=>by
  refine⟨by simp[dL],by simp[dL],λx=>?_⟩
  simp only[dL,zms]
  exact⟨λe=>⟨0,by omega,e.symm⟩,λ⟨i,hi,e⟩=>by
   obtain rfl:i=0:=by omega
   exact e.symm⟩
 |k+2,hk=>by
  obtain⟨f,d,g⟩:=aId hs (k+1) (by omega)
  have h:=hs k (k+1) (by omega) (by omega)
  rw[ayL xs (by omega),show k+1-1=k from rfl,show k+2-1=k+1 from rfl]
  by_cases e:xs[k+1]! =xs[k]!
  ·rw[zp e,List.append_nil]
   refine⟨f,λx hx=>⟨by omega,by have:=(d x hx).2;rw[show k+1-1=k from rfl]at this;omega⟩,λx=>?_⟩;rw[g];constructor
   ·rintro⟨i,hi,q⟩;exact⟨i,by omega,q⟩
   ·rintro⟨i,hi,q⟩
    rcases zls.1 hi with c|c
    ·exact⟨i,c,q⟩
    ·subst c;exact⟨k,by omega,by rw[<-e];exact q⟩
  ·rw[zn e]
   refine⟨List.pairwise_append.2 ⟨f,by simp,λa ha b hb=>?_⟩,λx hx=>?_,λx=>?_⟩
   ·obtain rfl:=zms.1 hb
    have:=(d a ha).2;rw[show k+1-1=k from rfl]at this;omega
   ·rcases zma.1 hx with q|q
    ·exact⟨by omega,by have:=(d x q).2;rw[show k+1-1=k from rfl]at this;omega⟩
    ·obtain rfl:=zms.1 q;exact⟨by omega,Int.le_refl _⟩
   ·rw[zma,g,zms]
    constructor
    ·rintro(⟨i,hi,q⟩|q)
     ·exact⟨i,by omega,q⟩
     ·exact⟨k+1,by omega,q.symm⟩
    ·rintro⟨i,hi,q⟩
     rcases zls.1 hi with c|c
     ·exact .inl ⟨i,c,q⟩
     ·subst c;exact .inr q.symm
theorem aGu(l:List Int):dL (l.mergeSort λx y=>decide (x<=y)).toArray l.length=iU l:=by
 have hs:(l.mergeSort λx y=>decide (x<=y)).Pairwise λa b=>decide (a<=b)=true:=List.pairwise_mergeSort (λa b c e g=>by simp only[zde]at*;omega) (λa b=>by simp only[Bool.or_eq_true,zde];omega) l;have hl:(l.mergeSort λx y=>decide (x<=y)).length=l.length:=List.length_mergeSort l;have hm:∀x,x∈(l.mergeSort λx y=>decide (x<=y))↔x∈l:=λx=>List.mem_mergeSort;generalize(l.mergeSort λx y=>decide (x<=y))=m at*;have hq:∀i j,i<j->j<m.toArray.size->m.toArray[i]!<=m.toArray[j]!:=λi j d hj=>by
  have hj:j<m.length:=by simpa using hj
  rw[getElem!_pos m.toArray i (by simp;omega),getElem!_pos m.toArray j (by simpa using hj)]
  have:=List.pairwise_iff_getElem.1 hs i j (by omega) hj d
  simpa using this
 obtain⟨e,_,f⟩:=aId hq l.length (by simp[hl]);refine auG e λx=>?_;rw[f,<-hm];constructor
 ·rintro⟨i,hi,rfl⟩
  rw[getElem!_pos m.toArray i (by simp;omega)];simp
 ·intro hx
  obtain⟨i,hi,rfl⟩:=zgo hx;exact⟨i,by omega,by rw[getElem!_pos m.toArray i (by simpa using hi)];simp⟩
def jY(p:P4):Value:= .agg (acJ p).toArray
theorem aC8 :KeyOK Tryz.prog 87 jY (λp=> .agg (p4C p)):=
 asZ aS rfl rfl rfl rfl (λa b=>by
  show some (decide (a.1=b.1)&&(decide (a.2.1=b.2.1)&&(decide (a.2.2.1=b.2.2.1)&&decide (a.2.2.2=b.2.2.2))))=_
  rw[Option.some.injEq,Bool.eq_iff_iff]
  simp[Prod.ext_iff]) (by kernel_rfl)
def m4E(M:List P4):List (P4×Bool):=M.map λr=>(r,true)
def m4M(M:List P4):AObj:= .map (aV jY bF (m4E M))
theorem aHZ{p:P4}:∀{M:List P4},cM p true (m4E M)=m4E (xF p M)
 |[]=>rfl
 |x::M=>by
  have a:=aHZ (p:=p) (M:=M)
  unfold xF at a⊢
  simp only[m4E,zmp,cM]at a⊢
  by_cases e:p=x
  ·subst e
   rw[zp rfl,zp (by simp)];rfl
  ·rw[zn e,a]
   by_cases hm:p∈M
   ·rw[zp hm,zp (by simp[hm])];rfl
   ·rw[zn hm,zn (by simp[hm,e])];rfl
theorem aKB{st:aD}{id:Nat}{p:P4}{M:List P4}:upd (upd st id (some (m4M M))) id (some (.map (aV jY bF (cM p true (m4E M)))))=upd st id (some (m4M (xF p M))):=by
 rw[eI,aHZ];rfl
theorem apX(was is:Ln)(col:Int)(i:eV was col)(j:eV is col)(k t c z:Int)(M:List P4)(st:aD)(id:Nat):
  PC Tryz.prog 101 [.mref id, .agg was.cells, .agg is.cells,vi col, .agg [vi k,vi t,vi c,vi z]] (upd st id (some (m4M M))) λ_ S=>S=upd st id (some (m4M (afP was is col k t c M))):=by
 have a:=gV was col i
 have b:=gV is col j
 unfold afP
 cases g:ptP is col with
 |none=>
  rw[g]at b;generalize ptP was col=W at*;refine pC Tryz.func101 rfl ?_
  (repeat' first|apply Cn.cf;focus(((first|apply a|apply b));done)|show Cn (.r _ _ _);refine .rr ?_;(rfl);done|apply wZ;rfl|show Cn _;constructor|apply wY;rfl)
 |some n=>
  rw[g]at b;dsimp only;have hs:=aKB (st:=st) (id:=id) (p:=((k,t,c,n):P4)) (M:=M);cases d:ptP was col with
  |none=>
   rw[d]at a;rw[zn (by simp)];refine pC Tryz.func101 rfl ?_
   (repeat' first|apply muA pk aC8 (f:=bF) (k:=((k,t,c,n):P4));(exact .inr rfl);(iterate 5 rfl);exact aA _ _ _;rfl|apply Cn.cf;focus(((first|apply a|apply b));done)|show Cn (.r _ _ _);refine .rr ?_;(exact hs);done|apply wZ;rfl|show Cn _;constructor|apply iD pk 3;(iterate 5 rfl);(focus repeat' constructor);rfl;(intro _;rfl);(intro _;omega);rfl|apply wY;rfl)
  |some m=>
   rw[d]at a;by_cases hm:m=n
   ·subst hm
    rw[zp rfl];refine pC Tryz.func101 rfl ?_
    repeat' first|apply Cn.cf;focus(((first|apply a|apply b));done)|show Cn (.r _ _ _);refine .rr ?_;(rfl);done|apply wZ;rfl|show Cn _;constructor|apply wY;rfl|omega|intro h;simp at h
   ·rw[zn λe=>hm (Option.some.inj e)]
    have l:¬n=m:=λe=>hm e.symm;refine pC Tryz.func101 rfl ?_
    repeat' first|apply muA pk aC8 (f:=bF) (k:=((k,t,c,n):P4));(exact .inr rfl);(iterate 5 rfl);exact aA _ _ _;rfl|apply Cn.cf;focus(((first|apply a|apply b));done)|show Cn (.r _ _ _);refine .rr ?_;(exact hs);done|apply wZ;rfl|show Cn _;constructor|apply iD pk 3;(iterate 5 rfl);(focus repeat' constructor);rfl;(intro _;rfl);(intro _;omega);rfl|apply wY;rfl|intro h;simp at h;omega|intro h;simp at h
theorem wX{α β:Type}{F:β->α->β}{l:List α}{i:Nat}{M:β}(h:i<l.length):(l.take (i+1)).foldl F M=F ((l.take i).foldl F M) l[i]:=by
 rw[List.take_succ_eq_append_getElem h,List.foldl_append];rfl
theorem aCK{s:Sc}{k:Nat}(hk:k<s.length)(was is:Ln)(key:Int)(hf:∀f∈s[k].foreign,eV was f.col/\eV is f.col)(hu:∀u∈s[k].unique,eV was u/\eV is u)(v:s[k].foreign.length<1000000000000)(w:s[k].unique.length<1000000000000)(M:List P4)(st:aD)(id:Nat):
  PC Tryz.prog 57 [.mref id, .agg (scC s),vi (k:Nat), .agg was.cells, .agg is.cells,vi key] (upd st id (some (m4M M))) λ_ S=>S=upd st id (some (m4M (nC s[k] (k:Int) was is key M))):=by
 unfold nC
 have hs:=aKB (st:=st) (id:=id) (p:=((1,((k:Nat):Int),0,key):P4)) (M:=M)
 generalize q:xF (1,((k:Nat):Int),0,key) M=l at*
 have b:StSub (upd st id (some (m4M (avV was is (s[k].foreign.take 0) l)))) (upd (upd st id (some (m4M M))) id (some (.map (aV jY bF (cM (1,((k:Nat):Int),0,key) true (m4E M)))))):=by
  rw[hs];exact cN rfl
 refine pC Tryz.func57 rfl ?_
 focus(repeat' first|apply muA pk aC8 (f:=bF) (k:=((1,((k:Nat):Int),0,key):P4));(exact .inr rfl);(iterate 5 rfl);exact aA _ _ _;rfl|apply wZ;rfl|show Cn _;constructor|exact rfl|apply wI;rfl|apply gE;omega)
 refine aC (X:={x:Nat//x<=s[k].foreign.length}) (λi=>(((((((((St.nil 61 (upd st id (some (m4M (avV was is (s[k].foreign.take i.1) l))))).pv 0 (.mref id)).pv 2 (vi (k:Nat))).var 7 24 (scC s)).var 9 106 (was.cells)).var 10 106 (is.cells)).pv 25 (.seq (s[k].foreign.map Fr.cells))).pv 26 (vi ((s[k].foreign.map Fr.cells).length:Nat))).pv 27 (vi (i.1:Nat)))) (λi=>s[k].foreign.length-i.1) ⟨0,by omega⟩ ?_ λi=>?_
 ·repeat' first|exact .any b|show Cn _;constructor|exact rfl
 clear hs b
 obtain⟨i,hi⟩:=i
 dsimp only
 by_cases e:s[k].foreign.length<=i
 ·rw[ztl e]
  generalize avV was is s[k].foreign l=m;have a:StSub (upd st id (some (m4M (aBk was is (k:Int) (s[k].unique.take 0) m)))) (upd st id (some (m4M m))):=cN rfl
  focus(repeat' first|apply wZ;rfl|show Cn _;constructor|exact rfl|apply wI;rfl|apply gE;omega|simp only[zql];omega|intro h;simp at h)
  refine aC (X:={x:Nat//x<=s[k].unique.length}) (λy=>((((((((St.nil 61 (upd st id (some (m4M (aBk was is (k:Int) (s[k].unique.take y.1) m))))).pv 0 (.mref id)).pv 2 (vi (k:Nat))).var 9 106 (was.cells)).var 10 106 (is.cells)).pv 46 (.seq (s[k].unique.map I1))).pv 47 (vi ((s[k].unique.map I1).length:Nat))).pv 48 (vi (y.1:Nat)))) (λy=>s[k].unique.length-y.1) ⟨0,by omega⟩ ?_ λy=>?_
  ·repeat' first|exact .any a|show Cn _;constructor|exact rfl
  clear a;obtain⟨y,hy⟩:=y;dsimp only;by_cases c:s[k].unique.length<=y
  ·rw[ztl c]
   repeat' first|show Cn (.r _ _ _);refine .rr ?_;(rfl);done|apply wZ;rfl|show Cn _;constructor|simp only[zql];omega|intro h;simp at h
  have j:y<s[k].unique.length:=by omega
  have d:aBk was is (k:Int) (s[k].unique.take (y+1)) m=_:=wX j;obtain⟨n,o⟩:=hu _ (zgm j);have hv:=λN=>apX was is s[k].unique[y] n o 2 (k:Int) s[k].unique[y] 0 N st id
  repeat' first|apply cP;rfl;(apply hv _);rintro _ st' (rfl)|refine⟨⟨y+1,by omega⟩,?_,?_⟩;(dsimp only;rw[d];try rfl)|show Cn (.t _ _);exact Cn.t0|apply wZ;rfl|show Cn _;constructor|exact rfl|apply wY;rfl|apply wI;rfl|apply gE;omega|omega|simp only[zql];omega|intro h;simp at h
 have g:i<s[k].foreign.length:=by omega
 have d:avV was is (s[k].foreign.take (i+1)) l=_:=wX g
 obtain⟨n,o⟩:=hf _ (zgm g)
 have hv:=λN=>apX was is s[k].foreign[i].col n o 1 s[k].foreign[i].table 0 0 N st id
 repeat' first|apply cP;rfl;(apply hv _);rintro _ st' (rfl)|refine⟨⟨i+1,by omega⟩,?_,?_⟩;(dsimp only;rw[d];try rfl)|show Cn (.t _ _);exact Cn.t0|apply wZ;rfl|show Cn _;constructor|exact rfl|apply wY;rfl|apply wI;rfl|apply gE;omega|omega|simp only[zql];omega|intro h;simp at h
theorem aI5{t:Tb}{k:Int}{N L:List Ln}{M:List P4}{i:Nat}(h:i<L.length):xC t k N (L.take (i+1)) M=match cB N L[i].key with
  |none=>nC t k L[i] Ln.zero L[i].key (xC t k N (L.take i) M)
  |some x=>if L[i]=x then xC t k N (L.take i) M else nC t k L[i] x L[i].key (xC t k N (L.take i) M):=wX h
theorem aJk{t:Tb}{k:Int}{O L:List Ln}{M:List P4}{i:Nat}(h:i<L.length):aeW t k O (L.take (i+1)) M=if(cB O L[i].key).isSome=true then aeW t k O (L.take i) M else nC t k Ln.zero L[i] L[i].key (aeW t k O (L.take i) M):=wX h
theorem aHi{s:Sc}{was is:Bs}{M:List P4}(i:Nat):(List.range (i+1)).foldl (yD s was is) M=yD s was is ((List.range i).foldl (yD s was is) M) i:=by
 rw[List.range_succ,List.foldl_append];rfl
theorem aAH{s:Sc}{was is:Bs}(v:bC T.rightP s was=true)(w:bC T.rightP s is=true)(q:BsS 200 was)(F:BsS 200 is)(M:List P4)(st:aD)(id:Nat):
  PC Tryz.prog 29 [.mref id, .agg (scC s), .agg (bsC was), .agg (bsC is)] (upd st id (some (m4M M))) λ_ S=>S=upd st id (some (m4M (nE s was is M))):=by
 unfold nE
 obtain⟨⟨m,W⟩,_⟩:=aU.1 v
 obtain⟨⟨_,Y⟩,_⟩:=aU.1 w
 have U:=jT m
 have R:(s.map Tb.cells).length=s.length:=zql _
 have K:=λk key=>xA is k key λd hd=>by have:=(F.2 d hd).1;omega
 have L:=λk key=>xA was k key λd hd=>by have:=(q.2 d hd).1;omega
 have p:StSub (upd st id (some (m4M ((List.range 0).foldl (yD s was is) M)))) (upd st id (some (m4M M))):=cN rfl
 refine pC Tryz.func29 rfl ?_
 focus(repeat' first|apply wZ;rfl|show Cn _;constructor)
 refine aC (X:={x:Nat//x<=s.length}) (λi=>(((((((St.nil 90 (upd st id (some (m4M ((List.range i.1).foldl (yD s was is) M))))).pv 0 (.mref id)).var 5 24 (scC s)).var 6 27 (bsC was)).var 7 27 (bsC is)).pv 19 (vi ((s.map Tb.cells).length:Nat))).pv 20 (vi (i.1:Nat)))) (λi=>s.length-i.1) ⟨0,by omega⟩ ?_ λi=>?_
 ·repeat' first|exact .any p|show Cn _;constructor|exact rfl
 clear p
 obtain⟨i,hi⟩:=i
 dsimp only
 by_cases P:s.length<=i
 ·obtain rfl:i=s.length:=by omega
  repeat' first|show Cn (.r _ _ _);refine .rr ?_;(rfl);done|apply wZ;rfl|show Cn _;constructor|omega|intro h;simp at h
 have hk:i<s.length:=by omega
 have n:(List.range (i+1)).foldl (yD s was is) M=aeW s[i]! (i:Nat) (aF was (i:Nat)) (aF is (i:Nat)) (xC s[i]! (i:Nat) (aF is (i:Nat)) (aF was (i:Nat)) ((List.range i).foldl (yD s was is) M)):=aHi i
 rw[getElem!_pos s i hk]at n
 generalize(List.range i).foldl (yD s was is) M=E at*
 have k1:i<was.length:=by omega
 have k2:i<is.length:=by omega
 have Z:=lH m hk
 have hf:∀f∈s[i].foreign,∀(x y:Ln),(x∈aF was (i:Nat)\/x∈aF is (i:Nat)\/x=Ln.zero)->eV x f.col:=λf hf x _ hx=>by
  have G:=aIj m hk (f:=f) (by rw[getElem!_pos s i hk];exact hf)
  rcases hx with h|h|rfl
  ·exact aeC v hk G h
  ·exact aeC w hk G h
  ·exact arE _
 have hu:∀u∈s[i].unique,∀(x y:Ln),(x∈aF was (i:Nat)\/x∈aF is (i:Nat)\/x=Ln.zero)->eV x u:=λu hu x _ hx=>by
  have G:=aHR m hk (u:=u) (by rw[getElem!_pos s i hk];exact hu)
  rcases hx with h|h|rfl
  ·exact aeC v hk G h
  ·exact aeC w hk G h
  ·exact arE _
 have e:=λ(x y:Ln)(hx:x∈aF was (i:Nat)\/x∈aF is (i:Nat)\/x=Ln.zero)(hy:y∈aF was (i:Nat)\/y∈aF is (i:Nat)\/y=Ln.zero)(key:Int)(N:List P4)=>aCK hk x y key (λf h=>⟨hf f h x x hx,hf f h y y hy⟩) (λu h=>⟨hu u h x x hx,hu u h y y hy⟩) (by omega) (by omega) N st id
 have J:aF was (i:Nat)=was[i].lines:=gJ k1
 have Q:aF is (i:Nat)=is[i].lines:=gJ k2
 have z1:=(q.2 _ (zgm k1)).1
 have z2:=(F.2 _ (zgm k2)).1
 have j:StSub (upd st id (some (m4M (xC s[i] i (aF is (i:Nat)) (was[i].lines.take 0) E)))) (upd st id (some (m4M E))):=cN rfl
 focus(repeat' first|apply wZ;rfl|show Cn _;constructor|exact rfl|apply wI;rfl|apply gE;omega|omega|intro h;simp at h)
 refine aC (X:={x:Nat//x<=was[i].lines.length}) (λy=>(((((((((((St.nil 90 (upd st id (some (m4M (xC s[i] i (aF is (i:Nat)) (was[i].lines.take y.1) E))))).pv 0 (.mref id)).var 5 24 (scC s)).var 6 27 (bsC was)).var 7 27 (bsC is)).pv 8 (vi (i:Nat))).pv 19 (vi ((s.map Tb.cells).length:Nat))).pv 20 (vi (i:Nat))).pv 28 (.seq (was[i].lines.map Ln.cells))).pv 29 (vi ((was[i].lines.map Ln.cells).length:Nat))).pv 30 (vi (y.1:Nat)))) (λy=>was[i].lines.length-y.1) ⟨0,by omega⟩ ?_ λy=>?_
 ·repeat' first|exact .any j|show Cn _;constructor|exact rfl
 clear j
 obtain⟨y,hy⟩:=y
 dsimp only
 by_cases A:was[i].lines.length<=y
 ·rw[ztl A]
  rw[J]at n;generalize xC s[i] i (aF is (i:Nat)) was[i].lines E=I at*;have l:StSub (upd st id (some (m4M (aeW s[i] i was[i].lines (is[i].lines.take 0) I)))) (upd st id (some (m4M I))):=cN rfl
  focus(repeat' first|apply wZ;rfl|show Cn _;constructor|exact rfl|apply wI;rfl|apply gE;omega|simp only[zql];omega|intro h;simp at h)
  refine aC (X:={x:Nat//x<=is[i].lines.length}) (λz=>(((((((((((St.nil 90 (upd st id (some (m4M (aeW s[i] i was[i].lines (is[i].lines.take z.1) I))))).pv 0 (.mref id)).var 5 24 (scC s)).var 6 27 (bsC was)).var 7 27 (bsC is)).pv 8 (vi (i:Nat))).pv 19 (vi ((s.map Tb.cells).length:Nat))).pv 20 (vi (i:Nat))).pv 64 (.seq (is[i].lines.map Ln.cells))).pv 65 (vi ((is[i].lines.map Ln.cells).length:Nat))).pv 66 (vi (z.1:Nat)))) (λz=>is[i].lines.length-z.1) ⟨0,by omega⟩ ?_ λz=>?_
  ·repeat' first|exact .any l|show Cn _;constructor|exact rfl
  clear l;obtain⟨z,hz⟩:=z;dsimp only;by_cases B:is[i].lines.length<=z
  ·rw[ztl B]
   rw[Q]at n
   repeat' first|refine⟨⟨i+1,by omega⟩,?_,?_⟩;(dsimp only;rw[n];try rfl)|apply wZ;rfl|show Cn _;constructor|exact rfl|omega|simp only[zql];omega|intro h;simp at h
  have H:z<is[i].lines.length:=by omega
  have g:=aJk (t:=s[i]) (k:=i) (O:=was[i].lines) (M:=I) H;have hg:=L (i:Nat) is[i].lines[z].key;rw[J,abN]at hg;have hl:=e Ln.zero is[i].lines[z] (.inr (.inr rfl)) (.inr (.inl (by rw[Q];exact zgm H))) is[i].lines[z].key;cases C:cB was[i].lines is[i].lines[z].key with
  |none=>
   rw[C]at hg g;rw[zn (by simp)]at g
   (repeat' first|apply Cn.cf;focus((apply hg);done)|apply cP;rfl;(apply hl _);rintro _ st' (rfl)|refine⟨⟨z+1,by omega⟩,?_,?_⟩;(dsimp only;rw[g];try rfl)|show Cn (.t _ _);exact Cn.t0|apply wZ;rfl|show Cn _;constructor|exact rfl|apply wY;rfl|apply wI;rfl|apply gE;omega|omega|simp only[zql];omega|intro h;simp at h)
  |some x=>
   rw[C]at hg g;rw[zp (by simp)]at g
   repeat' first|refine⟨⟨z+1,by omega⟩,?_,?_⟩;(dsimp only;rw[g];try rfl)|apply wZ;rfl|show Cn _;constructor|exact rfl|apply hg|apply wY;rfl|apply wI;rfl|apply gE;omega|omega|simp only[zql];omega|intro h;simp at h
 have o:y<was[i].lines.length:=by omega
 have a:=aI5 (t:=s[i]) (k:=i) (N:=aF is (i:Nat)) (M:=E) o
 have hg:=K (i:Nat) was[i].lines[y].key
 rw[abN]at hg
 obtain⟨s1,s2,V⟩:=(q.2 _ (zgm k1)).2 _ (zgm o)
 have ha:=λb=>awS was[i].lines[y] b (by omega) (by omega) λc hc=>by have:=V c hc;omega
 cases C:cB (aF is (i:Nat)) was[i].lines[y].key with
 |none=>
  rw[C]at hg a;dsimp only at a;have hl:=e was[i].lines[y] Ln.zero (.inl (by rw[J];exact zgm o)) (.inr (.inr rfl)) was[i].lines[y].key;have ha:=ha Ln.zero;generalize decide (was[i].lines[y]=Ln.zero)=D at*
  (repeat' first|apply Cn.cf;focus(((first|apply hg|apply ha));done)|apply cP;rfl;(apply hl _);rintro _ st' (rfl)|refine⟨⟨y+1,by omega⟩,?_,?_⟩;(dsimp only;rw[a];try rfl)|show Cn (.t _ _);exact Cn.t0|apply wZ;rfl|show Cn _;constructor|exact rfl|apply wY;rfl|apply wI;rfl|apply gE;omega|omega|simp only[zql];omega|intro h;simp at h)
 |some x=>
  rw[C]at hg a;dsimp only at a;have ha:=ha x;have hl:=e was[i].lines[y] x (.inl (by rw[J];exact zgm o)) (.inr (.inl (wJ C))) was[i].lines[y].key;by_cases hx:was[i].lines[y]=x
  ·rw[zp hx]at a
   rw[decide_eq_true hx]at ha
   repeat' first|refine⟨⟨y+1,by omega⟩,?_,?_⟩;(dsimp only;rw[a];try rfl)|apply wZ;rfl|show Cn _;constructor|exact rfl|(first|apply hg|apply ha)|apply wY;rfl|apply wI;rfl|apply gE;omega|omega|simp only[zql];omega|intro h;simp at h
  ·rw[zn hx]at a
   rw[decide_eq_false hx]at ha
   repeat' first|apply Cn.cf;focus(((first|apply hg|apply ha));done)|apply cP;rfl;(apply hl _);rintro _ st' (rfl)|refine⟨⟨y+1,by omega⟩,?_,?_⟩;(dsimp only;rw[a];try rfl)|show Cn (.t _ _);exact Cn.t0|apply wZ;rfl|show Cn _;constructor|exact rfl|apply wY;rfl|apply wI;rfl|apply gE;omega|omega|simp only[zql];omega|intro h;simp at h
theorem auB :Tryz.prog.cellsOf 3=1:=by kernel_rfl
theorem aC7{L:List Ln}{m:Su}{i:Nat}(h:i<L.length):(L.take (i+1)).filterMap (λl=>ptP l m.by_)=(L.take i).filterMap (λl=>ptP l m.by_)++(match ptP L[i] m.by_ with|none=>[]|some n=>[n]):=by
 rw[List.take_succ_eq_append_getElem h,List.filterMap_append]
 congr 1
 cases e:ptP L[i] m.by_ with
 |none=>simp[e]
 |some n=>simp[e]
theorem aB4{b:Bs}{k:Nat}(hk:k<b.length)(m:Su)(p:∀l∈b[k].lines,eV l m.by_)(hl:b[k].lines.length<1000000000000)(st:aD):
  PC Tryz.prog 21 [.agg (bsC b),vi (k:Nat), .agg m.cells] st λr S=>∃id,r= .vec id 1 0 (b[k].lines.filterMap λl=>ptP l m.by_).length/\st id=none/\S=upd st id (some (.arr 3 ((b[k].lines.filterMap λl=>ptP l m.by_).map I1))):=by
 refine pC Tryz.func21 rfl ?_
 focus(repeat' first|apply wZ;rfl|show Cn _;constructor|exact rfl|apply wI;rfl|apply gE;omega)
 refine eC 7 3 1 rfl rfl rfl λid c=>?_
 refine aC (X:={x:Nat×Nat//x.1<=b[k].lines.length/\st x.2=none}) (λi=>((((((St.nil 37 (upd st i.1.2 (some (.arr 3 (((b[k].lines.take i.1.1).filterMap λl=>ptP l m.by_).map I1))))).var 5 74 (m.cells)).pv 7 (.vec i.1.2 1 0 ((b[k].lines.take i.1.1).filterMap λl=>ptP l m.by_).length)).pv 17 (.seq (b[k].lines.map Ln.cells))).pv 18 (vi ((b[k].lines.map Ln.cells).length:Nat))).pv 19 (vi (i.1.1:Nat)))) (λi=>b[k].lines.length-i.1.1) ⟨(0,id),by simp,c⟩ ?_ λi=>?_
 ·dsimp only
  repeat' first|show Cn (.t _ _);exact Cn.t0|show Cn _;constructor|exact rfl
 obtain⟨⟨i,id⟩,hi,c⟩:=i
 simp only at hi c
 dsimp only
 by_cases o:b[k].lines.length<=i
 ·obtain rfl:i=b[k].lines.length:=by omega
  rw[List.take_length]
  repeat' first|show Cn (.r _ _ _);refine .rr ?_;(exact⟨id,rfl,c,rfl⟩);done|apply wZ;rfl|show Cn _;constructor|simp only[zql];omega|intro h;simp at h
 have e:i<b[k].lines.length:=by omega
 have a:=aC7 (m:=m) e
 have hp:=gV b[k].lines[i] m.by_ (p _ (zgm e))
 have g:=List.length_filterMap_le (λl=>ptP l m.by_) (b[k].lines.take i)
 rw[zlt]at g
 cases hx:ptP b[k].lines[i] m.by_ with
 |none=>
  rw[hx]at hp a;dsimp only at a;rw[List.append_nil]at a
  (repeat' first|refine⟨⟨(i+1,id),by simp only;omega,c⟩,?_,?_⟩;(dsimp only;rw[a])|apply wZ;rfl|show Cn _;constructor|exact rfl|apply hp|apply wY;rfl|apply wI;rfl|apply gE;omega|omega|simp only[zql];omega|intro h;simp at h)
 |some n=>
  rw[hx]at hp a;dsimp only at a;generalize(b[k].lines.take i).filterMap (λl=>ptP l m.by_)=G at*
  repeat' first|refine⟨⟨(i+1,j),by simp only;omega,cG d⟩,?_,?_⟩;(dsimp only;rw[a])|show Cn (.t _ _);exact .any (bI ‹_›)|apply wZ;rfl|show Cn _;constructor|exact rfl|apply hp|show _=_;(simp)|apply apV pk (f:=I1) [n] 8;(iterate 9 rfl);(exact aA _ _ _);(omega);exactλ_=>rfl;exactλ_=>rfl;exact kQ;(focus(simp;omega));(focus(simp;omega));rfl;intro j d|apply wY;rfl|apply wI;rfl|apply gE;omega|omega|simp only[zql];omega|intro h;simp at h
theorem aaG{b:Bs}{k:Nat}(hk:k<b.length)(m:Su)(c:∀l∈b[k].lines,eV l m.by_)(hl:b[k].lines.length<1000000000000):PF Tryz.prog 21 [.agg (bsC b),vi (k:Nat), .agg m.cells] (.seq ((gI b k m).map I1)):=λst=>by
 unfold gI
 rw[gJ hk]
 exact fD (sz:=1) (aB4 hk m c hl st) λp st' h=>by
  obtain⟨id,rfl,a,rfl⟩:=h
  exact .inl ⟨id,3,(b[k].lines.filterMap λl=>ptP l m.by_).map I1,_,st,aA _ _ _,auB,eQ (by simp),bU a,rfl,rfl⟩
theorem aDs{st:aD}{a id2:Nat}{o:AObj}(h:upd st a (some o) id2=none):st id2=none:=by
 by_cases e:id2=a
 ·subst e;rw[aA]at h;cases h
 ·rwa[aB e]at h
theorem aGx(n:Nat)(hl:n<1000000000000)(st:aD):PC Tryz.prog 44 [.val (.slice none 0 0),vi (n:Nat)] st λr S=>∃id,r= .vec id 1 0 0/\st id=none/\S=upd st id (some (.arr 3 [])):=by
 by_cases hn:n=0
 ·subst hn
  refine pC Tryz.func44 rfl ?_
  repeat' first|refine eC 4 3 1 rfl rfl rfl λid c=>?_;refine abJ ?_;exact Cn.any ⟨_,_,_,rfl,zwr _,zsr _,id,rfl,c,rfl⟩|apply wZ;rfl|show Cn _;constructor|apply aKW pk;rfl;rfl;rfl;rotate_left;rfl;rfl;rotate_left|omega
 have d:0<n:=by omega
 refine pC Tryz.func44 rfl ?_
 repeat' first|refine aG8 4 0 rfl (.inl (aA _ _ _)) auB (Nat.zero_le _) (by simp[aT];omega) λid2 b=>?_;refine abJ ?_;exact Cn.any ⟨_,_,upd st id2 (some (.arr 3 [])),rfl,zwr _,atB a rfl,id2,rfl,aDs b,rfl⟩|apply wZ;rfl|show Cn _;constructor|apply aKW pk;rfl;rfl;rfl;rotate_left;rfl;rfl;rotate_left|apply slN pk;(iterate 5 rfl);rotate_left;rfl;rfl;rotate_left|refine apN pk (m:=n) 8 rfl rfl rfl rfl rfl rfl rfl rfl d kQ (by omega) (by omega) (by decide) rfl λe a=>?_|apply aEq pk 0;(iterate 4 rfl);rotate_left;rfl;(intro _;exact aL rfl rfl);(intro _;omega);(intro _;omega);rfl|omega|intro h;simp at h
def sz2(a b:List Int)(i:Nat):Nat:=if i=0 then 0 else if i=1 then a.length else a.length+b.length
def aJm(a b:List Int)(i:Nat):List Int:=if i=0 then[]else if i=1 then a else a++b
theorem aA8(a b:List Int)(h:a.length+b.length<100000000000)(st:aD):PC Tryz.prog 20 [.seq [[.seq (a.map I1)],[.seq (b.map I1)]]] st λr S=>∃id,r= .vec id 1 0 (a.length+b.length)/\st id=none/\S=upd st id (some (.arr 3 ((a++b).map I1))):=by
 have j:(a.map I1).length=a.length:=zql _;have k:(b.map I1).length=b.length:=zql _;have hg:=aGx (a.length+b.length) (by omega) st;have z0:sz2 a b 0=0:=rfl;have z1:sz2 a b 1=a.length:=rfl;have z2:sz2 a b 2=a.length+b.length:=rfl;have c0:([[PV.seq (a.map I1)],[PV.seq (b.map I1)]]:List (List PV))[0]?=some [PV.seq (a.map I1)]:=rfl;have c1:([[PV.seq (a.map I1)],[PV.seq (b.map I1)]]:List (List PV))[1]?=some [PV.seq (b.map I1)]:=rfl;refine pC Tryz.func20 rfl ?_
 focus(repeat' first|apply wZ;rfl|show Cn _;constructor)
 refine aC (X:={x:Nat//x<=2}) (λi=>((((((St.nil 36 st).pv 0 (.seq [[.seq (a.map I1)],[.seq (b.map I1)]])).pv 3 (vi (sz2 a b i.1:Nat))).pv 9 (.seq [[.seq (a.map I1)],[.seq (b.map I1)]])).pv 10 (vi (2:Nat))).pv 11 (vi (i.1:Nat)))) (λi=>2-i.1) ⟨0,by omega⟩ ?_ λi=>?_
 ·repeat' first|show Cn _;constructor|exact rfl
 obtain⟨i,hi⟩:=i;dsimp only;rcases(show i=0\/i=1\/i=2 by omega)with rfl|rfl|rfl
 ·repeat' first|refine⟨⟨1,by omega⟩,?_,?_⟩;(dsimp only[sz2])|apply wZ;rfl|show Cn _;constructor|exact rfl|apply cL pk;(iterate 6 rfl);rotate_left;rfl;(intro hw;rfl);(intro hw;apply c0<;>omega);(intro _;rfl);rfl|show _=_;(simp;done)|omega|simp only[zql];omega
 ·repeat' first|refine⟨⟨2,by omega⟩,?_,?_⟩;(dsimp only[sz2])|apply wZ;rfl|show Cn _;constructor|exact rfl|apply cL pk;(iterate 6 rfl);rotate_left;rfl;(intro hw;rfl);(intro hw;apply c1<;>omega);(intro _;rfl);rfl|show _=_;(simp;done)|omega|simp only[zql];omega
 ·rw[z2]
  focus(repeat' first|apply wZ;rfl|show Cn _;constructor|apply aKA;rfl;rfl;exact hg;rfl;rfl;rfl;intro _ st' g;obtain⟨id,rfl,d,rfl⟩:=g)
  refine aC (X:={x:Nat×Nat//x.1<=2/\st x.2=none}) (λy=>(((((St.nil 36 (upd st y.1.2 (some (.arr 3 ((aJm a b y.1.1).map I1))))).pv 6 (.vec y.1.2 1 0 (sz2 a b y.1.1))).pv 25 (.seq [[.seq (a.map I1)],[.seq (b.map I1)]])).pv 26 (vi (2:Nat))).pv 27 (vi (y.1.1:Nat)))) (λy=>2-y.1.1) ⟨(0,id),by simp,d⟩ ?_ λy=>?_
  ·dsimp only
   repeat' first|show Cn (.t _ _);exact Cn.t0|show Cn _;constructor|exact rfl
  obtain⟨⟨y,id⟩,hy,d⟩:=y;simp only at hy d;dsimp only;rcases(show y=0\/y=1\/y=2 by omega)with rfl|rfl|rfl
  ·show PWp _ _ _ _
   repeat' first|refine⟨⟨(1,e),by simp only;omega,cG c⟩,?_,?_⟩;(dsimp only[sz2,aJm])|show Cn (.t _ _);exact .any (bI ‹_›)|apply wZ;rfl|show Cn _;constructor|exact rfl|apply cL pk;(iterate 6 rfl);rotate_left;rfl;(intro hw;rfl);(intro hw;apply c0<;>omega);(intro _;rfl);rfl|show _=_;(simp)|apply apV pk (f:=I1) a 8;(iterate 9 rfl);(exact aA _ _ _);(assumption);exactλ_=>rfl;exactλ_=>rfl;exact kQ;(omega);(omega);rfl;intro e c|omega|simp only[zql];omega
  ·show PWp _ _ _ _
   repeat' first|refine⟨⟨(2,e),by simp only;omega,cG c⟩,?_,?_⟩;(dsimp only[sz2,aJm])|show Cn (.t _ _);exact .any (bI ‹_›)|apply wZ;rfl|show Cn _;constructor|exact rfl|apply cL pk;(iterate 6 rfl);rotate_left;rfl;(intro hw;rfl);(intro hw;apply c1<;>omega);(intro _;rfl);rfl|apply apV pk (f:=I1) b 8;(iterate 9 rfl);(exact aA _ _ _);(assumption);exactλ_=>rfl;exactλ_=>rfl;exact kQ;(omega);(omega);rfl;intro e c|omega|simp only[zql];omega
  ·repeat' first|show Cn (.r _ _ _);refine .rr ?_;(exact⟨id,rfl,d,rfl⟩);done|apply wZ;rfl|show Cn _;constructor
def s4C(x:S4):List PV:=[vi x.1,vi x.2.1,vi x.2.2.1,vi x.2.2.2]
theorem aAa :Tryz.prog.bytesOf 32=32:=by kernel_rfl
theorem axZ :Tryz.prog.cellsOf 32=4:=by kernel_rfl
theorem lD{s:Sc}{b:Bs}(k y:Nat)(g:Int): -2199023255552000<=totC s b k y g/\totC s b k y g<=2199023255552000:=by
 unfold totC;split
 ·rename_i h
  obtain⟨a,e,c⟩:=h;rw[Int.toNat_natCast]at c⊢;rw[Int.toNat_natCast];have hk:k<s.length:=by omega
  rw[getElem!_pos s k hk]at c⊢;have hy:y<s[k].sums.length:=by omega
  rw[getElem!_pos s[k].sums y hy];have hg:bC T.rightP s b=true:=by
   unfold mayC at a;rw[zba]at a;exact a.2
  have hT:=vV hg hk (zgm hy);have hl:=hT.len;obtain⟨f,i⟩:=sI (m:=s[k].sums[y]) (g:=g) λr d=>(hT.num r d).1;omega
 ·omega
theorem iK{α β:Type}{f:α->List β}{c:Nat}:∀(l:List α),(∀a∈l,(f a).length<=c)->(l.flatMap f).length<=c*l.length
 |[],_=>by simp
 |a::l,h=>by
  have b:=iK l λx hx=>h x (List.mem_cons_of_mem _ hx)
  have d:=h a List.mem_cons_self
  rw[List.flatMap_cons,zla,zlc,Nat.mul_add]
  omega
theorem xN{s:Sc}{was is:Bs}(b:∀k:Int,(aF was k).length<=200)(c:∀k:Int,(aF is k).length<=200)(k i:Nat):(sumI s was is k i).length<=400:=by
 unfold sumI;have d:=List.length_filterMap_le (moreS s was is k i) (iU (gI was k s[k]!.sums[i]!++gI is k s[k]!.sums[i]!));have a:=zK (gI was k s[k]!.sums[i]!++gI is k s[k]!.sums[i]!);rw[zla]at a;have e:=List.length_filterMap_le (λl=>ptP l s[k]!.sums[i]!.by_) (aF was (k:Int));have f:=List.length_filterMap_le (λl=>ptP l s[k]!.sums[i]!.by_) (aF is (k:Int));have g:=b (k:Int);have h:=c (k:Int);unfold gI at d a⊢;omega
theorem ajH{α β:Type}{f:α->Option β}{L:List α}{i:Nat}(h:i<L.length):(L.take (i+1)).filterMap f=(L.take i).filterMap f++(match f L[i]with|none=>[]|some n=>[n]):=by
 rw[List.take_succ_eq_append_getElem h,List.filterMap_append]
 congr 1
theorem pE{β:Type}(f:Nat->List β)(i:Nat):(List.range (i+1)).flatMap f=(List.range i).flatMap f++f i:=by
 rw[List.range_succ,List.flatMap_append];simp
theorem akR{s:Sc}{b:Bs}(hb:bC T.rightP s b=true){k:Nat}(hk:k<s.length){m:Su}(hm:m∈s[k].sums):∀l∈(b[k]'(by have:=(aU.1 hb).1.2;omega)).lines,eV l m.by_:=λl hl=>by
 obtain⟨⟨a,c⟩,_⟩:=aU.1 hb
 have q:=aHW a hk hm
 exact aeC hb hk (u:=m.by_) ⟨by have:=q.b1;omega,by rw[getElem!_pos s k hk];exact q.b2,by rw[getElem!_pos s k hk];exact q.kb⟩ (by rw[gJ (by omega)];exact hl)
theorem axC :Wk (.val (.slice none 0 0)) (.seq (([]:List S4).map s4C)):=Wk.nil
theorem aHz{s:Sc}{was is:Bs}(m:CkB 200 s was)(o:CkB 200 s is)(F:bC T.rightP s was=true)(G:bC T.rightP s is=true)(st:aD):
  PC Tryz.prog 7 [.agg (scC s), .agg (bsC was), .agg (bsC is)] st λr S=>∃id,r= .vec id 4 0 ((List.range s.length).flatMap (sumK s was is)).length/\st id=none/\S=upd st id (some (.arr 32 (((List.range s.length).flatMap (sumK s was is)).map s4C))):=by
 have P:=fV m.bs m.hn m.sb m.len
 have Q:=fV o.bs o.hn o.sb o.len
 rw[F]at P
 rw[G]at Q
 obtain⟨⟨J,e1⟩,_⟩:=aU.1 F
 obtain⟨⟨_,e2⟩,_⟩:=aU.1 G
 have hsl:=jT J
 have hml:(s.map Tb.cells).length=s.length:=zql _
 have w:=λk:Int=>(m.bs.lines k).1
 have C:=λk:Int=>(o.bs.lines k).1
 have L:=λk i=>xN (s:=s) (was:=was) (is:=is) w C k i
 have hKl:∀k<s.length,(sumK s was is k).length<=6400:=λk hk=>by
  unfold sumK
  have:=iK (f:=sumI s was is k) (List.range s[k]!.sums.length) λi _=>L k i
  rw[List.length_range,getElem!_pos s k hk]at this
  have:=(lH J hk).2.2.2.2
  rw[getElem!_pos s k hk]
  omega
 have hOl:∀i≤s.length,((List.range i).flatMap (sumK s was is)).length<=6400*16:=λi hi=>by
  have:=iK (f:=sumK s was is) (List.range i) λk hk=>hKl k (by have:=List.mem_range.1 hk;omega)
  rw[List.length_range]at this
  omega
 refine pC Tryz.func7 rfl ?_
 focus(repeat' first|apply Cn.cf;focus(((first|apply P|apply Q));done)|apply wZ;rfl|show Cn _;constructor|apply wY;rfl)
 refine eC 7 32 4 rfl rfl rfl λid a=>?_
 refine aC (X:={x:Nat×Nat//x.1<=s.length/\st x.2=none}) (λi=>((((((((St.nil 88 (upd st i.1.2 (some (.arr 32 (((List.range i.1.1).flatMap (sumK s was is)).map s4C))))).var 3 24 (scC s)).var 4 27 (bsC was)).var 5 27 (bsC is)).pv 7 (.vec i.1.2 4 0 ((List.range i.1.1).flatMap (sumK s was is)).length)).pv 27 (.seq (s.map Tb.cells))).pv 28 (vi ((s.map Tb.cells).length:Nat))).pv 29 (vi (i.1.1:Nat)))) (λi=>s.length-i.1.1) ⟨(0,id),by simp,a⟩ ?_ λi=>?_
 ·dsimp only
  repeat' first|show Cn (.t _ _);exact Cn.t0|show Cn _;constructor|exact rfl
 obtain⟨⟨i,id⟩,hi,a⟩:=i
 simp only at hi a
 dsimp only
 by_cases hend:s.length<=i
 ·obtain rfl:i=s.length:=by omega
  repeat' first|show Cn (.r _ _ _);refine .rr ?_;(exact⟨id,rfl,a,rfl⟩);done|apply wZ;rfl|show Cn _;constructor|omega|intro h;simp at h
 have hk:i<s.length:=by omega
 have k1:i<was.length:=by omega
 have k2:i<is.length:=by omega
 have Y:=pE (sumK s was is) i
 have hO:=hOl i hi
 have hKi:sumK s was is i=(List.range s[i].sums.length).flatMap (sumI s was is i):=by unfold sumK;rw[getElem!_pos s i hk]
 have hsn:=(lH J hk).2.2.2.2
 have hSl:∀y≤s[i].sums.length,((List.range y).flatMap (sumI s was is i)).length<=6400:=λy hy=>by
  have:=iK (f:=sumI s was is i) (List.range y) λj _=>L i j
  rw[List.length_range]at this
  omega
 rw[hKi]at Y
 generalize(List.range i).flatMap (sumK s was is)=A at*
 focus(repeat' first|apply wZ;rfl|show Cn _;constructor|exact rfl|apply wI;rfl|apply gE;omega|omega|intro h;simp at h)
 refine aC (X:={x:Nat×Nat//x.1<=s[i].sums.length/\st x.2=none}) (λy=>((((((((((((St.nil 88 (upd st y.1.2 (some (.arr 32 ((A++(List.range y.1.1).flatMap (sumI s was is i)).map s4C))))).var 3 24 (scC s)).var 4 27 (bsC was)).var 5 27 (bsC is)).pv 7 (.vec y.1.2 4 0 (A++(List.range y.1.1).flatMap (sumI s was is i)).length)).pv 8 (vi (i:Nat))).pv 27 (.seq (s.map Tb.cells))).pv 28 (vi ((s.map Tb.cells).length:Nat))).pv 29 (vi (i:Nat))).pv 35 (.seq (s[i].sums.map Su.cells))).pv 36 (vi ((s[i].sums.map Su.cells).length:Nat))).pv 37 (vi (y.1.1:Nat)))) (λy=>s[i].sums.length-y.1.1) ⟨(0,id),by simp,a⟩ ?_ λy=>?_
 ·dsimp only
  rw[show A++(List.range 0).flatMap (sumI s was is i)=A from by simp]
  repeat' first|show Cn (.t _ _);exact Cn.t0|show Cn _;constructor|exact rfl
 obtain⟨⟨y,id⟩,hy,a⟩:=y
 simp only at hy a
 dsimp only
 by_cases hend1:s[i].sums.length<=y
 ·obtain rfl:y=s[i].sums.length:=by omega
  repeat' first|refine⟨⟨(i+1,id),by simp only;omega,a⟩,?_,?_⟩;(dsimp only;rw[Y])|apply wZ;rfl|show Cn _;constructor|exact rfl|omega|simp only[zql];omega|intro h;simp at h
 have K:y<s[i].sums.length:=by omega
 have v:=pE (sumI s was is i) y
 have hA:=hSl y hy
 have hDl:(iU (gI was i s[i].sums[y]++gI is i s[i].sums[y])).length<=400:=by
  have q2:=zK (gI was i s[i].sums[y]++gI is i s[i].sums[y]);rw[zla]at q2;have q3:=List.length_filterMap_le (λl=>ptP l s[i].sums[y].by_) (aF was (i:Int));have q4:=List.length_filterMap_le (λl=>ptP l s[i].sums[y].by_) (aF is (i:Int));have q5:=w (i:Int);have q6:=C (i:Int);unfold gI at q2⊢;omega
 have hIi:sumI s was is i y=(iU (gI was i s[i].sums[y]++gI is i s[i].sums[y])).filterMap (moreS s was is i y):=by unfold sumI;rw[getElem!_pos s i hk,getElem!_pos s[i].sums y K]
 rw[hIi]at v
 have hg1:=aaG k1 s[i].sums[y] (akR F hk (zgm K)) (by have:=(m.bs.2 _ (zgm k1)).1;omega)
 have hg2:=aaG k2 s[i].sums[y] (akR G hk (zgm K)) (by have:=(o.bs.2 _ (zgm k2)).1;omega)
 have hgl1:(gI was i s[i].sums[y]).length<=200:=by
  have q3:=List.length_filterMap_le (λl=>ptP l s[i].sums[y].by_) (aF was (i:Int));have q5:=w (i:Int);unfold gI;omega
 have hgl2:(gI is i s[i].sums[y]).length<=200:=by
  have q3:=List.length_filterMap_le (λl=>ptP l s[i].sums[y].by_) (aF is (i:Int));have q5:=C (i:Int);unfold gI;omega
 generalize(List.range y).flatMap (sumI s was is i)=B at*
 generalize gI was i s[i].sums[y]=d at*
 generalize gI is i s[i].sums[y]=g at*
 have M:=aA8 d g (by omega) (upd st id (some (.arr 32 ((A++B).map s4C))))
 have I:=aGu (d++g)
 have O:((d++g).mergeSort λx y=>decide (x<=y)).toArray.size=d.length+g.length:=by simp
 rw[zla]at I
 generalize hD:iU (d++g)=D at*
 focus(repeat' first|apply wD pk [9] [];kernel_rfl;rfl;rfl|apply wY;rfl;rotate_left;apply Cn.cf;focus(((first|apply hg1|apply hg2));done)|apply wY;rfl;rotate_left;apply cP;rfl;(apply M);rintro _ st' (⟨ida,rfl,hida,rfl⟩)|apply wZ;rfl|show Cn _;constructor|exact rfl|apply wI;rfl|apply gE;omega|simp only[zql];omega|intro h;simp at h)
 have R:((d++g).mergeSort λx y=>decide (x<=y)).length=d.length+g.length:=by simp
 have U:=aiQ (d++g) (st:=upd (upd st id (some (.arr 32 ((A++B).map s4C)))) ida (some (.arr 3 ((d++g).map I1)))) (id:=ida) (n:=d.length+g.length) (aA _ _ _) (by simp) (by omega)
 have H:=arU ((d++g).mergeSort λx y=>decide (x<=y)).toArray (st:=upd (upd (upd st id (some (.arr 32 ((A++B).map s4C)))) ida (some (.arr 3 ((d++g).map I1)))) ida (some (.arr 3 (((d++g).mergeSort λx y=>decide (x<=y)).map I1)))) (id:=ida) (n:=d.length+g.length) (aA _ _ _) O (by omega)
 rw[I]at H
 clear I O R
 generalize((d++g).mergeSort λx y=>decide (x<=y))=Z at*
 focus(repeat' first|apply cP;rfl;(apply U);rintro _ st' (rfl)|apply cP;rfl;(apply H);rintro _ st' (⟨rfl,rows,rfl,hrl,hrt⟩)|apply wZ;rfl|show Cn _;constructor|apply wY;rfl)
 have c:upd st id (some (.arr 32 ((A++B).map s4C))) ida=none:=hida
 have u:StSub (upd st id (some (.arr 32 ((A++B++(D.take 0).filterMap (moreS s was is i y)).map s4C)))) (upd (upd (upd (upd (upd st id (some (.arr 32 ((A++B).map s4C)))) ida (some (.arr 3 ((d++g).map I1)))) ida (some (.arr 3 (Z.map I1)))) ida (some (.arr 3 rows))) ida none):=by
  have e0:(A++B++(D.take 0).filterMap (moreS s was is i y))=A++B:=by simp
  rw[e0];exact aR (aR (aR (aR (zsr _) c) c) c) c
 refine anW 55 rfl (aA _ _ _) auB hrt ?_
 refine aC (X:={x:Nat×Nat//x.1<=D.length/\st x.2=none}) (λz=>((((((((((((((((St.nil 88 (upd st z.1.2 (some (.arr 32 ((A++B++(D.take z.1.1).filterMap (moreS s was is i y)).map s4C))))).var 3 24 (scC s)).var 4 27 (bsC was)).var 5 27 (bsC is)).pv 7 (.vec z.1.2 4 0 (A++B++(D.take z.1.1).filterMap (moreS s was is i y)).length)).pv 8 (vi (i:Nat))).pv 10 (vi (y:Nat))).pv 27 (.seq (s.map Tb.cells))).pv 28 (vi ((s.map Tb.cells).length:Nat))).pv 29 (vi (i:Nat))).pv 35 (.seq (s[i].sums.map Su.cells))).pv 36 (vi ((s[i].sums.map Su.cells).length:Nat))).pv 37 (vi (y:Nat))).pv 55 (.seq (D.map I1))).pv 56 (vi (D.length:Nat))).pv 57 (vi (z.1.1:Nat)))) (λz=>D.length-z.1.1) ⟨(0,id),by simp,a⟩ ?_ λz=>?_
 ·dsimp only
  repeat' first|exact .any u|show Cn _;constructor|exact rfl|simp
 clear u c hrt hrl U H
 obtain⟨⟨z,id⟩,hz,a⟩:=z
 simp only at hz a
 dsimp only
 have hll:=List.length_filterMap_le (moreS s was is i y) (D.take z)
 rw[zlt]at hll
 by_cases hend2:D.length<=z
 ·obtain rfl:z=D.length:=by omega
  rw[List.take_length,List.append_assoc,<-v]
  repeat' first|refine⟨⟨(y+1,id),by simp only;omega,a⟩,?_,?_⟩;(dsimp only)|apply wZ;rfl|show Cn _;constructor|exact rfl|omega|simp only[zql];omega|intro h;simp at h
 have hzl:z<D.length:=by omega
 have V:=pQ o (i:Int) (y:Int) D[z]
 have W:=pQ m (i:Int) (y:Int) D[z]
 obtain⟨b1,b2⟩:=lD (s:=s) (b:=is) i y D[z]
 obtain⟨b3,b4⟩:=lD (s:=s) (b:=was) i y D[z]
 have p:=ajH (f:=moreS s was is i y) hzl
 by_cases q:totC s is (i:Int) (y:Int) D[z]-totC s was (i:Int) (y:Int) D[z]≠0
 ·have e:moreS s was is i y D[z]=some ((i:Int),(y:Int),D[z],totC s is (i:Int) (y:Int) D[z]-totC s was (i:Int) (y:Int) D[z]):=by unfold moreS;rw[zp q]
  rw[e]at p;dsimp only at p;generalize totC s is (i:Int) (y:Int) D[z]=V1 at*;generalize totC s was (i:Int) (y:Int) D[z]=V2 at*;generalize(D.take z).filterMap (moreS s was is i y)=E at*
  repeat' first|refine⟨⟨(z+1,id'),by simp only;omega,cG N⟩,?_,?_⟩;(dsimp only;rw[p,<-List.append_assoc])|show Cn (.t _ _);exact .any (bI ‹_›)|apply wZ;rfl|show Cn _;constructor|exact rfl|apply KR.mk;kernel_rfl|(first|apply V|apply W)|show _=_;(simp;omega)|apply apV pk (f:=s4C) [((i:Int),(y:Int),D[z],V1-V2)] 32;(iterate 9 rfl);(exact aA _ _ _);(omega);exactλ_=>rfl;exactλ_=>rfl;exact aAa;(focus(simp;omega));(focus(simp;omega));rfl;intro id' N|apply wY;rfl|apply wI;rfl|apply gE;omega|omega|simp only[zql];omega|intro h;simp at h|intro h
 ·have e:moreS s was is i y D[z]=none:=by unfold moreS;rw[zn q]
  rw[e]at p;dsimp only at p;rw[List.append_nil]at p;have q:=zdn q;generalize totC s is (i:Int) (y:Int) D[z]=V1 at*;generalize totC s was (i:Int) (y:Int) D[z]=V2 at*
  repeat' first|refine⟨⟨(z+1,id),by simp only;omega,a⟩,?_,?_⟩;(dsimp only;rw[p])|apply wZ;rfl|show Cn _;constructor|exact rfl|apply KR.mk;kernel_rfl|(first|apply V|apply W)|apply wY;rfl|apply wI;rfl|apply gE;omega|omega|simp only[zql];omega|intro h;simp at h|intro h
theorem afZ{s:Sc}{was is:Bs}(a:CkB 200 s was)(b:CkB 200 s is):PF Tryz.prog 7 [.agg (scC s), .agg (bsC was), .agg (bsC is)] (.seq ((sumsP s was is).map s4C)):=by
 unfold sumsP;by_cases hb:bC T.rightP s was=true/\bC T.rightP s is=true
 ·rw[zp hb]
  exactλst=>fD (sz:=4) (aHz a b hb.1 hb.2 st) λp st' h=>by
   obtain⟨id,rfl,e,rfl⟩:=h
   exact .inl ⟨id,32,((List.range s.length).flatMap (sumK s was is)).map s4C,_,st,aA _ _ _,axZ,eQ (by simp),bU e,rfl,rfl⟩
 ·rw[zn hb]
  have c:=fV a.bs a.hn a.sb a.len;have d:=fV b.bs b.hn b.sb b.len;generalize bC T.rightP s was=X at*;generalize bC T.rightP s is=Y at*;refine pF Tryz.func7 rfl λst=>?_
  repeat' first|exact Cn.any ⟨_,_,_,rfl,axC,zsr _,rfl,rfl⟩|apply wZ;rfl|show Cn _;constructor|(first|apply c|apply d)|apply wY;rfl|exfalso;simp_all;done|intro h;simp at h
end
end Go.Proofs.YtnogfoojjaainaaGreatDoor
