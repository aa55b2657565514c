import Derived.Test.YtfablfldonhkiaaGreatDoorClAv
import Derived.Test.YtfablfldonhkiaaGreatDoorClAk
import Derived.Test.YtfablfldonhkiaaGreatDoorClAm
set_option linter.unusedSimpArgs false
set_option linter.unusedVariables false
namespace Go.Proofs.YtfablfldonhkiaaGreatDoor.T
open Go Go.Abs
section
attribute [local irreducible] Ev PWp
set_option maxRecDepth 10000
set_option maxHeartbeats 4000000
def aDk (l:List Pt) (i:Nat) (h:i<l.length):Prop:=
 bL l[i]=true/\atP l (aG l[i])=i/\(∀k (hk:k<i),(l[k]'(by omega)).dot=l[i].dot->(l[k]'(by omega)).time=l[i].time)/\
  (l[i].after=Dt.zero\/∃u,∃hu:u<l.length,l.findIdx? (λp=>decide (aG p=aH l[i]))=some u/\dO l[u] l[i]=true)
theorem gJ {l:List Pt} (hn:(l.map aG).Nodup) {i:Nat} (h:i<l.length):atP l (aG l[i])=i:=by
 have:l.findIdx? (λp=>decide (aG p=aG l[i]))=some i:=lK h (by simp) λj hj a=>by
  rw [decide_eq_false_iff_not]
  intro e
  have:=(List.pairwise_iff_getElem.1 hn) j i (by simpa using a) (by simpa using h) hj
  simp only [List.getElem_map] at this
  exact this e
 rw [atP,this]
theorem adH {p:Pt} (h:bL p=true):p.after=Dt.zero↔aH p=Nm.zero:=by
 have a:aH p=Nm.zero\/mayN (aH p)=true:=by
  simp only [bL,zba,Bool.or_eq_true,zde] at h;exact h.2
 constructor
 ·intro e
  rcases a with a|a
  ·exact a
  ·simp only [mayN,withinB,zba,zde] at a
   have:=a.1.1.1;rw [show (aH p).dot=p.after from rfl,e] at this;have b:(1:Int)<=0:=this;omega
 ·intro e;exact congrArg Nm.dot e
theorem aeC {l:List Pt}:Whole l↔∀i (h:i<l.length),aDk l i h:=by
 constructor
 ·intro a i h
  refine ⟨a.formed _ (zgm h),gJ a.nodup h,λk hk e=>a.times _ (zgm _) _ (zgm h) e, ?_⟩;rcases a.up _ (zgm h) with e|⟨u,hu,e,ha⟩
  ·exact .inl ((adH (a.formed _ (zgm h))).2 e)
  ·right
   obtain ⟨j,hj,rfl⟩:=zgo hu;refine ⟨j,hj, ?_,ha⟩;have:=gJ a.nodup hj;rw [atP,e] at this;split at this
   ·rename_i j' f;rw [f];congr 1;omega
   ·omega
 ·intro H
  have m:(l.map aG).Nodup:=by
   rw [List.Nodup,List.pairwise_iff_getElem];intro i j hi hj c;simp only [zql] at hi hj;simp only [List.getElem_map];intro e;have b:=(H j hj).2.1;rw [atP,<-e] at b;split at b
   ·rename_i k hk
    have g:k=j:=by omega
    subst g;have:=(List.findIdx?_eq_some_iff_getElem.1 hk).2.2 i c;simp at this
   ·omega
  refine ⟨⟨λp hp=> ?_,m,λp hp q hq e=> ?_⟩,λp hp=> ?_⟩
  ·obtain ⟨i,hi,rfl⟩:=zgo hp;exact (H i hi).1
  ·obtain ⟨i,hi,rfl⟩:=zgo hp
   obtain ⟨j,hj,rfl⟩:=zgo hq;rcases Nat.lt_trichotomy i j with h|h|h
   ·exact (H j hj).2.2.1 i h e
   ·subst h;rfl
   ·exact ((H i hi).2.2.1 j h e.symm).symm
  ·obtain ⟨i,hi,rfl⟩:=zgo hp
   rcases (H i hi).2.2.2 with e|⟨u,hu,b,n⟩
   ·exact .inl ((adH (H i hi).1).1 e)
   ·right
    obtain ⟨v,o,_⟩:=List.findIdx?_eq_some_iff_getElem.1 b;exact ⟨l[u],zgm hu,by simpa using o,n⟩
theorem aDZ {l:List Pt} {i:Nat} (h:i<l.length) (hn:¬aDk l i h):eZ l=false:=by
 rw [<-Bool.not_eq_true,eE,aeC];exact λH=>hn (H i h)
theorem rL (l:List Pt) (hl:l.length<1000000000000):PF Tryz.prog 265 [.seq (l.map Pt.cells)] (vb (eZ l)):=by
 refine pF Tryz.func265 rfl (λst=> ?_)
 (repeat' first|apply wZ;rfl|show Cn _;constructor)
 refine aC (X:={x:Nat//x<=l.length/\∀j (h:j<x) (h2:j<l.length),aDk l j h2}) (λi=>(((St.nil 122 st).pv 0 (.seq (l.map Pt.cells))).pv 3 ((vi ((i.1:Nat)))))) (λi=>l.length-i.1) ⟨0,by omega,by omega⟩ ?_ (λi=> ?_)
 ·(repeat' first|show Cn _;constructor|exact rfl)
 obtain ⟨i,hi,hinv⟩:=i
 dsimp only
 by_cases him:i<l.length
 ·have hn:=λh=>aDZ him h
  have hz:(l[i]'him).after=Dt.zero↔(l[i]'him).after.dev=0/\(l[i]'him).after.seq=0:=Dt.ext_iff _ _
  have hsucc:aDk l i him->∀j (h:j<i+1) (h2:j<l.length),aDk l j h2:=λho j h1 h2=>by
   rcases zls.1 h1 with q|q
   ·exact hinv j q h2
   ·subst q;exact ho
  have hat:=uV l (l[i]'him).dot (l[i]'him).at_ hl
  have hup:=uV l (l[i]'him).after (l[i]'him).afterAt hl
  (repeat' first|apply wZ;rfl|show Cn _;constructor|exact rfl|apply KR.mk;kernel_rfl|((first|apply (ajG (l[i]'him))|apply hat))|show (_:PV)=_;((rw [hn (λq=>by have h1:=q.1;have h2:atP l ⟨l[i].dot,l[i].at_⟩=i:=q.2.1;grind)];done));done|apply wY;rfl|apply wI;rfl|apply gE;omega|simp only [zql];omega|(intro h;simp at h))
  have hf:bL (l[i]'him)=true/\atP l (aG (l[i]'him))=i:=h
  refine aC (X:={k:Nat//k<=i/\∀m (hm:m<k) (hml:m<l.length),(l[m]'hml).dot=(l[i]'him).dot->(l[m]'hml).time=(l[i]'him).time}) (λy=>((((St.nil 122 st).pv 0 (.seq (l.map Pt.cells))).pv 3 ((vi ((i:Nat))))).pv 5 ((vi ((y.1:Nat)))))) (λy=>i-y.1) ⟨0,by omega,by omega⟩ ?_ (λy=> ?_)
  ·(repeat' first|show Cn _;constructor|exact rfl)
  obtain ⟨k,hk,hkinv⟩:=y
  dsimp only
  have hkl:k<l.length\/¬k<i:=by omega
  by_cases hki:k<i
  ·have hkl:k<l.length:=by omega
   have hd:=Dt.ext_iff (l[k]'hkl).dot (l[i]'him).dot
   (repeat' first|(refine ⟨⟨k+1,by omega,λm h1 h2=>by rcases zls.1 h1 with q|q;exact hkinv m q h2;subst q;grind⟩, ?_, ?_⟩)|apply wZ;rfl|show Cn _;constructor|exact rfl|apply KR.mk;kernel_rfl|show (_:PV)=_;((rw [hn (λq=>by have h1:=q.2.2.1 k hki;grind)];done));done|apply wI;rfl|apply gE;omega|omega|simp only [zql];omega|(intro h;simp at h))
  ·have ht:∀m (hm:m<i),(l[m]'(by omega)).dot=(l[i]'him).dot->(l[m]'(by omega)).time=(l[i]'him).time:=λm hm=>hkinv m (by omega) (by omega)
   cases hI:l.findIdx? (λp=>decide (aG p=aH (l[i]'him))) with
   |none=>
    have e:atP l ⟨(l[i]'him).after,(l[i]'him).afterAt⟩= -1:=by rw [atP,show (⟨(l[i]'him).after,(l[i]'him).afterAt⟩:Nm)=aH (l[i]'him) from rfl,hI]
    rw [e] at hup
    (repeat' first|(refine ⟨⟨i+1,by omega,hsucc ⟨hf.1,hf.2,ht, .inl (hz.2 (by grind))⟩⟩, ?_, ?_⟩)|apply wZ;rfl|show Cn _;constructor|exact rfl|apply KR.mk;kernel_rfl|(apply hup)|show (_:PV)=_;((rw [hn (λq=>by rcases q.2.2.2 with q|⟨u,hu,q,_⟩;(rw [hz] at q;grind);(rw [hI] at q;cases q))];done));done|apply wY;rfl|apply wI;rfl|apply gE;omega|omega|simp only [zql];omega|(intro h;simp at h))
   |some u=>
    have e:atP l ⟨(l[i]'him).after,(l[i]'him).afterAt⟩=(u:Int):=by rw [atP,show (⟨(l[i]'him).after,(l[i]'him).afterAt⟩:Nm)=aH (l[i]'him) from rfl,hI]
    rw [e] at hup
    obtain ⟨hul,_,_⟩:=List.findIdx?_eq_some_iff_getElem.1 hI
    have hS:=Sp.ext_iff (aN (l[u]'hul)) (aN (l[i]'him))
    have ha:dO (l[u]'hul) (l[i]'him)=(gI (aN (l[u]'hul)) (aN (l[i]'him))||(decide (aN (l[u]'hul)=aN (l[i]'him))&&decide ((l[u]'hul).at_<(l[i]'him).at_))):=rfl
    (repeat' first|((first|refine ⟨⟨i+1,by omega,hsucc ⟨hf.1,hf.2,ht, .inl (hz.2 (by grind))⟩⟩, ?_,by simp only;omega⟩|refine ⟨⟨i+1,by omega,hsucc ⟨hf.1,hf.2,ht, .inr ⟨u,hul,hI,by rw [ha];grind⟩⟩⟩, ?_,by simp only;omega⟩);focus ((repeat' first|show Cn _;constructor|exact rfl);done))|apply wZ;rfl|show Cn _;constructor|exact rfl|apply KR.mk;kernel_rfl|((first|apply hup|apply (mJ (l[u]'hul))|apply (mJ (l[i]'him))|apply (oP (aN (l[u]'hul)) (aN (l[i]'him)))))|show (_:PV)=_;((rw [hn (λq=>by rcases q.2.2.2 with q|⟨u',hu',q,q2⟩;(rw [hz] at q;grind);(rw [hI] at q;injection q with q;subst q;rw [ha] at q2;grind))];done));done|apply wY;rfl|apply wI;rfl|apply gE;omega|omega|(intro h;simp at h))
 ·(repeat' first|apply wZ;rfl|show Cn _;constructor|exact rfl|show (_:PV)=_;(rw [(eE l).2 (aeC.2 λj h=>hinv j (by omega) h)]);done|simp only [zql];omega|(intro h;simp at h))
theorem Anc.pre {l:List Pt} {p:Pt} {s:List Pt} (h:Anc l p s):∀(c:Nat) (hc:c<s.length),Anc l s[c] (s.take (c+1)):=by
 induction h with
 |root hp h0=>
  intro c hc;have:c=0:=by simpa using hc
  subst this;exact .root hp h0
 | @step p u r hp hu e h0 h ih=>
  intro c hc;by_cases a:c<r.length
  ·have:=ih c a
   rw [List.getElem_append_left a,List.take_append_of_le_length (by omega)];exact this
  ·have:c=r.length:=by simp at hc;omega
   subst this;rw [ztl (by simp)];simp only [List.getElem_append_right (Nat.le_refl _),Nat.sub_self,List.getElem_singleton];exact .step hp hu e h0 h
theorem Anc.par {l:List Pt} {p:Pt} {s:List Pt} (h:Anc l p s):∀(c:Nat) (hc:c<s.length),(c=0->aH s[c]=Nm.zero)/\∀(h0:0<c),aH s[c]=aG (s[c-1]'(by omega))/\aH s[c]≠Nm.zero:=by
 intro c hc;have g:=h.pre c hc;generalize i:s.take (c+1)=t at g;have a:t.length=c+1:=by rw [<-i,zlt];omega
 have hq:s[c]=s[c]:=rfl;cases g with
 |root _ h0=>exact ⟨λ_=>h0,λf=>by simp at a;omega⟩
 | @step _ u r hp hu e h0 h'=>
  simp only [zla,List.length_singleton] at a;refine ⟨λf=> ?_,λf=>⟨?_,h0⟩⟩
  ·subst f
   obtain ⟨q,hq⟩:=h'.last;rw [hq] at a;simp at a
  ·rw [<-e]
   obtain ⟨q,hq⟩:=h'.last;have j:r[c-1]?=some u:=by rw [hq,List.getElem?_append_right (by rw [hq] at a;simp at a;omega)];rw [hq] at a;simp at a;simp [show c-1-q.length=0 by omega]
   have b:(s.take (c+1))[c-1]?=some u:=by rw [i,List.getElem?_append_left (by omega)];exact j
   rw [List.getElem?_take,zp (by omega),zgg (by omega)] at b;injection b with b
   rw [b]
theorem aC4 :∀{s t:List Pt} (c:Nat) (hs:c<s.length) (ht:c<t.length),s.take c=t.take c->s[c]≠t[c]->(gD s t↔eV s[c] t[c])
 |[],_,_,hs,_,_,_=>by simp at hs
 |_::_,[],_,_,ht,_,_=>by simp at ht
 |a::s,b::t,0,_,_,_,h=>by
  simp only [List.getElem_cons_zero] at h⊢
  simp only [gD];constructor
  ·rintro (⟨e,_⟩|e)
   ·exact absurd e h
   ·exact e
  ·exact .inr
 |a::s,b::t,c+1,hs,ht,he,h=>by
  simp only [List.take_succ_cons,List.cons.injEq] at he
  simp only [List.getElem_cons_succ] at h⊢
  have:=aC4 c (by simpa using hs) (by simpa using ht) he.2 h
  simp only [gD]
  rw [<-this,he.1]
  constructor
  ·rintro (⟨_,k⟩|k)
   ·exact k
   ·exact absurd k (xU b)
  ·exact λk=> .inl ⟨rfl,k⟩
theorem awB :∀{s t:List Pt},(∃m,s.take m=t.take m/\(m=s.length/\m<=t.length\/m=t.length/\m<=s.length))->(gD s t↔s.length<t.length)
 |[],[],_=>by simp [gD]
 |[],b::t,_=>by simp [gD]
 |a::s,[],_=>by simp [gD]
 |a::s,b::t,⟨m,he,hm⟩=>by
  cases m with
  |zero=>simp at hm
  |succ m=>
   simp only [List.take_succ_cons,List.cons.injEq] at he;simp only [zlc] at hm⊢;have:=awB (s:=s) (t:=t) ⟨m,he.2,by omega⟩;simp only [gD,he.1];constructor
   ·rintro (⟨_,k⟩|k)
    ·have:=this.1 k;omega
    ·exact absurd k (xU b)
   ·intro k;exact .inl ⟨trivial,this.2 (by omega)⟩
theorem anA {l:List Pt} (hn:(l.map aG).Nodup) {i j:Nat} (hi:i<l.length) (hj:j<l.length) (e:l[i]=l[j]):i=j:=by
 have a:=gJ hn hi;have b:=gJ hn hj;rw [e,b] at a;omega
theorem Anc.len {l:List Pt} (b:Whole l) {p:Pt} {s:List Pt} (h:Anc l p s):s.length<=(l.filter λq=>dO q p).length+1:=by
 induction h with
 |root=>simp
 | @step p u r hp hu e h0 h ih=>
  rw [zla,List.length_singleton];obtain ⟨v,hv,c,ha⟩:=(b.up p hp).resolve_left h0;have:u=v:=b.named u hu v hv (by rw [e,c]);subst this;have:=rU (f:=λq=>dO q u) (g:=λq=>dO q p) (a:=u) hu ha (by rw [<-Bool.not_eq_true,iW];omega) λq _ hq=>by
   rw [iW] at ha hq⊢;omega
  omega
theorem Anc.le {l:List Pt} (a:Whole l) {p:Pt} {s:List Pt} (h:Anc l p s):s.length<=l.length+1:=by
 have:=h.len a;have:=List.length_filter_le (λq=>dO q p) l;omega
theorem zY {l:List Pt} (g:Whole l) (hl:l.length<1000000000000) {i:Nat} (hi:i<l.length) {s:List Pt} (hs:Anc l (l[i]'hi) s):PF Tryz.prog 336 [.seq (l.map Pt.cells),(vi ((i:Nat)))] (vi ((s.length:Int)-1)):=by
 have w:=hs.le g;refine pF Tryz.func336 rfl (λst=> ?_)
 (repeat' first|apply wZ;rfl|show Cn _;constructor)
 refine aC (X:={x:Nat×List Pt×Nat//(∃h:x.1<l.length,Anc l l[x.1] x.2.1)/\x.2.1.length+x.2.2=s.length}) (λi=>((((St.nil 28 st).pv 0 (.seq (l.map Pt.cells))).pv 1 ((vi ((i.1.1:Nat))))).pv 5 ((vi ((i.1.2.2:Nat)))))) (λi=>s.length-i.1.2.2) ⟨(i,s,0),⟨hi,hs⟩,by simp⟩ ?_ (λi=> ?_)
 ·(repeat' first|show Cn _;constructor|exact rfl)
 obtain ⟨⟨j,t,n⟩,⟨hj,f⟩,a⟩:=i;simp only at hj f a;dsimp only;have hz:(l[j]'hj).after=Dt.zero↔(l[j]'hj).after.dev=0/\(l[j]'hj).after.seq=0:=Dt.ext_iff _ _;have o:=adH (g.formed _ (zgm hj));have c:=uV l (l[j]'hj).after (l[j]'hj).afterAt hl;generalize hq:l[j]'hj=q at f;cases f with
 |root hp h0=>
  obtain ⟨y,z⟩:=hz.1 (o.2 (by rw [hq];exact h0));simp only [List.length_singleton] at a;have b:(n:Int)=(s.length:Int)-1:=by omega
  (repeat' first|apply wZ;rfl|show Cn _;constructor|exact rfl|show (_:PV)=_;(rw [b]);done|apply wI;rfl|apply gE;omega|intro h;simp at h;omega|(intro h;simp at h))
 | @step _ u r hp hu e h0 h=>
  obtain ⟨k,hk,rfl⟩:=zgo hu;have m:=gJ g.nodup hk;have v:(l[j]'hj).after.dev≠0\/(l[j]'hj).after.seq≠0:=by
   have:¬(l[j]'hj).after=Dt.zero:=by rw [o,hq];exact h0
   rw [hz] at this;omega
  rw [show (⟨(l[j]'hj).after,(l[j]'hj).afterAt⟩:Nm)=aH (l[j]'hj) from rfl,hq,<-e,m,<-hq] at c;simp only [zla,List.length_singleton] at a;have p:=h
  (repeat' first|(refine ⟨⟨(k,r,n+1),⟨hk,p⟩,by simp only;omega⟩, ?_, ?_⟩)|apply wZ;rfl|show Cn _;constructor|exact rfl|apply KR.mk;kernel_rfl|(apply c)|apply wY;rfl|apply wI;rfl|apply gE;omega|omega|simp only [zql];omega|intro h;simp at h;omega|(intro h;simp at h))
theorem aEN {l:List Pt} (o:Whole l) (hl:l.length<1000000000000) {i:Nat} (hi:i<l.length) {s:List Pt} (hs:Anc l (l[i]'hi) s) (m:Nat) (hm:m<s.length) (j:Nat) (hj:j<l.length) (e:s[s.length-1-m]'(by omega)=l[j]):PF Tryz.prog 337 [.seq (l.map Pt.cells),(vi ((i:Nat))),(vi ((m:Nat)))] (vi ((j:Nat))):=by
 have w:=hs.le o;refine pF Tryz.func337 rfl (λst=> ?_)
 (repeat' first|apply wZ;rfl|show Cn _;constructor)
 refine aC (X:={x:Nat×Nat//(∃h:x.1<l.length,l[x.1]=s[s.length-1-x.2]'(by omega))/\x.2<=m}) (λi=>(((((St.nil 26 st).pv 0 (.seq (l.map Pt.cells))).pv 1 ((vi ((i.1.1:Nat))))).pv 2 ((vi ((m:Nat))))).pv 7 ((vi ((i.1.2:Nat)))))) (λi=>m-i.1.2) ⟨(i,0),⟨hi,by obtain ⟨r,v⟩:=hs.last;simp [v]⟩,by simp⟩ ?_ (λi=> ?_)
 ·(repeat' first|show Cn _;constructor|exact rfl)
 obtain ⟨⟨k,n⟩,⟨hk,g⟩,hn⟩:=i;simp only at hk g hn;dsimp only;have b:=uV l (l[k]'hk).after (l[k]'hk).afterAt hl;by_cases u:n<m
 ·obtain ⟨q,y⟩:=(hs.par (s.length-1-n) (by omega)).2 (by omega)
  have f:=hs.all _ (zgm (show s.length-1-n-1<s.length by omega));obtain ⟨k2,c,a⟩:=zgo f;have p:=gJ o.nodup c;rw [show (⟨(l[k]'hk).after,(l[k]'hk).afterAt⟩:Nm)=aH (l[k]'hk) from rfl,g,q,<-a,p] at b;rw [<-g] at b
  (repeat' first|(refine ⟨⟨(k2,n+1),⟨c,by simp only [a];congr 1⟩,by simp only;omega⟩, ?_, ?_⟩)|apply wZ;rfl|show Cn _;constructor|exact rfl|apply KR.mk;kernel_rfl|(apply b)|apply wY;rfl|apply wI;rfl|apply gE;omega|omega|simp only [zql];omega|(intro h;simp at h))
 ·have:n=m:=by omega
  subst this;obtain rfl:k=j:=anA o.nodup hk hj (by rw [g,e])
  (repeat' first|apply wZ;rfl|show Cn _;constructor|exact rfl|omega|(intro h;simp at h))
theorem avS {l:List Pt} (a:Whole l) (hl:l.length<1000000000000) {i:Nat} (hi:i<l.length) {s:List Pt} (hs:Anc l (l[i]'hi) s) (m:Nat) (hm:m<s.length) (j:Nat) (hj:j<l.length) (e:s[s.length-1-m]'(by omega)=l[j]) {x:Int} (hx:x=m):PF Tryz.prog 337 [.seq (l.map Pt.cells),(vi ((i:Nat))),(vi (x))] (vi ((j:Nat))):=by
 subst hx;exact aEN a hl hi hs m hm j hj e
theorem Anc.eqTake {l:List Pt} (hn:named l) {p q:Pt} {s t:List Pt} (hs:Anc l p s) (ht:Anc l q t) {c:Nat} (a:c<s.length) (b:c<t.length) (e:s[c]=t[c]):s.take (c+1)=t.take (c+1):=
 (hs.pre c a).fn hn (e▸ht.pre c b)
theorem aA0 {l:List Pt} (f:Whole l) {p q:Pt} {s t:List Pt} (hs:Anc l p s) (ht:Anc l q t) {c:Nat} (a:c<s.length) (b:c<t.length) (e:s[c]≠t[c]) (hp:aH s[c]=aH t[c]):gD s t↔eV s[c] t[c]:=by
 refine aC4 c a b ?_ e;cases c with
 |zero=>simp
 |succ c=>
  obtain ⟨g,h⟩:=(hs.par (c+1) a).2 (by omega);obtain ⟨b1,b2⟩:=(ht.par (c+1) b).2 (by omega);have:s[c]=t[c]:=f.named _ (hs.all _ (zgm _)) _ (ht.all _ (zgm _)) (by
   have a:aH s[c+1]=aG s[c]:=g
   have b:aH t[c+1]=aG t[c]:=b1
   rw [<-a,<-b,hp])
  exact hs.eqTake f.named ht (by omega) (by omega) this
theorem aBa {l:List Pt} {p q:Pt} {s t:List Pt} (hs:Anc l p s) (ht:Anc l q t) {c:Nat} (a:c<s.length) (b:c<t.length) (hp:aH s[c]≠aH t[c]):0<c/\∀h:0<c,s[c-1]'(by omega)≠t[c-1]'(by omega):=by
 have h0:0<c:=by
  cases c with
  |zero=>exact absurd ((hs.par 0 a).1 rfl|>.trans ((ht.par 0 b).1 rfl).symm) hp
  |succ c=>omega
 refine ⟨h0,λ_ e=>hp ?_⟩;rw [((hs.par c a).2 h0).1,((ht.par c b).2 h0).1,e]
theorem aHk (a b:Pt):decide (eV a b)=if aN a=aN b then decide (a.at_<b.at_) else gI (aN b) (aN a):=by
 split
 ·rename_i h;rw [decide_eq_decide];unfold eV;rw [h,agI];simp
 ·rename_i h;rw [Bool.eq_iff_iff,zde];unfold eV;simp [h]
theorem akM {l:List Pt} (m:Whole l) (hl:l.length<1000000000000) {i k:Nat} (hi:i<l.length) (hk:k<l.length) {s t:List Pt} (hs:Anc l (l[i]'hi) s) (ht:Anc l (l[k]'hk) t) (b:Bool) (hb:b=true↔gD s t):PF Tryz.prog 312 [.seq (l.map Pt.cells),(vi ((i:Nat))),(vi ((k:Nat)))] (vb (b)):=by
 have M:=hs.le m;have O:=ht.le m;have L:0<s.length:=by obtain ⟨r,G⟩:=hs.last;rw [G];simp
 have N:0<t.length:=by obtain ⟨r,G⟩:=ht.last;rw [G];simp
 obtain ⟨c,hc⟩:∃c,c=min (s.length-1) (t.length-1):=⟨_,rfl⟩;have g:c<s.length:=by omega
 have j:c<t.length:=by omega
 obtain ⟨x,hx,a⟩:=zgo (hs.all _ (zgm g));obtain ⟨y,hy,f⟩:=zgo (ht.all _ (zgm j));have o:=fun {z:Int} (hz:z=((s.length-1-c:Nat):Int))=>avS m hl hi hs (s.length-1-c) (by omega) x hx (by rw [a];congr 1;omega) hz;have p:=fun {z:Int} (hz:z=((t.length-1-c:Nat):Int))=>avS m hl hk ht (t.length-1-c) (by omega) y hy (by rw [f];congr 1;omega) hz;have q:x=y->(b=decide (((s.length:Int)-1)<((t.length:Int)-1))):=λe=>by
  subst e
  have J:s[c]=t[c]:=by rw [<-a,<-f]
  have:=awB (s:=s) (t:=t) ⟨c+1,hs.eqTake m.named ht g j J,by omega⟩
  rw [Bool.eq_iff_iff,hb,this,zde];omega
 refine pF Tryz.func312 rfl (λst=> ?_)
 (repeat' first|apply wZ;rfl|show Cn _;constructor|exact rfl|((first|apply (zY m hl hi hs)|apply (zY m hl hk ht)|apply o|apply p)<;>(omega))|show (_:PV)=_;(rw [q (by omega)]);done|apply wY;rfl|omega|intro h)
 refine aC (X:={v:Nat×Nat×Nat//∃(Q:v.1<s.length) (R:v.1<t.length) (hx:v.2.1<l.length) (hy:v.2.2<l.length),l[v.2.1]=s[v.1]/\l[v.2.2]=t[v.1]/\s[v.1]≠t[v.1]}) (λv=>((((St.nil 98 st).pv 0 (.seq (l.map Pt.cells))).pv 10 ((vi ((v.1.2.1:Nat))))).pv 11 ((vi ((v.1.2.2:Nat)))))) (λv=>v.1.1) ⟨(c,x,y),g,j,hx,hy,a,f,λe=>(by exact h (by have:=anA m.nodup hx hy (by rw [a,f,e]);omega))⟩ ?_ (λv=> ?_)
 ·(repeat' first|show Cn _;constructor|exact rfl)
 clear o p q a f hx hy;obtain ⟨⟨c,x,y⟩,g,j,hx,hy,a,f,B⟩:=v;simp only at g j hx hy a f B;dsimp only;have C:aH (l[x]'hx)=aH (l[y]'hy)↔((l[x]'hx).after.dev=(l[y]'hy).after.dev/\(l[x]'hx).after.seq=(l[y]'hy).after.seq)/\(l[x]'hx).afterAt=(l[y]'hy).afterAt:=by
  rw [Nm.ext_iff,Dt.ext_iff];rfl
 by_cases hp:aH (l[x]'hx)=aH (l[y]'hy)
 ·obtain ⟨⟨U,V⟩,W⟩:=C.1 hp
  have S:=Sp.ext_iff (aN (l[x]'hx)) (aN (l[y]'hy));have A:b=if aN (l[x]'hx)=aN (l[y]'hy) then decide ((l[x]'hx).at_<(l[y]'hy).at_) else gI (aN (l[y]'hy)) (aN (l[x]'hx)):=by
   rw [<-aHk,Bool.eq_iff_iff,hb,zde,aA0 m hs ht g j B (by rw [<-a,<-f];exact hp),a,f]
  (repeat' first|apply wZ;rfl|show Cn _;constructor|exact rfl|apply KR.mk;kernel_rfl|((first|apply (mJ (l[x]'hx))|apply (mJ (l[y]'hy))|apply (oP (aN (l[y]'hy)) (aN (l[x]'hx)))))|show (_:PV)=_;(first|rw [A,zp (by grind)];done|rw [A,zn (by grind)]);done|apply wY;rfl|apply wI;rfl|apply gE;omega|intro h;simp at h;omega|(intro h;simp at h))
 ·have hn:¬(((l[x]'hx).after.dev=(l[y]'hy).after.dev/\(l[x]'hx).after.seq=(l[y]'hy).after.seq)/\(l[x]'hx).afterAt=(l[y]'hy).afterAt):=λh=>hp (C.2 h)
  obtain ⟨F,n⟩:=aBa hs ht g j (by rw [<-a,<-f];exact hp);have n:=n F;obtain ⟨H,D,u⟩:=zgo (hs.all _ (zgm (show c-1<s.length by omega)));obtain ⟨I,E,w⟩:=zgo (ht.all _ (zgm (show c-1<t.length by omega)));have T:(s.take (c+1)).length=c+1:=by rw [zlt];omega
  have lt:(t.take (c+1)).length=c+1:=by rw [zlt];omega
  have o:=avS m hl hx (s:=s.take (c+1)) (by rw [a];exact hs.pre c g) 1 (by omega) H D (by rw [u,List.getElem_take];congr 1;omega) (x:=1) rfl;have p:=avS m hl hy (s:=t.take (c+1)) (by rw [f];exact ht.pre c j) 1 (by omega) I E (by rw [w,List.getElem_take];congr 1;omega) (x:=1) rfl
  (repeat' first|(refine ⟨⟨(c-1,H,I),by simp only;omega,by simp only;omega,D,E,u,w,n⟩, ?_, ?_⟩)|apply wZ;rfl|show Cn _;constructor|exact rfl|apply KR.mk;kernel_rfl|((first|apply o|apply p))|apply wY;rfl|apply wI;rfl|apply gE;omega|simp only [zql];omega|intro h;simp at h;omega|(intro h;simp at h))
end
section
attribute [local irreducible] Ev PWp
set_option maxRecDepth 10000
set_option maxHeartbeats 4000000
section
variable {P:Program} {tt:TT} {l:List Oper} {d:Md} {r:List Oper} {s:St} {K:St->Prop} {t:Nat} {ty:TypeId} {pos:String} {after:Array Edge}
theorem aGt {α:Type} {f:α->List PV} (pk:Pk P tt) (z0:α) {T e:TypeId} {x y:Operand} {q u:IntKind} {n B sz:Nat} {z:List Value} {a b:Int} (hx:opd s x=some (.val (.int q a))) (hy:opd s y=some (.val (.int u b))) (hk:tiK tt T=some (.slice e)) (hs:aO tt e=some sz) (hz:tiZ tt e=some z) (j:z.length=sz) (c:Nat.blt 0 sz=true) (i:z.map .val=f z0) (hf:bQ s [x,y]=true) (hd:Nat.blt t s.n=true) (ht:iI d l r=true)
  (ha:a=n) (h:b=n) (p:P.bytesOf e=B) (hb:n*B<=140737488355328) (g:n<4611686018427387904) (k:∀id,s.st id=none->Ev P l d r ((s.sst (upd s.st id (some (.arr e ((List.replicate n z0).map f))))).pv t (.vec id sz 0 n)) K):Ev P l d (⟨some t, .makeSlice T x y,ty,pos,after,none⟩::r) s K:=by
 subst ha h
 refine eA (sU pk.htt hx hy hk hs hz j (by simpa [Nat.blt_eq] using c) p hb g) (λz hz=>aM (λ_ _ _ e=>by cases e) hz) hf hd ht λv m=> ?_
 obtain ⟨id,o,rfl⟩:=m
 have:=k id o
 rw [List.map_replicate,<-i] at this
 exact this
end
def sM (D:List Pt) (p:Pt):Int:=atP D (aG p)
theorem aA9 {D:List Pt} (hn:(D.map aG).Nodup):∀(m:Nat),m<=D.length->D.countP (λp=>decide (sM D p<m))=m:=by
 intro m hm;have a:(D.take m).countP (λp=>decide (sM D p<m))=m:=by
  rw [List.countP_eq_length.2 λp hp=> ?_,zlt];omega;obtain ⟨j,hj,rfl⟩:=zgo hp;simp only [zlt] at hj;rw [List.getElem_take,zde,sM,gJ hn (by omega)];omega
 have b:(D.drop m).countP (λp=>decide (sM D p<m))=0:=by
  rw [List.countP_eq_zero];intro p hp;obtain ⟨j,hj,rfl⟩:=zgo hp;simp only [zld] at hj;rw [List.getElem_drop,zde,sM,gJ hn (by omega)];omega
 calc D.countP (λp=>decide (sM D p<m))=(D.take m++D.drop m).countP (λp=>decide (sM D p<m)):=by rw [List.take_append_drop]
  _=m:=by rw [List.countP_append,a,b];rfl
theorem aqH (l:List Pt) (hl:l.length<1000000000000):PF Tryz.prog 267 [.seq (l.map Pt.cells)] (.seq ((cQ l).map Pt.cells)):=by
 refine ayH ajK λst=> ?_
 by_cases hok:Whole l/\l.length<=2000
 ·obtain ⟨hW,h2000⟩:=hok
  obtain ⟨hp,hs⟩:=fY hW h2000
  obtain ⟨D,hD⟩:∃D,cQ l=D:=⟨_,rfl⟩
  rw [hD] at hp hs⊢
  have hDn:(D.map aG).Nodup:=(hp.map aG).nodup_iff.2 hW.nodup
  have hDl:D.length=l.length:=hp.length_eq
  have hpos:∀p∈l,∃(j:Nat) (hj:j<D.length),D[j]=p/\sM D p=j:=λp hpm=>by
   obtain ⟨j,hj,e⟩:=zgo (hp.symm.subset hpm)
   exact ⟨j,hj,e,by rw [<-e,sM,gJ hDn hj]⟩
  have hlt:∀p∈l,∀q∈l,(sM D p<sM D q↔ltP l p q):=λp hpm q hqm=>by
   obtain ⟨i,hi,e1,p1⟩:=hpos p hpm
   obtain ⟨j,hj,e2,p2⟩:=hpos q hqm
   have hPw:=List.pairwise_iff_getElem.1 hs
   rw [p1,p2]
   constructor
   ·intro h;rw [<-e1,<-e2];exact hPw i j hi hj (by omega)
   ·intro h
    rcases Nat.lt_trichotomy i j with k|k|k
    ·omega
    ·subst k;rw [<-e1,<-e2] at h;exact absurd h (awO hW.named _)
    ·have:=hPw j i hj hi k;rw [e1,e2] at this;exact (aoY hW.named h this).elim
  have hwl:eZ l=true:=(eE l).2 hW
  have hsp:=rL l hl
  rw [hwl] at hsp
  refine pC Tryz.func267 rfl ?_
  (repeat' first|apply wZ;rfl|show Cn _;constructor|(apply hsp)|(apply aGt pk Pt.zero (f:=Pt.cells) (n:=l.length) (B:=96);(iterate 11 rfl);(focus (simp;done));(focus (simp;done));exact xL;omega;omega;intro id hid)|apply wY;rfl|simp only [zql];omega|(intro h;simp at h))
  have hid:st id=none:=hid
  refine aC (X:={x:Nat×List Pt//x.1<=l.length/\x.2.length=l.length/\∀j (h:j<x.1) (h2:j<l.length) (m:Nat),sM D (l[j]'h2)=(m:Int)->x.2[m]?=some (l[j]'h2)}) (λi=>((((St.nil 51 (upd st id (some (.arr 149 (i.1.2.map Pt.cells))))).pv 0 (.seq (l.map Pt.cells))).pv 4 (.vec id 11 0 l.length)).pv 5 ((vi ((i.1.1:Nat)))))) (λi=>l.length-i.1.1) ⟨(0,List.replicate l.length Pt.zero),by simp,by simp,by simp⟩ ?_ (λi=> ?_)
  ·(repeat' first|show Cn (.t _ _);exact Cn.t0|show Cn _;constructor|exact rfl)
  obtain ⟨⟨i,O⟩,hi,hO,hinv⟩:=i
  simp only at hi hO hinv
  dsimp only
  by_cases him:i<l.length
  ·obtain ⟨f,hf⟩:∃f:Pt->Bool,f=λp=>decide (sM D p<sM D (l[i]'him)):=⟨_,rfl⟩
   (repeat' first|apply wZ;rfl|show Cn _;constructor|simp only [zql];omega|(intro h;simp at h))
   refine aC (X:={k:Nat//k<=l.length}) (λy=>((((((St.nil 51 (upd st id (some (.arr 149 (O.map Pt.cells))))).pv 0 (.seq (l.map Pt.cells))).pv 4 (.vec id 11 0 l.length)).pv 5 ((vi ((i:Nat))))).pv 6 ((vi ((((l.take y.1).countP f:Nat):Int))))).pv 7 ((vi ((y.1:Nat)))))) (λy=>l.length-y.1) ⟨0,by omega⟩ ?_ (λy=> ?_)
   ·(repeat' first|show Cn (.t _ _);exact Cn.t0|show Cn _;constructor|exact rfl)
   obtain ⟨k,hk⟩:=y
   dsimp only
   have hcl:(l.take k).countP f<=k:=Nat.le_trans (List.countP_le_length) (by rw [zlt];omega)
   by_cases hkl:k<l.length
   ·have hstep:(l.take (k+1)).countP f=(l.take k).countP f+if f (l[k]'hkl)=true then 1 else 0:=by
     rw [List.take_succ_eq_append_getElem hkl,List.countP_append];simp [List.countP_singleton]
    obtain ⟨s,hs1⟩:=Anc.ex hW _ (l[k]'hkl) (zgm hkl) (Nat.le_refl _)
    obtain ⟨t,ht1⟩:=Anc.ex hW _ (l[i]'him) (zgm him) (Nat.le_refl _)
    have hb:f (l[k]'hkl)=true↔gD s t:=by
     rw [hf,zde,hlt _ (zgm hkl) _ (zgm him)]
     constructor
     ·rintro ⟨s',t',h1,h2,h3⟩;rw [hs1.fn hW.named h1,ht1.fn hW.named h2];exact h3
     ·exact λh=>⟨s,t,hs1,ht1,h⟩
    have hself:k=i->f (l[k]'hkl)=false:=λe=>by subst e;rw [hf];simp
    (repeat' first|(refine ⟨⟨k+1,by omega⟩, ?_, ?_⟩)|apply wZ;rfl|show Cn _;constructor|exact rfl|(apply (akM hW hl hkl him hs1 ht1 (f (l[k]'hkl)) hb))|(show _=_;(first|rw [hstep,zp ‹_›];simp;done|rw [hstep,zn (by rw [h];simp)];rfl|rw [hstep,zn (by rw [hself (by omega)];simp)];rfl))|apply wY;rfl|omega|simp only [zql];omega|(intro h;simp at h)|intro h)
   ·obtain ⟨m,hm,hme,hpm⟩:=hpos _ (zgm him)
    have htk:l.take k=l:=ztl (by omega)
    have hc:(l.take k).countP f=m:=by
     rw [htk,<-(hp.countP_eq f),hf,hpm]
     exact aA9 hDn m (by omega)
    rw [hc]
    have hmO:m<O.length:=by omega
    have hnext:∀j (h:j<i+1) (h2:j<l.length) (n:Nat),sM D (l[j]'h2)=(n:Int)->(O.set m (l[i]'him))[n]?=some (l[j]'h2):=λj h1 h2 n hn=>by
     by_cases hmn:m=n
     ·subst hmn
      rw [List.getElem?_set_self hmO]
      obtain ⟨j',hj',e1,e2⟩:=hpos _ (zgm h2)
      have:j'=m:=by omega
      subst this
      rw [<-e1,hme]
     ·rw [List.getElem?_set_ne hmn]
      rcases zls.1 h1 with q|q
      ·exact hinv j q h2 n hn
      ·subst q;omega
    (repeat' first|apply stF pk (f:=Pt.cells) (O[m]'hmO) (l[i]'him);rfl;rfl;exact aA _ _ _;rfl;exact zgg hmO;rfl;rfl|(refine ⟨⟨(i+1,O.set m (l[i]'him)),by simp only;omega,by simp only [List.length_set];exact hO,hnext⟩, ?_, ?_⟩)|show Cn (.t _ _);exact .any (cM (by (((simp only [St.pv,St.put,St.sst,St.setv,St.nil,St.var,eH]);(done)))))|apply wZ;rfl|show Cn _;constructor|exact rfl|apply ixA pk;(iterate 5 rfl);rotate_left;rfl;(intro hw;(exact (show _=((m:Nat):Int) from by omega)));(intro hw;(omega));rfl;(exact Nat.zero_add _)|apply wI;rfl|apply gE;omega|omega|simp only [zql];omega|(intro h;simp at h))
  ·have hOD:O=D:=by
    apply List.ext_getElem?
    intro m
    by_cases hm:m<D.length
    ·obtain ⟨j,hj,e⟩:=zgo (hp.subset (zgm hm))
     have:=hinv j (by omega) hj m (by rw [e,sM,gJ hDn hm])
     rw [this,e,zgg hm]
    ·rw [List.getElem?_eq_none (by omega),List.getElem?_eq_none (by omega)]
   subst hOD
   (repeat' first|show Cn (.r _ _ _);refine .rr ?_;((exact .inl ⟨id,by rw [zql,hO],hid,aA _ _ _,cD hid⟩));done|apply wZ;rfl|show Cn _;constructor|simp only [zql];omega|(intro h;simp at h))
 ·have hno:cQ l=[]:=iZ hok
  rw [hno]
  have hw:eZ l=true->¬l.length<=2000:=λh h2=>hok ⟨(eE l).1 h,h2⟩
  have hsp:=rL l hl
  cases hwv:eZ l with
  |false=>
   rw [hwv] at hsp
   refine pC Tryz.func267 rfl ?_
   (repeat' first|(apply Cn.cf;focus ((apply hsp);done))|show Cn (.r _ _ _);refine .rr ?_;((exact .inr ⟨rfl,rfl,zsr _⟩));done|apply wZ;rfl|show Cn _;constructor|apply wY;rfl)
  |true=>
   rw [hwv] at hsp
   have hl2:=hw hwv
   refine pC Tryz.func267 rfl ?_
   (repeat' first|(apply Cn.cf;focus ((apply hsp);done))|show Cn (.r _ _ _);refine .rr ?_;((exact .inr ⟨rfl,rfl,zsr _⟩));done|apply wZ;rfl|show Cn _;constructor|apply wY;rfl|simp only [zql];omega|(intro h;simp at h))
end
section
attribute [local irreducible] Ev PWp
set_option maxRecDepth 10000
set_option maxHeartbeats 4000000
theorem aeI (l m:List Pt) (hl:l.length<4611686018427387904):PF Tryz.prog 266 [.seq (l.map Pt.cells), .seq (m.map Pt.cells)] (vb (decide (l=m))):=by
 refine pF Tryz.func266 rfl (λst=> ?_)
 (repeat' first|apply wZ;rfl|show Cn _;constructor|exact rfl|show (_:PV)=_;(rw [decide_eq_false (λe:l=m=>by subst e;simp at*)]);done|(intro h;simp at h))
 refine aC (X:={x:Nat//x<=l.length/\l.take x=m.take x}) (λi=>((((St.nil 26 st).pv 0 (.seq (l.map Pt.cells))).pv 1 (.seq (m.map Pt.cells))).pv 5 ((vi ((i.1:Nat)))))) (λi=>l.length-i.1) ⟨0,by omega,rfl⟩ ?_ (λi=> ?_)
 ·(repeat' first|show Cn _;constructor|exact rfl)
 obtain ⟨i,hi,a⟩:=i;dsimp only;have b:l.length=m.length:=by omega
 (repeat' first|(refine ⟨⟨i+1,by omega,wX a (by omega) (by omega) (by rw [Pt.ext_iff,Vl.ext_iff,Dt.ext_iff,Dt.ext_iff];simpa [and_assoc] using h)⟩, ?_, ?_⟩)|apply wZ;rfl|show Cn _;constructor|exact rfl|apply KR.mk;kernel_rfl|show (_:PV)=_;(first|rw [ahP (i:=i) (by omega) (by omega) (λe=>by simp [e] at h)];done|rw [acN a (by omega) (by omega)]);done|apply wI;rfl|apply gE;omega|omega|simp only [zql];omega|(intro h;simp at h))
theorem anT (c:Cl) (hl:c.parts.length<1000000000000):PF Tryz.prog 205 [.agg c.cells] (vi (rightP c)):=by
 have:=yG c.parts;have hc:(2000<((c.parts.length:Nat):Int))↔2000<c.parts.length:=by omega
 have b:(((c.parts.length:Nat):Int)<=2000)↔¬2000<c.parts.length:=by omega
 refine pF Tryz.func205 rfl (λst=> ?_)
 (repeat' first|apply wZ;rfl|show Cn _;constructor|exact rfl|apply KR.mk;kernel_rfl|((first|apply (rL c.parts hl)|apply (aqH c.parts hl)|apply (aeI (cQ c.parts) c.parts))<;>(omega))|show (_:PV)=_;(first|(simp only [rightP,Vl.ext_iff,Vl.zero,e0];grind)|(obtain ⟨⟨e,f,g⟩,i⟩:=‹(_/\_/\_)/\_›;have a:c.val=Vl.zero:=(Vl.ext_iff _ _).2 ⟨e,f,g⟩;simp only [rightP,a,i];grind));done|apply wY;rfl|(intro h;simp at h)|intro h)
theorem acD (l:List Int) (n:Int):iO (l++[n])=(iO l).push (UInt8.ofNat n.toNat):=by unfold iO;rw [List.foldl_append];rfl
theorem acL (l:List Int):(iO l).size=l.length:=by
 induction l using awT with
 |h0=>rfl
 |h1 l n ih=>rw [acD,ByteArray.size_push,ih];simp
theorem azJ (l:List Int) (n:Int):iO l++iO [n]=iO (l++[n]):=by
 rw [acD];have:iO [n]=ByteArray.empty.push (UInt8.ofNat n.toNat):=rfl;rw [this]
 ext1
 simp
theorem rshow_spec (c:Cl) (hl:c.parts.length<1000000000000):PF Tryz.prog 128 [.agg c.cells] (.agg (showP c).cells):=by
 refine pF Tryz.func128 rfl (λst=> ?_)
 (repeat' first|apply wZ;rfl|show Cn _;constructor|exact rfl|(apply (anT c hl))|show (_:PV)=_;(rw [showP,zn ‹_›];rfl);done|apply wY;rfl|intro h)
 have h0:rightP c=0:=h
 have hb:=λp (hp:p∈c.parts)=>apG ((gT h0).2.2.1.formed p hp)
 refine aC (X:={x:Nat×List Int//x.1<=c.parts.length/\x.2.length<=200/\qN (c.parts.drop x.1) x.2=qN c.parts []}) (λi=>(((((St.nil 44 st).var 1 110 (c.cells)).var 2 63 ([(vi (0)),(vi (0)),(vs (e0))])).pv 4 ((vs (iO i.1.2)))).pv 5 ((vi ((i.1.1:Nat)))))) (λi=>c.parts.length-i.1.1) ⟨(0,[]),by simp,by simp,rfl⟩ ?_ (λi=> ?_)
 ·(repeat' first|show Cn _;constructor|exact rfl)
 obtain ⟨⟨i,acc⟩,hi,ha,hinv⟩:=i
 simp only at hi ha hinv
 dsimp only
 have hz:=acL acc
 have hs:=λh:i<c.parts.length=>zZ h acc
 have hb2:=λh:i<c.parts.length=>hb _ (zgm h)
 by_cases him:i<c.parts.length
 ·have hs:=hs him
  obtain ⟨hb3,hb4⟩:=hb2 him
  have hz1:(iO [(c.parts[i]'him).val.n]).size=1:=acL _
  (repeat' first|((refine ⟨⟨(i+1,acc++[(c.parts[i]'him).val.n]),by simp only;omega,by simp only [zla,List.length_singleton];omega,by rw [<-hinv,hs,zp ⟨h.1,by omega⟩]⟩, ?_,by simp only;omega⟩);focus ((repeat' first|show Cn _;constructor|exact rfl|rw [azJ]);done))|((refine ⟨⟨(i+1,acc),by simp only;omega,ha,by rw [<-hinv,hs,zn (λq=>by have:=h q.1;omega)]⟩, ?_,by simp only;omega⟩);focus ((repeat' first|show Cn _;constructor|exact rfl);done))|apply wZ;rfl|show Cn _;constructor|exact rfl|apply cvA pk.htt;(iterate 5 rfl);(refine ⟨?_, ?_⟩<;>(omega));rfl|apply aJ4 pk [(c.parts[i]'him).val.n];(iterate 6 rfl);rotate_left;rfl;rfl|apply aK9;rfl;rfl;rfl;rotate_left;rfl;(intro _;omega);rfl|apply wI;rfl|apply gE;omega|omega|simp only [zql];omega|(intro h;simp at h))
 ·(repeat' first|apply wZ;rfl|show Cn _;constructor|exact rfl|show (_:PV)=_;(rw [showP,zp h0,<-hinv,List.drop_eq_nil_of_le (by omega)];rfl);done|simp only [zql];omega|(intro h;simp at h))
end
end Go.Proofs.YtfablfldonhkiaaGreatDoor.T
namespace Go.Proofs.YtfablfldonhkiaaGreatDoor
open Go Go.Abs
attribute [local irreducible] Ev PWp
set_option maxRecDepth 10000
set_option maxHeartbeats 4000000
theorem aqI (c:Cl) (hl:c.parts.length<1000000000000):PF Tryz.prog 125 [.agg c.cells] (.agg (acF c).cells):=by
 rw [aAx];refine pF Tryz.func125 rfl (λst=> ?_)
 focus ((repeat' first|apply wZ;rfl|show Cn _;constructor))
 refine aC (X:={x:Nat//x<=c.parts.length}) (λi=>(((((St.nil 32 st).var 1 110 (c.cells)).var 2 63 ([(vi (0)),(vi (0)),(vs (e0))])).var 3 63 ((aaE c.parts i.1).cells)).pv 4 ((vi ((i.1:Nat)))))) (λi=>c.parts.length-i.1) ⟨0,by omega⟩ ?_ (λi=> ?_)
 ·(repeat' first|show Cn _;constructor|exact rfl)
 obtain ⟨i,hi⟩:=i;dsimp only;by_cases e:c.parts.length<=i
 ·obtain rfl:i=c.parts.length:=by omega
  (repeat' first|apply wZ;rfl|show Cn _;constructor|exact rfl|simp only [zql];omega|(intro h;simp at h))
 have b:i<c.parts.length:=by omega
 have hx:aaE c.parts (i+1)=if i=0\/cX (aaE c.parts i) c.parts[i].val=true then c.parts[i].val else aaE c.parts i:=by
  show (if _ then _ else _)=_;rw [getElem!_pos c.parts i b]
 have a:=oP (aaE c.parts i) c.parts[i].val;generalize aaE c.parts i=M at*;generalize cX M c.parts[i].val=B at*;by_cases h0:i=0
 ·rw [zp (.inl h0)] at hx
  (repeat' first|refine ⟨⟨i+1,by omega⟩, ?_, ?_⟩;((dsimp only;rw [hx]))|apply wZ;rfl|show Cn _;constructor|exact rfl|apply KR.mk;kernel_rfl|(apply a)|apply wY;rfl|apply wI;rfl|apply gE;omega|omega|simp only [zql];omega|intro h;simp at h;omega|(intro h;simp at h))
 cases B with
 |true=>
  rw [zp (.inr rfl)] at hx
  (repeat' first|refine ⟨⟨i+1,by omega⟩, ?_, ?_⟩;((dsimp only;rw [hx]))|apply wZ;rfl|show Cn _;constructor|exact rfl|apply KR.mk;kernel_rfl|(apply a)|apply wY;rfl|apply wI;rfl|apply gE;omega|omega|simp only [zql];omega|intro h;simp at h;done|(intro h;simp at h))
 |false=>
  rw [zn (by simp [h0])] at hx
  (repeat' first|refine ⟨⟨i+1,by omega⟩, ?_, ?_⟩;((dsimp only;rw [hx]))|apply wZ;rfl|show Cn _;constructor|exact rfl|apply KR.mk;kernel_rfl|(apply a)|apply wY;rfl|apply wI;rfl|apply gE;omega|omega|simp only [zql];omega|intro h;simp at h;omega|(intro h;simp at h))
theorem aC7 (c:Cl) (hl:c.parts.length<1000000000) (st:aD):PC Tryz.prog 204 [.agg c.cells] st λr S=>∃id,r= .vec id 1 0 (aaL (fN c).toArray)/\st id=none/\∃o,S=upd st id (some o):=by
 refine pC Tryz.func204 rfl ?_
 focus ((repeat' first|apply wZ;rfl|show Cn _;constructor))
 refine fG 3 3 1 rfl rfl rfl (λid a=> ?_);refine aC (X:={x:Nat×List Int×Nat//Found (fN c).toArray c.parts.length x.1 x.2.1/\st x.2.2=none}) (λi=>(((St.nil 59 (upd st i.1.2.2 (some (.arr 3 (i.1.2.1.map I1))))).var 1 110 (c.cells)).pv 3 (.vec i.1.2.2 1 0 i.1.2.1.length))) (λi=>c.parts.length-i.1.1) ⟨(0,[],id),Found.zero,a⟩ ?_ (λi=> ?_)
 ·dsimp only
  (repeat' first|show Cn (.t _ _);exact Cn.t0|show Cn _;constructor|exact rfl)
 obtain ⟨⟨p,out,id⟩,w,a⟩:=i;simp only at w a;dsimp only;have I:=w.short;have b:=w.go
 focus ((repeat' first|apply wZ;rfl|show Cn _;constructor|simp only [zql];omega|(intro h;simp at h)))
 refine aC (X:={x:Nat//x<=c.parts.length}) (λy=>((((((St.nil 59 (upd st id (some (.arr 3 (out.map I1))))).var 1 110 (c.cells)).pv 3 (.vec id 1 0 out.length)).pv 4 ((vb ((mnI out c.parts y.1).1)))).pv 5 ((vi ((mnI out c.parts y.1).2)))).pv 6 ((vi ((y.1:Nat)))))) (λy=>c.parts.length-y.1) ⟨0,by omega⟩ ?_ (λy=> ?_)
 ·dsimp only
  (repeat' first|show Cn (.t _ _);exact Cn.t0|show Cn _;constructor|exact rfl)
 obtain ⟨y,hy⟩:=y;dsimp only;by_cases E:c.parts.length<=y
 ·obtain rfl:y=c.parts.length:=by omega
  generalize mnI out c.parts c.parts.length=M at*;obtain ⟨m,l⟩:=M;dsimp only at*;cases m with
  |false=>
   have e:=b.1 rfl
   (repeat' first|show Cn (.r _ _ _);refine .rr ?_;(exact ⟨id,by rw [e],a,_,rfl⟩);done|apply wZ;rfl|show Cn _;constructor|simp only [zql];omega|(intro h;simp at h))
  |true=>
   obtain ⟨q,hq,k⟩:=b.2 rfl;have H:=w.le;have G:=k.le;have e:(out++[l]).length=out.length+1:=by simp
   (repeat' first|refine ⟨⟨(q,out++[l],C),k,dG u⟩, ?_, ?_⟩;((dsimp only;try rw [e]))|show Cn (.t _ _);exact .any (bR ‹_›)|apply wZ;rfl|show Cn _;constructor|exact rfl|(apply apV pk (f:=I1) [l] 8;(iterate 9 rfl);(exact aA _ _ _);(omega);exact λ_=>rfl;exact λ_=>rfl;exact lR;((focus (simp;omega)));((focus (simp;omega)));rfl;intro C u)|simp only [zql];omega|(intro h;simp at h))
 have B:y<c.parts.length:=by omega
 have hx:mnI out c.parts (y+1)=if (tC out c.parts[y].val.n&&(!(mnI out c.parts y).1||decide (c.parts[y].val.n<(mnI out c.parts y).2)))=true then (true,c.parts[y].val.n) else mnI out c.parts y:=by
  show (if _ then _ else _)=_;rw [getElem!_pos c.parts y B]
 unfold tC at hx;generalize mnI out c.parts y=M at*;obtain ⟨m,l⟩:=M;dsimp only at hx;clear b;by_cases h0:out.length=0
 ·simp only [h0,decide_true,Bool.true_or,Bool.true_and] at hx
  obtain rfl:out=[]:=List.eq_nil_of_length_eq_zero h0;cases m with
  |false=>
   rw [zp (by simp)] at hx
   (repeat' first|refine ⟨⟨y+1,by omega⟩, ?_, ?_⟩;((dsimp only;rw [hx]))|show Cn (.t _ _);exact Cn.t0|apply wZ;rfl|show Cn _;constructor|exact rfl|apply ldA pk I1.elem;rfl;rfl;rotate_left;rfl;(exact aA _ _ _);(intro hw;((focus (simp [gw] at hw;done))));rfl|apply ixA pk (j:=0) (j':=0);(iterate 5 rfl);rotate_left;rfl;(intro hw;exact absurd hw (by simp [gw]));(intro hw;exact absurd hw (by simp [gw]));rfl;rfl|apply wI;rfl|apply gE;omega|omega|simp only [zql];omega|(intro h;simp at h))
  |true=>
   by_cases g:c.parts[y].val.n<l
   ·rw [zp (by simp [g])] at hx
    (repeat' first|refine ⟨⟨y+1,by omega⟩, ?_, ?_⟩;((dsimp only;rw [hx]))|show Cn (.t _ _);exact Cn.t0|apply wZ;rfl|show Cn _;constructor|exact rfl|apply ldA pk I1.elem;rfl;rfl;rotate_left;rfl;(exact aA _ _ _);(intro hw;((focus (simp [gw] at hw;done))));rfl|apply ixA pk (j:=0) (j':=0);(iterate 5 rfl);rotate_left;rfl;(intro hw;exact absurd hw (by simp [gw]));(intro hw;exact absurd hw (by simp [gw]));rfl;rfl|apply wI;rfl|apply gE;omega|omega|simp only [zql];omega|(intro h;simp at h))
   ·rw [zn (by simp [g])] at hx
    (repeat' first|refine ⟨⟨y+1,by omega⟩, ?_, ?_⟩;((dsimp only;rw [hx]))|show Cn (.t _ _);exact Cn.t0|apply wZ;rfl|show Cn _;constructor|exact rfl|apply ldA pk I1.elem;rfl;rfl;rotate_left;rfl;(exact aA _ _ _);(intro hw;((focus (simp [gw] at hw;done))));rfl|apply ixA pk (j:=0) (j':=0);(iterate 5 rfl);rotate_left;rfl;(intro hw;exact absurd hw (by simp [gw]));(intro hw;exact absurd hw (by simp [gw]));rfl;rfl|apply wI;rfl|apply gE;omega|omega|simp only [zql];omega|(intro h;simp at h))
 ·have v:out.length-1<out.length:=by omega
  have F:((out.length:Nat):Int)-1=((out.length-1:Nat):Int):=by omega
  have z:out[out.length-1]?.getD 0=out[out.length-1]:=by rw [zgg v];rfl
  have A:out≠[]:=λq=>h0 (by rw [q];rfl);rw [decide_eq_false h0,Bool.false_or,getElem!_pos out (out.length-1) v] at hx;by_cases D:c.parts[y].val.n>out[out.length-1]
  ·rw [decide_eq_true D,Bool.true_and] at hx
   cases m with
   |false=>
    rw [zp (by simp)] at hx
    (repeat' first|refine ⟨⟨y+1,by omega⟩, ?_, ?_⟩;((dsimp only;rw [hx]))|show Cn (.t _ _);exact Cn.t0|apply wZ;rfl|show Cn _;constructor|exact rfl|apply ixA pk;(iterate 5 rfl);rotate_left;rfl;(intro hw;(exact (show _=((out.length-1:Nat):Int) from by omega)));(intro hw;(omega));rfl;(exact Nat.zero_add _)|apply ldA pk I1.elem;rfl;rfl;rotate_left;rfl;(exact aA _ _ _);(intro hw;(omega));rfl|apply wI;rfl|apply gE;omega|omega|simp only [zql];omega|intro h;simp at h;omega|(intro h;simp at h))
   |true=>
    by_cases g:c.parts[y].val.n<l
    ·rw [zp (by simp [g])] at hx
     (repeat' first|refine ⟨⟨y+1,by omega⟩, ?_, ?_⟩;((dsimp only;rw [hx]))|show Cn (.t _ _);exact Cn.t0|apply wZ;rfl|show Cn _;constructor|exact rfl|apply ixA pk;(iterate 5 rfl);rotate_left;rfl;(intro hw;(exact (show _=((out.length-1:Nat):Int) from by omega)));(intro hw;(omega));rfl;(exact Nat.zero_add _)|apply ldA pk I1.elem;rfl;rfl;rotate_left;rfl;(exact aA _ _ _);(intro hw;(omega));rfl|apply wI;rfl|apply gE;omega|omega|simp only [zql];omega|intro h;simp at h;omega|(intro h;simp at h))
    ·rw [zn (by simp [g])] at hx
     (repeat' first|refine ⟨⟨y+1,by omega⟩, ?_, ?_⟩;((dsimp only;rw [hx]))|show Cn (.t _ _);exact Cn.t0|apply wZ;rfl|show Cn _;constructor|exact rfl|apply ixA pk;(iterate 5 rfl);rotate_left;rfl;(intro hw;(exact (show _=((out.length-1:Nat):Int) from by omega)));(intro hw;(omega));rfl;(exact Nat.zero_add _)|apply ldA pk I1.elem;rfl;rfl;rotate_left;rfl;(exact aA _ _ _);(intro hw;(omega));rfl|apply wI;rfl|apply gE;omega|omega|simp only [zql];omega|intro h;simp at h;omega|(intro h;simp at h))
  ·rw [decide_eq_false D,Bool.false_and,zn (by simp)] at hx
   (repeat' first|refine ⟨⟨y+1,by omega⟩, ?_, ?_⟩;((dsimp only;rw [hx]))|show Cn (.t _ _);exact Cn.t0|apply wZ;rfl|show Cn _;constructor|exact rfl|apply ixA pk;(iterate 5 rfl);rotate_left;rfl;(intro hw;(exact (show _=((out.length-1:Nat):Int) from by omega)));(intro hw;(omega));rfl;(exact Nat.zero_add _)|apply ldA pk I1.elem;rfl;rfl;rotate_left;rfl;(exact aA _ _ _);(intro hw;(omega));rfl|apply wI;rfl|apply gE;omega|omega|simp only [zql];omega|((exfalso;rcases h.1 with q|q;exact A q;rw [z] at q;omega))|(intro h;simp at h))
theorem amE (c:Cl) (hl:c.parts.length<1000000000):PF Tryz.prog 127 [.agg c.cells] (.agg (alG c).cells):=by
 intro st;have hn:=aC7 c hl st;refine pC Tryz.func127 rfl ?_
 (repeat' first|exact Cn.any ⟨_,_,st,rfl,zwr _,aU (zsr _) hid,rfl,rfl⟩|(apply cP;rfl;(apply hn);rintro _ st' (⟨id,rfl,hid,o,rfl⟩))|apply wZ;rfl|show Cn _;constructor|apply wY;rfl)
theorem akC (c:Cl) (hl:c.parts.length<=1000):PF Tryz.prog 78 [.agg c.cells] (.agg (bP c).cells):=by
 have a:=aqI c (by omega);have b:=apB c;have e:=amE c (by omega);have h4:=T.rshow_spec c (by omega);unfold bP;generalize acF c=A at*;generalize adM c=B at*;generalize alG c=C at*;generalize T.showP c=D at*;refine pF Tryz.func78 rfl (λst=> ?_)
 (repeat' first|apply wZ;rfl|show Cn _;constructor|exact rfl|((first|apply a|apply b|apply e|apply h4))|show (_:PV)=_;((repeat first|rw [zp ‹_›]|rw [zn ‹_›]);rfl);done|apply wY;rfl|intro h)
def ptS (l:Ln) (c:Int):Option Int:=if 0<=c/\c<l.cells_.length then (if (bP l.cells_[c.toNat]!).kind=1 then some (bP l.cells_[c.toNat]!).n else none) else none
theorem aAj (l:Ln) (c:Int) (h:∀x∈l.cells_,x.parts.length<=1000):PF Tryz.prog 39 [.agg l.cells,(vi (c))] (ptR (ptS l c)):=by
 by_cases hc:0<=c/\c<l.cells_.length
 ·obtain ⟨j,rfl⟩:∃j:Nat,c=j:=⟨c.toNat,by omega⟩
  have hj:j<l.cells_.length:=by omega
  have hs:=akC l.cells_[j] (h _ (zgm hj));unfold ptS;rw [zp hc,Int.toNat_natCast,getElem!_pos l.cells_ j hj];generalize bP l.cells_[j]=V at*;by_cases hk:V.kind=1;rw [zp hk];refine pF Tryz.func39 rfl (λst=> ?_);rotate_left;rw [zn hk];refine pF Tryz.func39 rfl (λst=> ?_);rotate_left
  all_goals ((repeat' first|apply wZ;rfl|show Cn _;constructor|exact rfl|(apply hs)|apply wY;rfl|apply wI;rfl|apply gE;omega|omega|simp only [zql];omega|(intro h;simp at h)|intro h))
 ·unfold ptS
  rw [zn hc];refine pF Tryz.func39 rfl (λst=> ?_)
  (repeat' first|apply wZ;rfl|show Cn _;constructor|exact rfl|intro h;simp at h;omega|(intro h;simp at h))
theorem ayE {l:Ln} {c:Int} (h:fS l c):ptS l c=ptP l c:=by
 unfold ptS ptP;by_cases hc:0<=c/\c<l.cells_.length
 ·rw [zp hc,zp hc]
  have hj:c.toNat<l.cells_.length:=by omega
  rw [getElem!_pos l.cells_ _ hj];have e:bP l.cells_[c.toNat]=l.cells_[c.toNat].val:=by unfold bP;rw [zp (h _ hj (by omega))]
  rw [e]
 ·rw [zn hc,zn hc]
end Go.Proofs.YtfablfldonhkiaaGreatDoor
