import Derived.Test.YtfablfldonhkiaaGreatDoorClAf
import Derived.Test.YtfablfldonhkiaaGreatDoorAbsE
import Derived.Test.YtfablfldonhkiaaGreatDoorClAe
set_option linter.unusedSimpArgs false
set_option linter.unusedVariables false
namespace Go.Proofs.YtfablfldonhkiaaGreatDoor.T
open Go Go.Abs
attribute [local irreducible] Ev PWp
set_option maxRecDepth 10000
set_option maxHeartbeats 4000000
theorem wX {l m:List Pt} {i:Nat} (h:l.take i=m.take i) (a:i<l.length) (b:i<m.length) (e:l[i]=m[i]):l.take (i+1)=m.take (i+1):=by
 rw [List.take_succ_eq_append_getElem a,List.take_succ_eq_append_getElem b,h,e]
theorem ahP {l m:List Pt} {i:Nat} (a:i<l.length) (b:i<m.length) (e:l[i]≠m[i]):decide (l=m)=false:=decide_eq_false λh=>by subst h;exact e rfl
theorem acN {l m:List Pt} {i:Nat} (h:l.take i=m.take i) (a:l.length<=i) (b:m.length<=i):decide (l=m)=true:=by
 rw [ztl a,ztl b] at h;exact decide_eq_true h
theorem equal_spec (l m:List Pt) (hl:l.length<4611686018427387904):PF Tryz.prog 95 [.seq (l.map Pt.cells), .seq (m.map Pt.cells)] (vb (decide (l=m))):=by
 refine pF Tryz.func95 rfl (λst=> ?_)
 (repeat' first|apply wZ;rfl|show Cn _;constructor|exact rfl|show (_:PV)=_;(rw [decide_eq_false (λe:l=m=>by subst e;simp at*)]);done|(intro h;simp at h))
 refine aC (X:={x:Nat//x<=l.length/\l.take x=m.take x}) (λi=>(((((St.nil 26 st).pv 0 (.seq (l.map Pt.cells))).pv 1 (.seq (m.map Pt.cells))).pv 12 ((vi ((((l.map Pt.cells)).length:Nat))))).pv 13 ((vi ((i.1:Nat)))))) (λi=>l.length-i.1) ⟨0,by omega,rfl⟩ ?_ (λi=> ?_)
 ·(repeat' first|show Cn _;constructor|exact rfl)
 obtain ⟨i,hi,a⟩:=i;dsimp only;have b:l.length=m.length:=by omega
 (repeat' first|(refine ⟨⟨i+1,by omega,wX a (by omega) (by omega) (by rw [Pt.ext_iff,Vl.ext_iff,Dt.ext_iff,Dt.ext_iff];simpa [and_assoc] using h)⟩, ?_, ?_⟩)|apply wZ;rfl|show Cn _;constructor|exact rfl|apply KR.mk;kernel_rfl|show (_:PV)=_;(first|rw [ahP (i:=i) (by omega) (by omega) (λe=>by simp [e] at h)];done|rw [acN a (by omega) (by omega)]);done|apply wI;rfl|apply gE;omega|omega|simp only [zql];omega|(intro h;simp at h))
def rightP (c:Cl):Int:=if c.kind≠4 then 6 else if c.val≠Vl.zero\/eZ c.parts=false then 1 else if 2000<c.parts.length then 2 else if cQ c.parts≠c.parts then 3 else 0
theorem yG (l:List Pt):(cQ l).length<=l.length:=by
 by_cases h:Whole l/\l.length<=2000
 ·exact Nat.le_of_eq (fY h.1 h.2).1.length_eq
 ·rw [iZ h];simp
theorem right_spec (c:Cl) (hl:c.parts.length<4611686018427387904):PF Tryz.prog 124 [.agg c.cells] (vi (rightP c)):=by
 have:=yG c.parts;have hc:(2000<((c.parts.length:Nat):Int))↔2000<c.parts.length:=by omega
 have b:(((c.parts.length:Nat):Int)<=2000)↔¬2000<c.parts.length:=by omega
 refine pF Tryz.func124 rfl (λst=> ?_)
 (repeat' first|apply wZ;rfl|show Cn _;constructor|exact rfl|apply KR.mk;kernel_rfl|((first|apply (abK c.parts hl)|apply (aeK c.parts hl)|apply (equal_spec (cQ c.parts) c.parts))<;>(omega))|show (_:PV)=_;(first|(simp only [rightP,Vl.ext_iff,Vl.zero,e0];grind)|(obtain ⟨⟨d,e,f⟩,g⟩:=‹(_/\_/\_)/\_›;have a:c.val=Vl.zero:=(Vl.ext_iff _ _).2 ⟨d,e,f⟩;simp only [rightP,a,g];grind));done|apply wY;rfl|(intro h;simp at h)|intro h)
end Go.Proofs.YtfablfldonhkiaaGreatDoor.T
namespace Go.Proofs.YtfablfldonhkiaaGreatDoor
open Go Go.Abs
section
set_option maxRecDepth 10000
set_option maxHeartbeats 4000000
theorem akX {α:Type} {r:α->α->Prop} (i:∀{a b c},r a b->r b c->r a c) (d:∀{a},¬r a a):∀{l m:List α},l.Pairwise r->m.Pairwise r->(∀x,x∈l↔x∈m)->l=m
 |[],[],_,_,_=>rfl
 |[],b::m,_,_,h=>absurd ((h b).2 (by simp)) (by simp)
 |a::l,[],_,_,h=>absurd ((h a).1 (by simp)) (by simp)
 |a::l,b::m,h1,h2,h=>by
  have f:=List.pairwise_cons.1 h1
  have g:=List.pairwise_cons.1 h2
  have e:a=b:=by
   rcases zmc.1 ((h a).1 (by simp)) with q|q
   ·exact q
   rcases zmc.1 ((h b).2 (by simp)) with w|w
   ·exact w.symm
   exact absurd (i (g.1 a q) (f.1 b w)) d
  subst e
  refine congrArg (a:: ·) (akX (r:=r) i d f.2 g.2 λx=> ?_)
  constructor
  ·intro q
   rcases zmc.1 ((h x).1 (List.mem_cons_of_mem _ q)) with w|w
   ·subst w;exact absurd (f.1 x q) d
   ·exact w
  ·intro q
   rcases zmc.1 ((h x).2 (List.mem_cons_of_mem _ q)) with w|w
   ·subst w;exact absurd (g.1 x q) d
   ·exact w
def KSort (L:List Ln):Prop:=(L.map (·.key)).Pairwise (· < ·)
theorem KSort.at {L:List Ln} (h:KSort L) {i j:Nat} (a:i<j) (hj:j<L.length):(L[i]'(by omega)).key<L[j].key:=by
 have:=List.pairwise_iff_getElem.1 h i j (by simp;omega) (by simpa using hj) a
 simpa using this
theorem KSort.inj {L:List Ln} (h:KSort L) {i j:Nat} (hi:i<L.length) (hj:j<L.length) (e:L[i].key=L[j].key):i=j:=by
 rcases Nat.lt_trichotomy i j with q|q|q
 ·have:=h.at q hj;omega
 ·exact q
 ·have:=h.at q hi;omega
theorem KSort.eq {L:List Ln} (h:KSort L) {x y:Ln} (hx:x∈L) (hy:y∈L) (e:x.key=y.key):x=y:=by
 obtain ⟨i,hi,rfl⟩:=zgo hx;obtain ⟨j,hj,rfl⟩:=zgo hy;have:=h.inj hi hj e;subst this;rfl
theorem eG {L:List Ln} (h:KSort L) {k:Int} {x:Ln}:aY L k=some x↔x∈L/\x.key=k:=by
 unfold aY;constructor
 ·intro q
  exact ⟨List.mem_of_find?_eq_some q,by simpa using List.find?_some q⟩
 ·rintro ⟨hx,rfl⟩
  cases q:L.find? λy=>decide (y.key=x.key) with
  |none=>exact absurd (List.find?_eq_none.1 q x hx) (by simp)
  |some y=>rw [h.eq (List.mem_of_find?_eq_some q) hx (by simpa using List.find?_some q)]
theorem aIl {L M:List Ln} (hL:KSort L) (a:KSort M) {k:Int} (h:∀x:Ln,x.key=k->(x∈L↔x∈M)):aY L k=aY M k:=by
 cases q:aY L k with
 |some x=>obtain ⟨d,b⟩:=(eG hL).1 q;exact ((eG a).2 ⟨(h x b).1 d,b⟩).symm
 |none=>
  cases w:aY M k with
  |none=>rfl
  |some x=>
   obtain ⟨e,c⟩:=(eG a).1 w;rw [(eG hL).2 ⟨(h x c).2 e,c⟩] at q;cases q
theorem aHV {L M:List Ln} (hL:KSort L) (e:KSort M) (h:∀x,x∈L↔x∈M):L=M:=by
 refine akX (r:=λa b:Ln=>a.key<b.key) (λc d=>Int.lt_trans c d) (λh=>Int.lt_irrefl _ h) ?_ ?_ h
 ·exact List.pairwise_map.1 hL
 ·exact List.pairwise_map.1 e
theorem bG {L:List Ln} (h:KSort L) (a x:Ln):x∈gX L a↔x=a\/(x∈L/\x.key≠a.key):=by
 unfold gX;rcases uZ L a.key with ⟨j,hj,e,_,hk,_⟩|⟨j,hj,e,_,hk,_,_⟩
 ·rw [e,zp rfl,Int.toNat_natCast]
  constructor
  ·intro hx
   obtain ⟨q,hq,rfl⟩:=zgo hx;rw [List.length_set] at hq;rw [List.getElem_set];split
   ·exact .inl rfl
   ·rename_i b
    exact .inr ⟨zgm hq,λc=>b (h.inj hj hq (hk.trans c.symm))⟩
  ·rintro (rfl|⟨hx,b⟩)
   ·exact List.mem_iff_getElem.2 ⟨j,by simpa using hj,by simp⟩
   ·obtain ⟨q,hq,rfl⟩:=zgo hx
    have d:q≠j:=λc=>b (by subst c;exact hk);exact List.mem_iff_getElem.2 ⟨q,by simpa using hq,by rw [List.getElem_set_ne (Ne.symm d)]⟩
 ·rw [e,zn (by simp),Int.toNat_natCast]
  unfold dY;have c:=List.take_append_drop j L;have:x∈L↔x∈L.take j\/x∈L.drop j:=by rw [<-zma,c]
  simp only [zma,zms];constructor
  ·rintro ((q|q)|q)
   ·exact .inr ⟨this.2 (.inl q),hk x (this.2 (.inl q))⟩
   ·exact .inl q
   ·exact .inr ⟨this.2 (.inr q),hk x (this.2 (.inr q))⟩
  ·rintro (q|⟨q,_⟩)
   ·exact .inl (.inr q)
   ·rcases this.1 q with q|q
    ·exact .inl (.inl q)
    ·exact .inr q
theorem KSort.put {L:List Ln} (h:KSort L) (a:Ln):KSort (gX L a):=by
 unfold gX;rcases uZ L a.key with ⟨j,hj,e,_,hk,_⟩|⟨j,hj,e,_,hk,d,b⟩
 ·rw [e,zp rfl,Int.toNat_natCast]
  unfold KSort;rw [List.map_set,<-hk];have:(L.map (·.key)).set j L[j].key=L.map (·.key):=by
   have c:j<(L.map (·.key)).length:=by simpa using hj
   have:=List.set_getElem_self c
   simpa using this
  rw [this];exact h
 ·rw [e,zn (by simp),Int.toNat_natCast]
  unfold KSort dY;have hp:=h;unfold KSort at hp;rw [<-List.take_append_drop j L,List.map_append,List.pairwise_append] at hp;rw [List.map_append,List.map_append,List.pairwise_append,List.pairwise_append];refine ⟨⟨hp.1,List.pairwise_singleton ..,λx hx y hy=> ?_⟩,hp.2.1,λx hx y hy=> ?_⟩
  ·simp only [zmp,List.map_nil,zms] at hy
   subst hy;obtain ⟨z,hz,rfl⟩:=List.mem_map.1 hx;obtain ⟨q,hq,rfl⟩:=zgo hz;rw [zlt] at hq;rw [List.getElem_take];have g:=d q (by omega) (by omega);have k:=hk _ (zgm (show q<L.length by omega));omega
  ·have f:a.key<y:=by
    obtain ⟨z,hz,rfl⟩:=List.mem_map.1 hy;obtain ⟨q,hq,rfl⟩:=zgo hz;rw [zld] at hq;rw [List.getElem_drop];have g:=b (by omega);rcases Nat.eq_zero_or_pos q with rfl|i
    ·exact g
    ·have:=h.at (show j<j+q by omega) (by omega);omega
   rw [zma] at hx;rcases hx with hx|hx
   ·exact hp.2.2 x hx y hy
   ·simp only [zmp,List.map_nil,zms] at hx
    subst hx;exact f
end
section
set_option maxRecDepth 10000
set_option maxHeartbeats 4000000
section
variable {L:List Ln}
theorem aF5 (h:KSort L) (a:Ln):aY (gX L a) a.key=some a:=(eG (h.put a)).2 ⟨(bG h a a).2 (.inl rfl),rfl⟩
theorem aAP (h:KSort L) {a:Ln} {k:Int} (hk:k≠a.key):aY (gX L a) k=aY L k:=
 aIl (h.put a) h λx hx=>by
  rw [bG h]
  exact ⟨λq=>q.elim (λe=>absurd (e▸hx.symm) hk) λq=>q.1,λq=> .inr ⟨q,hx▸hk⟩⟩
theorem aDL (h:KSort L) {a c:Ln} (b:a.key≠c.key):gX (gX L a) c=gX (gX L c) a:=
 aHV ((h.put a).put c) ((h.put c).put a) λx=>by rw [bG (h.put a),bG h,bG (h.put c),bG h];grind
end
theorem vK (b:Bs) (k k':Int) (a:List Ln):okT (iH b k a) k'=okT b k':=by unfold okT;rw [lM]
theorem sA {b:Bs} {k:Int} (h:okT b k=true) (a:List Ln):aF (iH b k a) k=a:=by
 unfold aF;rw [vK,zp h];unfold iH;rw [zp h];simp only [okT,zba,zde] at h;rw [getElem!_pos _ k.toNat (by rw [List.length_set];omega),List.getElem_set_self]
theorem aoH {b:Bs} {k:Int} (h:okT b k=false):aF b k=[]:=by unfold aF;rw [h];rfl
theorem aDS {b:Bs} {k:Int} (h:okT b k=false) (a:List Ln):iH b k a=b:=by unfold iH;rw [h];rfl
theorem set_set (b:Bs) (k:Int) (l m:List Ln):iH (iH b k l) k m=iH b k m:=by
 cases h:okT b k with
 |false=>rw [aDS h,aDS h]
 |true=>
  rw [show iH (iH b k l) k m=(iH b k l).set k.toNat ⟨m⟩ from zp (by rw [vK,h]),show iH b k l=b.set k.toNat ⟨l⟩ from zp h,show iH b k m=b.set k.toNat ⟨m⟩ from zp h,List.set_set]
variable {tx:Cl->Int}
theorem fU {t:Tb} {L:List Ln}:uT tx t L=true↔L.length<=2000/\(∀x∈L,kX tx t x=true)/\KSort L:=by
 unfold uT;rw [zba,zde,qW];refine and_congr Iff.rfl ?_;constructor
 ·intro h
  have a:∀i (hi:i<L.length),kX tx t L[i]=true/\(i=0\/L[i-1]!.key<L[i].key):=λi hi=>by
   have:=h i hi
   unfold lnR at this
   rw [getElem!_pos L i hi] at this
   simpa using this
  refine ⟨λx hx=>by obtain ⟨i,hi,rfl⟩:=zgo hx;exact (a i hi).1, ?_⟩;have key:∀j (hj:j<L.length) i (hi:i<j),(L[i]'(by omega)).key<L[j].key:=by
   intro j
   induction j with
   |zero=>intro _ i hi;exact absurd hi (Nat.not_lt_zero _)
   |succ j ih=>
    intro hj i hi;have:=(a (j+1) hj).2.resolve_left (Nat.succ_ne_zero j);rw [show j+1-1=j from rfl,getElem!_pos L j (by omega)] at this;rcases zls.1 hi with q|q
    ·exact Int.lt_trans (ih (by omega) i q) this
    ·subst q;exact this
  unfold KSort;exact List.pairwise_iff_getElem.2 λi j hi hj b=>by simpa using key j (by simpa using hj) i b
 ·rintro ⟨a,c⟩ i hi
  unfold lnR;rw [getElem!_pos L i hi,a _ (zgm hi),Bool.true_and];rcases Nat.eq_zero_or_pos i with rfl|h0
  ·simp
  ·rw [getElem!_pos L (i-1) (by omega)]
   have:=c.at (show i-1<i by omega) hi;simp [this]
theorem aI {s:Sc} {b:Bs}:aV tx s b=true↔(cE s=0/\b.length=s.length)/\∀k<b.length,uT tx s[k]! b[k]!.lines=true:=by
 unfold aV;rw [zba,zde,qW];exact Iff.rfl
theorem dR {s:Sc} {b:Bs} (h:aV tx s b=true) (k:Int):KSort (aF b k):=by
 cases hk:okT b k with
 |false=>rw [aoH hk];simp [KSort]
 |true=>
  have e:aF b k=b[k.toNat]!.lines:=by unfold aF;rw [zp hk]
  simp only [okT,zba,zde] at hk;rw [e];exact (fU.1 ((aI.1 h).2 k.toNat (by omega))).2.2
theorem aeV {s:Sc} {b:Bs} (h:aV tx s b=true) {k:Int} (hk:okT b k=true):uT tx s[k.toNat]! (aF b k)=true:=by
 have e:aF b k=b[k.toNat]!.lines:=by unfold aF;rw [zp hk]
 simp only [okT,zba,zde] at hk;rw [e];exact (aI.1 h).2 k.toNat (by omega)
theorem aAX {s:Sc} {b:Bs} (h:aV tx s b=true) {k:Int} (hk:okT b k=true) (a:List Ln):aV tx s (iH b k a)=uT tx s[k.toNat]! a:=by
 obtain ⟨d,f⟩:=aI.1 h;have c:=hk;simp only [okT,zba,zde] at c;obtain ⟨q,rfl⟩:∃q:Nat,k=q:=⟨k.toNat,by omega⟩;have hq:q<b.length:=by omega
 rw [Bool.eq_iff_iff,aI,lM,Int.toNat_natCast];constructor
 ·intro w
  have:=w.2 q hq;rwa [getElem!_pos (iH b q a) q (by rw [lM];exact hq),axX hq rfl] at this
 ·intro w
  refine ⟨d,λi hi=> ?_⟩;rw [getElem!_pos (iH b q a) i (by rw [lM];exact hi)];by_cases e:(i:Int)=q
  ·rw [axX hi e,show i=q by omega];exact w
  ·rw [aGX hi e,<-getElem!_pos b i hi];exact f i hi
end
section
attribute [local irreducible] Ev PWp
set_option maxRecDepth 10000
set_option maxHeartbeats 4000000
theorem aaX (o:Option Ln):aJO o= .tup [.agg (o.getD Ln.zero).cells,(vb (o.isSome))]:=by cases o<;>rfl
def ScB (s:Sc):Prop:=∀t∈s,TbB t
theorem aKR (c:Cl) (h:c.parts.length<=1000):aGw T.rightP c:=⟨by omega,λ_=>T.right_spec c (by omega)⟩
theorem BsS.da {n:Nat} {b:Bs} (h:BsS n b) (hn:n<=1000):∀d∈b,aJY T.rightP d:=λd hd=>by
 obtain ⟨f,a⟩:=h.2 d hd
 refine ⟨by omega,λl hl=> ?_⟩
 obtain ⟨g,i,e⟩:=a l hl
 exact ⟨⟨by omega,by omega⟩,λc hc=>aKR c (e c hc)⟩
theorem fB {n:Nat} {b:Bs} (h:BsS n b) (hn:n<=1000) {s:Sc} (hs:ScB s) (hl:s.length<=20):PF Tryz.prog 19 [.agg (scC s), .agg (bsC b)] (vb (aV T.rightP s b)):=
 auE T.rightP s b (by omega) hs (by have:=h.1;omega) (h.da hn)
theorem sE {n:Nat} {b:Bs} (h:BsS n b) (hn:n<=1000) (k key:Int):PF Tryz.prog 10 [.agg (bsC b),(vi (k)),(vi (key))] (.tup [.agg ((aY (aF b k) key).getD Ln.zero).cells,(vb ((aY (aF b k) key).isSome))]):=aaX _▸wG b k key (h.l hn).2
end
section
set_option maxRecDepth 10000
set_option maxHeartbeats 4000000
def eJ {α:Type} (f:α->Int) (l:List α):Int:=(l.find? λx=>decide (f x≠0)).elim 0 f
theorem gS {α:Type} {f:α->Int} {l:List α}:eJ f l=0↔∀x∈l,f x=0:=by
 unfold eJ;cases e:l.find? λx=>decide (f x≠0) with
 |none=>
  have:=List.find?_eq_none.1 e;simp at this;exact ⟨λ_=>this,λ_=>rfl⟩
 |some x=>
  have a:=List.find?_some e;have b:=List.mem_of_find?_eq_some e;simp at a;exact ⟨λh=>absurd h a,λh=>absurd (h x b) a⟩
theorem sL {α:Type} (f:α->Int) (x:α) (l:List α):eJ f (x::l)=if f x=0 then eJ f l else f x:=by
 unfold eJ;rw [List.find?_cons];by_cases h:f x=0
 ·simp [h]
 ·simp [h]
theorem aaS {α:Type} {f:α->Int}:∀{l:List α} {i:Nat} (h:i<l.length),(∀j (hj:j<i),f (l[j]'(by omega))=0)->f l[i]≠0->eJ f l=f l[i]
 |x::l,0,_,_,h2=>by rw [sL];exact zn h2
 |x::l,i+1,h,h1,h2=>by
  rw [sL,zp (show f x=0 from h1 0 (by omega))]
  exact aaS (l:=l) (Nat.lt_of_succ_lt_succ h) (λj hj=>h1 (j+1) (by omega)) h2
section
variable (sh:Cl->Vl) (ex:Tb->List Vl->Int)
def auO (l:Ln):List Vl:=l.cells_.map sh
def cS (b:Bs) (k:Int):List (List Vl):=(aF b k).map (auO sh)
def eB (c:Co):Int:=if c.kind=0\/c.kind=1 then c.type_ else if c.kind=2\/c.kind=3 then 1 else if c.kind=4 then 2 else 0
def uL (c:Co) (v:Vl):Int:=if cF v=false then 1 else if v.kind=0/\(c.kind=0\/c.kind=1)/\c.null=false then 7 else if v.kind≠0/\v.kind≠eB c then 6 else 0
def fA (t:Tb) (r:List Vl):Int:=if t.cols.length=r.length then eJ (λk=>uL t.cols[k]! r[k]!) (List.range r.length) else 1
def pU (u:Nat) (x y:List Vl):Bool:=(decide (x[u]!.kind=1)&&decide (y[u]!.kind=1))&&decide (x[u]!.n=y[u]!.n)
def mI (t:Tb) (rows:List (List Vl)):Bool:=t.unique.all λu=>decide (rows.Pairwise λx y=>pU u.toNat x y=false)
def aaM (b:Bs) (t:Tb) (rows:List (List Vl)):Bool:=t.foreign.all λf=>rows.all λr=> !decide (r[f.col.toNat]!.kind=1)||(aY (aF b f.table) r[f.col.toNat]!.n).isSome
def aaD (m:Su) (g:Int) (r:List Vl):Int:=if r[m.by_.toNat]!.kind=1/\r[m.by_.toNat]!.n=g/\r[m.col.toNat]!.kind=1 then r[m.col.toNat]!.n else 0
def jB (m:Su) (g:Int) (rows:List (List Vl)):Int:=(rows.map (aaD m g)).sum
def aFo (m:Su) (r:List Vl):Bool:=decide (r[m.col.toNat]!.kind=1)&&decide (r[m.col.toNat]!.n<0)
def acI (t:Tb) (rows:List (List Vl)):Bool:=t.sums.all λm=>rows.all λr=> !aFo m r&&(!decide (r[m.by_.toNat]!.kind=1)||decide (jB m r[m.by_.toNat]!.n rows<=m.max))
def ckT (b:Bs) (t:Tb) (rows:List (List Vl)):Int:=
 if eJ (fA t) rows≠0 then eJ (fA t) rows else if mI t rows=false then 8 else if eJ (ex t) rows≠0 then eJ (ex t) rows else if aaM b t rows=false then 10 else if acI t rows=false then 11 else 0
def ckW (s:Sc) (b:Bs):Int:=eJ (λk:Nat=>ckT ex b s[k]! (cS sh b k)) (List.range s.length)
variable {sh} {ex}
end
end
section
set_option maxRecDepth 10000
set_option maxHeartbeats 4000000
structure FrOK (s:Sc) (t:Tb) (f:Fr):Prop where
 c1:1<=f.col
 c2:f.col<t.cols.length
 t1:0<=f.table
 t2:f.table<s.length
 act:f.act=0\/f.act=1\/f.act=2
 kind:t.cols[f.col.toNat]!.kind=0
 typ:t.cols[f.col.toNat]!.type_=1
theorem adB {h b p a n z:Bool} (e:aqP h b p a n z=0):h=true/\b=false/\p=false/\a=false/\n=true/\z=false:=by
 unfold aqP at e;cases h<;>cases b<;>cases p<;>cases a<;>cases n<;>cases z<;>simp at e⊢
theorem ayG {s:Sc} (h:cE s=0) {k:Nat} (hk:k<s.length) {i:Nat} (hi:i<s[k].foreign.length):atC s.length s[k] i=0:=by
 have:=fR h hk (lk5 s.length s[k]!) (by simp [lks]);rw [getElem!_pos s k hk] at this;exact oQ this hi
theorem axQ {s:Sc} (h:cE s=0) {k:Nat} (hk:k<s.length) {f:Fr} (hf:f∈s[k].foreign):FrOK s s[k] f:=by
 obtain ⟨i,hi,rfl⟩:=zgo hf;have e:=adB (ayG h hk hi);rw [getElem!_pos s[k].foreign i hi] at e;obtain ⟨b,c,_,d,a,_⟩:=e;unfold pX at b;unfold nD lO at a;simp only [zba,zde,Bool.or_eq_false_iff,decide_eq_false_iff_not] at b c d a;exact ⟨by omega,b.2,by omega,by omega,by omega,a.1,a.2⟩
theorem awQ {s:Sc} (h:cE s=0) {k:Nat} (hk:k<s.length):∀(j i:Nat) (hj:j<s[k].foreign.length) (a:i<j),s[k].foreign[i].col<s[k].foreign[j].col:=by
 intro j
 induction j with
 |zero=>intro i _ h;omega
 |succ j ih=>
  intro i hj a;have e:=adB (ayG h hk hj);have b:=e.2.2.1;rw [show j+1-1=j from rfl,getElem!_pos s[k].foreign (j+1) hj,getElem!_pos s[k].foreign j (by omega)] at b;simp only [Nat.zero_lt_succ,decide_true,Bool.true_and,decide_eq_false_iff_not] at b;rcases zls.1 a with q|q
  ·have:=ih i (by omega) q;omega
  ·subst q;omega
theorem aI6 {s:Sc} (h:cE s=0) {k:Nat} (hk:k<s.length) (i j:Nat) (hi:i<s[k].foreign.length) (hj:j<s[k].foreign.length) (e:s[k].foreign[i].col=s[k].foreign[j].col):i=j:=by
 rcases Nat.lt_trichotomy i j with q|q|q
 ·have:=awQ h hk j i hj q;omega
 ·exact q
 ·have:=awQ h hk i j hi q;omega
theorem oH {s:Sc} (h:cE s=0):s.length<=16:=by
 unfold cE at h;split at h
 ·cases h
 ·omega
theorem auC {s:Sc} (h:cE s=0) {k:Nat} (hk:k<s.length):s[k].foreign.length<=16:=by
 have:=fR h hk (lk1 s[k]!) (by simp [lks]);rw [getElem!_pos s k hk] at this;unfold lk1 at this;split at this
 ·cases this
 ·omega
variable {tx:Cl->Int}
structure LineOK (tx:Cl->Int) (t:Tb) (l:Ln):Prop where
 k1:0<=l.key
 k2:l.key<1073741824
 len:l.cells_.length=t.cols.length
 kind:∀j (h:j<l.cells_.length),l.cells_[j].kind=t.cols[j]!.kind
 cell:∀c∈l.cells_,jM tx c=true
 zero:l.cells_[0]!.val=⟨1,l.key,e0⟩
 dots:yY l.by_=true
theorem aaV {t:Tb} {l:Ln}:kX tx t l=true↔LineOK tx t l:=by
 unfold kX tH;simp only [zba,zde,qW];constructor
 ·rintro ⟨⟨⟨a,b,d⟩,h4⟩,h5,e⟩
  have hc:∀j (h:j<l.cells_.length),l.cells_[j].kind=t.cols[j]!.kind/\jM tx l.cells_[j]=true:=λj hj=>by
   have:=h5 j hj
   unfold zV at this
   rw [getElem!_pos l.cells_ j hj,zba,zde] at this
   exact this
  exact ⟨a,b,d,λj hj=>(hc j hj).1,λc f=>by obtain ⟨j,hj,rfl⟩:=zgo f;exact (hc j hj).2,h4,e⟩
 ·rintro ⟨a,b,d,h4,h5,e,g⟩
  refine ⟨⟨⟨a,b,d⟩,e⟩,λj hj=> ?_,g⟩;unfold zV;rw [getElem!_pos l.cells_ j hj,h4 j hj,decide_eq_true rfl,h5 _ (zgm hj)];rfl
theorem sG {s:Sc} {b:Bs} (h:aV tx s b=true) {k:Nat} (hk:k<b.length) {l:Ln} (hl:l∈b[k].lines):LineOK tx s[k]! l:=by
 have:=(aI.1 h).2 k hk;rw [getElem!_pos b k hk] at this;exact aaV.1 ((fU.1 this).2.1 l hl)
theorem rQ {s:Sc} {b:Bs} (h:aV tx s b=true):∀k<b.length,KSort b[k]!.lines:=λk hk=>(fU.1 ((aI.1 h).2 k hk)).2.2
end
section
set_option maxRecDepth 10000
set_option maxHeartbeats 4000000
section
variable {sh:Cl->Vl} {ex:Tb->List Vl->Int} {tx:Cl->Int}
theorem avT {t:Tb} {r:List Vl} (h:fA t r=0):r.length=t.cols.length:=by
 unfold fA at h;split at h
 ·omega
 ·cases h
theorem aGp (m:Su) (g:Int) (x:List Vl) (a c:List (List Vl)):jB m g (a++x::c)=jB m g (a++c)+aaD m g x:=by
 unfold jB;simp only [List.map_append,zmp,List.sum_append,List.sum_cons];omega
theorem aqR {m:Su} {g:Int}:∀{r:List (List Vl)},(∀x∈r,¬(x[m.by_.toNat]!.kind=1/\x[m.by_.toNat]!.n=g))->jB m g r=0
 |[],_=>rfl
 |x::r,h=>by
  have a:=aqR (m:=m) (g:=g) λy hy=>h y (List.mem_cons_of_mem _ hy)
  have b:aaD m g x=0:=by
   unfold aaD;rw [zn λq=>h x (List.mem_cons_self ..) ⟨q.1,q.2.1⟩]
  unfold jB at*
  rw [zmp,List.sum_cons,b,a];rfl
end
end
section
set_option maxRecDepth 10000
set_option maxHeartbeats 4000000
section
variable {sh:Cl->Vl} {ex:Tb->List Vl->Int} {tx:Cl->Int}
theorem aC0 {L:List Ln} (h:KSort L) {a:Ln} (hn:aY L a.key=none):∃i,gX L a=L.take i++a::L.drop i:=by
 unfold gX;rcases uZ L a.key with ⟨j,hj,e,_,hk,_⟩|⟨j,hj,e,_,hk,_,_⟩
 ·have:=(eG h).2 ⟨zgm hj,hk⟩
  rw [hn] at this;cases this
 ·refine ⟨j, ?_⟩
  rw [e,zn (by simp),Int.toNat_natCast];unfold dY;simp
theorem aGf {b:Bs} {k:Int} (hk:okT b k=true) (h:KSort (aF b k)) {a:Ln} (hn:aY (aF b k) a.key=none) (m:Su) (g:Int):jB m g (cS sh (bN b k a) k)=jB m g (cS sh b k)+aaD m g (auO sh a):=by
 obtain ⟨i,e⟩:=aC0 h hn;unfold cS;rw [anY,sA hk,e,List.map_append,zmp,aGp,<-List.map_append,List.take_append_drop]
end
end
end Go.Proofs.YtfablfldonhkiaaGreatDoor
