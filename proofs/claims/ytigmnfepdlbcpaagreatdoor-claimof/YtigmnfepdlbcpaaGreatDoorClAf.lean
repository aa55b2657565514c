import Derived.Test.YtigmnfepdlbcpaaGreatDoorClAe
set_option linter.all false
set_option maxHeartbeats 4000000
set_option maxRecDepth 10000
namespace Go.Proofs.YtigmnfepdlbcpaaGreatDoor
open Go Go.Abs Tryz
variable{c col key t:Int}{L N O:List Ln}{s:Sc}{b is was:Bs}{w:Wr}{i k n p:Nat}{l:Ln}{r:List Int}{α β:Type}{st st':aD}{m:Su}{xs:Array Int}{o:Option AObj}{a v:Vl}
section
abbrev P4 :=Int×Int×Int×Int
def uN(p:P4)(M:List P4):List P4:=if p∈M then M else M++[p]
def acE(was is:Ln)(col k t c:Int)(M:List P4):List P4:=match ptP is col with
 |none=>M
 |some n=>if ptP was col=some n then M else uN (k,t,c,n) M
def aAS(was is:Ln)(l:List Fr)(M:List P4):List P4:=l.foldl (λM f=>acE was is f.n 1 f.t 0 M) M
def aDY(was is:Ln)(k:Int)(l:List Int)(M:List P4):List P4:=l.foldl (λM u=>acE was is u 2 k u M) M
def oF(t:Tb)(k:Int)(was is:Ln)(key:Int)(M:List P4):List P4:=aDY was is k t.u (aAS was is t.f (uN (1,k,0,key) M))
def zX(t:Tb)(k:Int)(N L:List Ln)(M:List P4):List P4:=L.foldl (λM l=>match bJ N l.key with
 |none=>oF t k l Ln.zero l.key M
 |some x=>if l=x then M else oF t k l x l.key M) M
def aiG(t:Tb)(k:Int)(O L:List Ln)(M:List P4):List P4:=L.foldl (λM l=>if(bJ O l.key).isSome=true then M else oF t k Ln.zero l l.key M) M
def aeI(s:Sc)(was is:Bs)(M:List P4)(k:Nat):List P4:=aiG s[k]! k (aF was k) (aF is k) (zX s[k]! k (aF is k) (aF was k) M)
def pN(s:Sc)(was is:Bs)(M:List P4):List P4:=(List.range s.length).foldl (aeI s was is) M
def lP(w:Wr)(s:Sc):Bs->List Ot->List P4->List P4
 |_,[],M=>M
 |b,o::r,M=>lP w s (bV w s b o).1 r (pN s b (bV w s b o).1 M)
def acM(t:Tb)(k:Int)(was is:Ln)(key:Int)(x:P4):Prop:=x=(1,k,0,key)\/(∃f∈t.f,∃n,ptP is f.n=some n/\ptP was f.n≠some n/\x=(1,f.t,0,n))\/∃u∈t.u,∃n,ptP is u=some n/\ptP was u≠some n/\x=(2,k,u,n)
def aCN(s:Sc)(was is:Bs)(x:P4):Prop:=∃k<s.length,∃key,bJ (aF was (k:Nat)) key≠bJ (aF is (k:Nat)) key/\acM s[k]! k ((bJ (aF was (k:Nat)) key).getD Ln.zero) ((bJ (aF is (k:Nat)) key).getD Ln.zero) key x
def aHM(w:Wr)(s:Sc):Bs->List Ot->P4->Prop
 |_,[],_=>False
 |b,o::r,x=>aCN s b (bV w s b o).1 x\/aHM w s (bV w s b o).1 r x
theorem aBU{p x:P4}{M:List P4}:x∈uN p M↔x∈M\/x=p:=by
 unfold uN
 grind
theorem apI{p:P4}{M:List P4}(h:M.Nodup):(uN p M).Nodup:=by
 unfold uN
 grind
theorem pI{α:Type}{F:List P4->α->List P4}{Q:α->P4->Prop}{x:P4}:∀(l:List α)(M:List P4),(∀a∈l,∀M,x∈F M a↔x∈M\/Q a x)->(x∈l.foldl F M↔x∈M\/∃a∈l,Q a x)
 |[],M,_=>by simp
 |a::l,M,h=>by
  rw[List.foldl_cons,pI l _ λc hc=>h c (zmm _ hc),h a List.mem_cons_self]
  grind
theorem vH{α:Type}{F:List P4->α->List P4}:∀(l:List α)(M:List P4),(∀a∈l,∀M:List P4,M.Nodup->(F M a).Nodup)->M.Nodup->(l.foldl F M).Nodup
 |[],_,_,h=>h
 |a::l,M,hF,h=>by
  exact vH l _ (λc hc=>hF c (zmm _ hc)) (hF a List.mem_cons_self _ h)
theorem aCA{was is:Ln}{k:Int}{M:List P4}{x:P4}:x∈acE was is col k t c M↔x∈M\/∃n,ptP is col=some n/\ptP was col≠some n/\x=(k,t,c,n):=by
 unfold acE;cases h:ptP _ _ with
 |none=>simp
 |some n=>
  dsimp only;split
  ·grind
  ·rw[aBU]
   grind
theorem aFW{was is:Ln}{k:Int}{M:List P4}(h:M.Nodup):(acE was is col k t c M).Nodup:=by
 unfold acE;split
 ·exact h
 ·split
  ·exact h
  ·exact apI h
theorem ahF{t:Tb}{k:Int}{was is:Ln}{M:List P4}{x:P4}:x∈oF t k was is key M↔x∈M\/acM t k was is key x:=by
 unfold oF aDY aAS acM;rw[pI (Q:=λu x=>∃n,ptP _ u=some n/\ptP _ u≠some n/\x=(2,k,u,n)) _ _ λu _ M=>aCA,pI (Q:=λ(f) x=>∃n,ptP _ _=some n/\ptP _ _≠some n/\x=(1,f.t,0,n)) _ _ λf _ M=>aCA,aBU]
 grind
theorem apM{t:Tb}{k:Int}{was is:Ln}{M:List P4}(h:M.Nodup):(oF t k was is key M).Nodup:=
 vH _ _ (λ_ _ _ q=>aFW q) (vH _ _ (λ_ _ _ q=>aFW q) (apI h))
theorem aJm{t:Tb}{k:Int}{M:List P4}{x:P4}:x∈zX t k N L M↔x∈M\/∃l∈L,some l≠bJ N l.key/\acM t k l ((bJ N l.key).getD Ln.zero) l.key x:=by
 refine pI (Q:=λ(l) x=>some l≠bJ N _/\acM t k l _ _ x) _ _ λl _ M=>?_;cases h:bJ N _ with
 |none=>
  rw[ahF];simp
 |some y=>
  dsimp only;split
  ·grind
  ·rename_i e
   rw[ahF];simp[e]
theorem aLB{t:Tb}{k:Int}{M:List P4}(h:M.Nodup):(zX t k N L M).Nodup:=
 vH _ _ (λl _ M q=>by
  cases bJ N _ with
  |none=>exact apM q
  |some y=>
   dsimp only;split
   ·exact q
   ·exact apM q) h
theorem aJs{t:Tb}{k:Int}{M:List P4}{x:P4}:x∈aiG t k O L M↔x∈M\/∃l∈L,bJ O l.key=none/\acM t k Ln.zero l l.key x:=by
 refine pI (Q:=λ(l) x=>bJ O _=none/\acM t k _ l _ x) _ _ λl _ M=>?_;cases h:bJ O _ with
 |none=>rw[zn (by simp),ahF];simp
 |some y=>simp
theorem aLq{t:Tb}{k:Int}{M:List P4}(h:M.Nodup):(aiG t k O L M).Nodup:=
 vH _ _ (λl _ M q=>by
  split
  ·exact q
  ·exact apM q) h
theorem aK1{M:List P4}(h:M.Nodup):(pN s was is M).Nodup:=vH _ _ (λ_ _ _ q=>aLq (aLB q)) h
theorem aHm(c:∀k:Int,KSort (aF was k))(d:∀k:Int,KSort (aF is k)){M:List P4}{x:P4}:x∈pN s was is M↔x∈M\/aCN s was is x:=by
 unfold pN aCN;rw[pI (Q:=λ(k:Nat) x=>∃key,bJ (aF was (k:Nat)) key≠bJ (aF is (k:Nat)) key/\acM s[k]! k ((bJ (aF was (k:Nat)) key).getD Ln.zero) ((bJ (aF is (k:Nat)) key).getD Ln.zero) key x) _ _ λk _ M=>?_]
 ·simp only[zmr]
 unfold aeI;rw[aJs,aJm,or_assoc];refine or_congr Iff.rfl ?_;constructor
 ·rintro(⟨l,hl,a,q⟩|⟨l,hl,a,q⟩)
  ·have e:bJ (aF was k) l.key=some l:=(rA (c k)).2 ⟨hl,rfl⟩
   exact⟨l.key,by rw[e];exact a,by rw[e];exact q⟩
  ·have e:bJ (aF is k) l.key=some l:=(rA (d k)).2 ⟨hl,rfl⟩
   grind
 ·rintro⟨key,a,q⟩
  cases e:bJ (aF was k) key with
  |some l=>
   obtain⟨m1,rfl⟩:=(rA (c k)).1 e
   grind
  |none=>
   cases b:bJ (aF is k) key with
   |none=>rw[e,b]at a;exact absurd rfl a
   |some l=>
    obtain⟨m1,rfl⟩:=(rA (d k)).1 b;exact .inr ⟨l,m1,e,by rw[e,b]at q;exact q⟩
theorem aFI{w:Wr}{s:Sc}:∀{l:List Ot}{b:Bs}{M:List P4},M.Nodup->(lP w s b l M).Nodup
 |[],_,_,h=>h
 |o::r,b,M,h=>by
  show(lP w s _ r _).Nodup
  exact aFI (aK1 h)
theorem rS{o:Ot}{r:List Ot}(h:(aV w s b (o::r)).2=0):(bV w s b o).2=0/\aV w s b (o::r)=aV w s (bV w s b o).1 r:=by
 rw[pV]at h⊢
 grind
theorem aaZ{o:Ot}(hw:tD w=true)(hb:bA T.rightP s b=true)(a:OpW k b)(hf:oC o)(h:(bV w s b o).2=0):bA T.rightP s (bV w s b o).1=true/\OpW (k+1) (bV w s b o).1:=by
 have e:aV w s b [o]=((bV w s b o).1,0):=by rw[pV,zn (by grind)];rfl
 have:=mX hw (l:=[o]) hb a (by grind) (by grind)
 grind
theorem aCh{w:Wr}{s:Sc}(hw:tD w=true){x:P4}:∀{l:List Ot}{b:Bs}{k:Nat}{M:List P4},bA T.rightP s b=true->OpW k b->(∀o∈l,oC o)->(aV w s b l).2=0->(x∈lP w s b l M↔x∈M\/aHM w s b l x)
 |[],b,k,M,_,_,_,_=>by simp[lP,aHM]
 |o::r,b,k,M,hb,hW,hf,h=>by
  have⟨h0,e⟩:=rS h
  have⟨b1,b2⟩:=aaZ hw hb hW (hf o List.mem_cons_self) h0
  unfold lP aHM
  rw[aCh hw b1 b2 (λp hp=>hf p (zmm _ hp)) (e▸h),aHm (mC hb) (mC b1),or_assoc]
theorem aCb(u:Int):ptP Ln.zero u=none:=by
 unfold ptP;rw[zn];show¬(0<=u/\u<(0));omega
def aqW(s:Sc)(k:Nat)(u:Int):Prop:=0<=u/\u<s[k]!.o.length/\s[k]!.o[u.toNat]!.k=0
theorem aIA(h:bY s=0)(hk:k<s.length){f:Fr}(hf:f∈s[k]!.f):aqW s k f.n:=by
 rw[zep s k hk]at hf;have q:=amY h _ hf;unfold aqW;rw[zep s k hk];exact⟨by have:=q.c1;omega,q.c2,q.k⟩
theorem aFl(h:bY s=0)(hk:k<s.length){u:Int}(hu:u∈s[k]!.u):aqW s k u:=by
 rw[zep s k hk]at hu;have q:=aFE h _ hu;unfold aqW;rw[zep s k hk];exact⟨by have:=q.c1;omega,q.c2,q.kc⟩
theorem vA(hb:bA T.rightP s b=true)(hk:k<s.length)(hl:l∈aF b (k:Int)):LineOK T.rightP s[k]! l:=by
 obtain⟨⟨_,c⟩,_⟩:=aS.1 hb;have a:k<b.length:=by omega
 rw[gX a]at hl;exact vO hb _ hl
theorem abH(hb:bA T.rightP s b=true)(hk:k<s.length){u:Int}(hu:aqW s k u)(hl:l∈aF b (k:Int)):eN l u:=λj hj e=>by
 have hL:=vA hb hk hl
 rw[hL.k j _]
 have:=hu.2.2
 grind
theorem ajF(u:Int):eN Ln.zero u:=λj hj _=>by trivial
theorem awJ(hb:bA T.rightP s b=true)(hk:k<s.length){u:Int}(hu:aqW s k u)(hl:l∈aF b (k:Int)){n:Int}(hp:ptP l u=some n): -1099511627776<=n/\n<=1099511627776:=by
 have hL:=vA hb hk hl;have a:=hL.len;have⟨d,e,c⟩:=hu;have hj:u.toNat<l.c.length:=by omega
 unfold ptP at hp;rw[zp (by omega),zep l.c _ hj]at hp;split at hp
 ·obtain rfl:=Option.some.inj hp
  have hc:=hL.cell _ (zgm hj);unfold mK at hc;rw[zp (by rw[hL.k _ _];exact c),zba]at hc;exact(aA7 hc.1).1
 ·cases hp
def aoT(x:P4):Prop:= -1099511627776<=x.2.2.2/\x.2.2.2<=1099511627776
theorem azL(g:bA T.rightP s was=true)(c:bA T.rightP s is=true){x:P4}(h:aCN s was is x):aoT x:=by
 have⟨k,hk,key,j,h⟩:=h;have b:=(aS.1 c).1.1;have a:∀u n,aqW s k u->ptP ((bJ (aF is (k:Int)) key).getD Ln.zero) u=some n-> -1099511627776<=n/\n<=1099511627776:=λu n hu hp=>by
  cases e:bJ (aF is (k:Int)) key with
  |none=>rw[e]at hp;rw[show((none:Option Ln).getD Ln.zero)=Ln.zero from rfl,aCb]at hp;cases hp
  |some l=>rw[e]at hp;exact awJ c hk hu (rJ e) hp
 rcases h with rfl|⟨f,hf,n,d,_,rfl⟩|⟨u,hu,n,d,_,rfl⟩
 ·unfold aoT
  dsimp only;cases e:bJ (aF was (k:Int)) key with
  |some l=>
   have⟨m1,m⟩:=(rA (mC g k)).1 e;have hL:=vA g hk m1;have:=hL.k1;have:=hL.k2;omega
  |none=>
   cases i:bJ (aF is (k:Int)) key with
   |none=>grind
   |some l=>
    have⟨m1,m⟩:=(rA (mC c k)).1 i;have hL:=vA c hk m1;have:=hL.k1;have:=hL.k2;omega
 ·exact a _ _ (aIA b hk hf) d
 ·exact a _ _ (aFl b hk hu) d
theorem alI{w:Wr}{s:Sc}(hw:tD w=true){x:P4}:∀{l:List Ot}{b:Bs}{k:Nat},bA T.rightP s b=true->OpW k b->(∀o∈l,oC o)->(aV w s b l).2=0->aHM w s b l x->aoT x
 |[],_,_,_,_,_,_,h=>h.elim
 |o::r,b,k,hb,hW,hf,h,hx=>by
  have⟨h0,e⟩:=rS h
  have⟨b1,b2⟩:=aaZ hw hb hW (hf o List.mem_cons_self) h0
  rcases hx with q|q
  ·exact azL hb b1 q
  ·exact alI hw b1 b2 (λp hp=>hf p (zmm _ hp)) (e▸h) q
theorem aCI{was is:Ln}{k:Int}{M:List P4}:(acE was is col k t c M).length<=M.length+1:=by
 unfold acE uN
 grind
theorem fI{α:Type}{F:List P4->α->List P4}{n:Nat}:∀(l:List α)(M:List P4),(∀a∈l,∀M,(F M a).length<=M.length+n)->(l.foldl F M).length<=M.length+n*l.length
 |[],M,_=>by simp
 |a::l,M,h=>by
  have b:=fI l (F M a) λc hc=>h c (zmm _ hc)
  have d:=h a List.mem_cons_self M
  rw[List.foldl_cons,zlc,Nat.mul_add]
  omega
theorem aiC{t:Tb}{k:Int}{was is:Ln}{M:List P4}:(oF t k was is key M).length<=M.length+(1+t.f.length+t.u.length):=by
 unfold oF aDY aAS;refine Nat.le_trans (fI _ _ λ_ _ _=>aCI) ?_;have a:=fI t.f (uN (1,k,0,key) M) (F:=λM f=>acE was is f.n 1 f.t 0 M) λ_ _ _=>aCI;have b:(uN (1,k,0,key) M).length<=M.length+1:=by
  unfold uN
  grind
 omega
theorem aJn{t:Tb}{k:Int}{M:List P4}:(zX t k N L M).length<=M.length+(1+t.f.length+t.u.length)*L.length:=
 fI _ _ λl _ M=>by
  cases bJ N _ with
  |none=>exact aiC
  |some y=>
   dsimp only;split
   ·omega
   ·exact aiC
theorem aIN{t:Tb}{k:Int}{M:List P4}:(aiG t k O L M).length<=M.length+(1+t.f.length+t.u.length)*L.length:=
 fI _ _ λl _ M=>by
  split
  ·omega
  ·exact aiC
def aKR(s:Sc):Prop:=s.length<=20/\∀k<s.length,s[k]!.f.length+s[k]!.u.length<=400
theorem aJM(hs:aKR s)(a:∀k:Int,(aF was k).length<=200)(b:∀k:Int,(aF is k).length<=200)(hk:k<s.length){M:List P4}:(aeI s was is M k).length<=M.length+160400:=by
 unfold aeI;have e:=aIN (t:=s[k]!) (k:=k) (O:=aF was k) (L:=aF is k) (M:=zX s[k]! k (aF is k) (aF was k) M);have f:=aJn (t:=s[k]!) (k:=k) (N:=aF is k) (L:=aF was k) (M:=M);have g:=hs.2 k hk;have c:(1+s[k]!.f.length+s[k]!.u.length)*(aF _ k).length<=401*200:=Nat.mul_le_mul (by omega) (a k);have d:(1+s[k]!.f.length+s[k]!.u.length)*(aF _ k).length<=401*200:=Nat.mul_le_mul (by omega) (b k);omega
theorem aDJ(hs:aKR s)(a:∀k:Int,(aF was k).length<=200)(b:∀k:Int,(aF is k).length<=200){M:List P4}:(pN s was is M).length<=M.length+3208000:=by
 unfold pN;have:=fI _ M λk hk M=>aJM hs a b (zmr.1 hk);have c:=hs.1
 grind
theorem aeO{w:Wr}{s:Sc}(hs:aKR s):∀{l:List Ot}{b:Bs}{k:Nat}{M:List P4},OpW k b->k+l.length<=20->(∀o∈l,oC o)->(lP w s b l M).length<=M.length+3208000*l.length
 |[],_,_,_,_,_,_=>by simp[lP]
 |o::r,b,k,M,hW,hk,hf=>by
  rw[zlc]at hk
  have a:=aH2 (w:=w) (s:=s) hW (hf o List.mem_cons_self)
  unfold lP
  have c:=aDJ hs (was:=b) (is:=(bV w s b o).1) (M:=M) (λk=>by have:=(fD hW k).1;omega) λk=>by have:=(fD a k).1;omega
  have d:=aeO hs (w:=w) (M:=pN s b (bV w s b o).1 M) a (by omega) λp hp=>hf p (zmm _ hp)
  grind
end
section
section
variable{α:Type}(lt:α->α->Bool)
def aAp(x:α):List α->List α
 |[]=>[x]
 |a::l=>if lt a x=true then a::aAp x l else x::a::l
def rK(l:List α):List α:=l.foldr (aAp lt) []
theorem abT(x:α):∀l:List α,(aAp lt x l).Perm (x::l)
 |[]=> .refl _
 |a::l=>by
  unfold aAp
  split
  ·exact((abT x l).cons a).trans (List.Perm.swap x a l)
  rfl
theorem eC :∀l:List α,(rK lt l).Perm l
 |[]=> .refl _
 |a::l=>(abT _ a _).trans ((eC l).cons a)
structure OrdX :Prop where
 asy:∀{a b},lt a b=true->lt b a=false
 neg:∀{a b c},lt a b=false->lt c a=false->lt c b=false
 eq:∀{a b},lt a b=false->lt b a=false->a=b
variable{lt}
theorem aBR(h:OrdX lt)(x:α):∀{l:List α},l.Pairwise (λa b=>lt b a=false)->(aAp lt x l).Pairwise λa b=>lt b a=false
 |[],_=>by simp[aAp]
 |a::l,hp=>by
  have⟨c,d⟩:=List.pairwise_cons.1 hp
  unfold aAp
  split
  ·rename_i e
   refine List.pairwise_cons.2 ⟨λb hb=>?_,aBR h x d⟩;rcases zmc.1 ((abT _ x l).mem_iff.1 hb)with rfl|hb
   ·exact h.asy e
   grind
  ·rename_i e
   have e:=by simpa using e
   refine List.pairwise_cons.2 ⟨λb hb=>?_,hp⟩;rcases zmc.1 hb with rfl|hb
   ·exact e
   ·exact h.neg e (c b hb)
theorem zC(h:OrdX lt):∀l:List α,(rK lt l).Pairwise λa b=>lt b a=false
 |[]=>List.Pairwise.nil
 |a::l=>aBR h a (zC h l)
theorem pM(h:OrdX lt){l:List α}(hn:l.Nodup)(hp:l.Pairwise λa b=>lt b a=false):l.Pairwise λa b=>lt a b=true:=by
 refine(hn.and hp).imp fun{a b} q=>?_;cases e:lt a b with
 |true=>rfl
 |false=>exact absurd (h.eq e q.2) q.1
theorem axK(h:OrdX lt){l m:List α}(hl:l.Pairwise λa b=>lt a b=true)(hm:m.Pairwise λa b=>lt a b=true)(hx:∀x,x∈l↔x∈m):l=m:=
 aqU (fun{a b c} h1 h2=>by
  cases e:lt a c with
  |true=>rfl
  |false=>have:=h.neg (h.asy h2) e;grind) (fun{a} q=>by have:=h.asy q;grind) hl hm hx
theorem alD(h:OrdX lt){M R:List α}(hn:M.Nodup)(hp:R.Perm M)(hw:R.Pairwise λa b=>lt b a=false):R=rK lt M:=
 axK h (pM h (hp.nodup_iff.2 hn) hw) (pM h ((eC _ M).nodup_iff.2 hn) (zC h M)) λx=>hp.mem_iff.trans (eC _ M).mem_iff.symm
end
def eK(a b:P4):Bool:=decide (a.1<b.1\/a.1=b.1/\(a.2.1<b.2.1\/a.2.1=b.2.1/\(a.2.2.1<b.2.2.1\/a.2.2.1=b.2.2.1/\a.2.2.2<b.2.2.2)))
theorem lex4_ord :OrdX eK where
 asy {a b} h:=by simp only[eK,zde,zdf]at*;omega
 neg {a b c} h1 h2:=by simp only[eK,zdf]at*;omega
 eq {a b} h1 h2:=by
  simp only[eK,zdf]at*
  grind
def ltI(a b:Int):Bool:=decide (a<b)
theorem yO :OrdX ltI where
 asy {a b} h:=by simp only[ltI,zde,zdf]at*;omega
 neg {a b c} h1 h2:=by simp only[ltI,zdf]at*;omega
 eq {a b} h1 h2:=by simp only[ltI,zdf]at*;omega
def akG :List Int->List Int
 |[]=>[]
 |a::l=>if a∈akG l then akG l else a::akG l
theorem agK{x:Int}:∀{l:List Int},x∈akG l↔x∈l
 |[]=>Iff.rfl
 |a::l=>by
  unfold akG
  have b:=agK (x:=x) (l:=l)
  grind
theorem aeW :∀l:List Int,(akG l).Nodup
 |[]=>List.nodup_nil
 |a::l=>by
  unfold akG
  split
  ·exact aeW l
  ·rename_i h
   exact List.nodup_cons.2 ⟨h,aeW l⟩
def lN(l:List Int):List Int:=rK ltI (akG l)
theorem aAb{l:List Int}(hp:r.Pairwise (· < ·))(hx:∀x,x∈r↔x∈l):r=lN l:=
 axK yO (hp.imp fun{a b} h=>zdt h) (pM yO ((eC _ _).nodup_iff.2 (aeW l)) (zC yO _)) λx=>by
  rw[hx];unfold lN;rw[(eC _ _).mem_iff,agK]
theorem aDq{l:List Int}{x:Int}:x∈lN l↔x∈l:=by unfold lN;rw[(eC _ _).mem_iff,agK]
theorem acD(l:List Int):(lN l).length<=l.length:=by
 unfold lN;rw[(eC _ _).length_eq]
 induction l with
 |nil=>simp[akG]
 |cons a l ih=>
  unfold akG
  grind
def iM(b:Bs)(k:Nat)(m:Su):List Int:=(aF b (k:Int)).filterMap λl=>ptP l m.b
abbrev S4 :=Int×Int×Int×Int
noncomputable def moreS(s:Sc)(was is:Bs)(k i:Nat)(g:Int):Option S4:=if totC s is k i g-totC s was k i g≠0 then some (k,i,g,totC s is k i g-totC s was k i g)else none
noncomputable def sumI(s:Sc)(was is:Bs)(k i:Nat):List S4:=(lN (iM was k s[k]!.s[i]!++iM is k s[k]!.s[i]!)).filterMap (moreS s was is k i)
noncomputable def sumK(s:Sc)(was is:Bs)(k:Nat):List S4:=(List.range s[k]!.s.length).flatMap (sumI s was is k)
noncomputable def sumsP(s:Sc)(was is:Bs):List S4:=if bA T.rightP s was=true/\bA T.rightP s is=true then(List.range s.length).flatMap (sumK s was is)else[]
structure Rg where
 k:Int
 t:Int
 n:Int
 lo:Int
 hi:Int
 amt:Int
def Rg.z(r:Rg):List PV:=[vi r.k,vi r.t,vi r.n,vi r.lo,vi r.hi,vi r.amt]
def rgP(p:P4):Rg:=⟨p.1,p.2.1,p.2.2.1,p.2.2.2,p.2.2.2+1,0⟩
def rgS(x:S4):Rg:=⟨3,x.1,x.2.1,x.2.2.1,0,x.2.2.2⟩
noncomputable def ofP(w:Wr)(s:Sc)(b:Bs)(l:List Ot):List Rg×Int:=if l.length=0 then([],0)else if(jV w s b l).2≠0 then([],(jV w s b l).2)else((rK eK (lP w s b l [])).map rgP++((sumsP s b (jV w s b l).1).filter λx=>decide (x.2.2.2>0)).map rgS,0)
end
section
attribute [local irreducible] Ev PWp
theorem amV{l m:List α}(h:l.take i=m.take i)(a:i<l.length)(b:i<m.length)(e:l[i]=m[i]):l.take (i+1)=m.take (i+1):=by
 rw[zts a,zts _,h,e]
theorem aBr[DecidableEq α]{l m:List α}(a:i<l.length)(b:i<m.length)(e:l[i]≠m[i]):decide (l=m)=false:=zdj λh=>by grind
theorem aCc[DecidableEq α]{l m:List α}(h:l.take i=m.take i)(a:l.length<=i)(b:m.length<=i):decide (l=m)=true:=by
 rw[ztl a,ztl b]at h;grind
theorem awH(l m:List Dt)(hl:l.length<4611686018427387904):qf 78 [.seq (l.map Dt.z), .seq (m.map Dt.z)] (vb (decide (l=m))):=by
 refine pF func78 rfl λst=>?_
 repeat' first|apply wZ;rfl|constructor|show(_:PV)=_;rw[zdj λe:l=m=>by subst e;simp at*];done|intro h;simp at h
 refine aC (X:={x:Nat//x<=l.length/\l.take x=m.take x}) (λi=>(((((St.nil 26 st).pv 0 (.seq (l.map Dt.z))).pv 1 (.seq (m.map Dt.z))).pv 12 (vi ((l.map Dt.z).length:Nat))).pv 13 (vi (i.1:Nat)))) (λi=>l.length-i.1) ⟨0,by omega,rfl⟩ ?_ λi=>?_;rotate_left;have⟨i,hi,a⟩:=i;dsimp only;have b:l.length=m.length:=by omega
 all_goals (repeat' first|refine⟨⟨i+1,by omega,amV a (by omega) (by omega) (by rw[Dt.ext_iff];simpa[and_assoc]using h)⟩,?_,?_⟩|apply wZ;rfl|apply KR.mk;kernel_rfl|omega|constructor|show(_:PV)=_;(first|rw[aBr (i:=i) (by omega) (by omega) λe=>by simp[e]at h];done|rw[aCc a (by omega) (by omega)]);done|apply wI;rfl|apply gE;omega|simp<;>omega|intro h;simp at h)
theorem axS(a b:Cl)(hl:(a.p.length:Nat)<4611686018427387904):qf 80 [.agg a.z, .agg b.z] (vb (decide (a=b))):=by
 have h:=T.equal_spec a.p b.p hl;have e:decide (a=b)=((decide (a.k=b.k)&&decide (a.val=b.val))&&decide (a.p=b.p)):=by rw[zbi];simp[Cl.ext_iff,and_assoc]
 rw[e,<-Vl.eqb];generalize decide (a.p=b.p)=D at*;refine pF func80 rfl λst=>?_
 repeat' first|apply wZ;rfl|constructor|apply h|apply wY;rfl
theorem aG1(l m:List Cl)(hl:l.length<4611686018427387904)(hp:∀c∈l,c.p.length<4611686018427387904):qf 79 [.seq (l.map Cl.z), .seq (m.map Cl.z), .fn 80 []] (vb (decide (l=m))):=by
 refine pF func79 rfl λst=>?_
 repeat' first|apply wZ;rfl|constructor|show(_:PV)=_;rw[zdj λe:l=m=>by subst e;simp at*];done|intro h;simp at h
 refine aC (X:={x:Nat//x<=l.length/\l.take x=m.take x}) (λi=>((((((St.nil 32 st).pv 1 (.seq (m.map Cl.z))).pv 2 (.fn 80 [])).pv 15 (.seq (l.map Cl.z))).pv 16 (vi ((l.map Cl.z).length:Nat))).pv 17 (vi (i.1:Nat)))) (λi=>l.length-i.1) ⟨0,by omega,rfl⟩ ?_ λi=>?_;rotate_left;have⟨i,hi,a⟩:=i;dsimp only;have g:l.length=m.length:=by omega
 by_cases b:l.length<=i;have e:=aCc a b (by omega);rotate_left;have d:i<l.length:=by omega
 have f:i<m.length:=by omega
 have hc:=axS l[i] m[i] (hp _ (zgm d));by_cases hx:l[i]=m[i];have hn:=amV a d f hx;rw[zdt hx]at hc;rotate_left;have e:=aBr d f hx;rw[zdj hx]at hc
 all_goals (repeat' first|refine⟨⟨i+1,by omega,hn⟩,?_,?_⟩|apply wZ;rfl|omega|constructor|apply hc|apply wY;rfl|apply wI;rfl|apply gE;omega|show(_:PV)=_;rw[e];done|simp<;>omega|intro h;simp at h)
theorem aBh(a b:Ln)(f:a.b.length<4611686018427387904)(hb:a.c.length<4611686018427387904)(hp:∀c∈a.c,c.p.length<4611686018427387904):qf 39 [.agg a.z, .agg b.z] (vb (decide (a=b))):=by
 have h:=awH a.b b.b f;have d:=aG1 a.c b.c hb hp;have e:decide (a=b)=((decide (a.key=b.key)&&decide (a.b=b.b))&&decide (a.c=b.c)):=by
  rw[zbi];simp only[zba,zde,Ln.ext_iff];exact⟨λ⟨a,b,c⟩=>⟨⟨a,c⟩,b⟩,λ⟨⟨a,c⟩,b⟩=>⟨a,b,c⟩⟩
 rw[e];generalize decide (a.b=b.b)=D at*;generalize decide (a.c=b.c)=C at*;refine pF func39 rfl λst=>?_
 repeat' first|apply wZ;rfl|constructor|(first|apply h|apply d)|apply wY;rfl
def p4C(p:P4):List PV:=[vi p.1,vi p.2.1,vi p.2.2.1,vi p.2.2.2]
theorem aKg :Tryz.prog.bytesOf 66=32:=rfl
theorem aJg :Tryz.prog.cellsOf 66=4:=rfl
def p4L(p:P4):List Int:=[p.1,p.2.1,p.2.2.1,p.2.2.2]
def aGM(a b:P4):Int:=T.cmpL (p4L a) (p4L b)
theorem awZ(a b:P4):aGM a b<0↔eK a b=true:=by
 unfold aGM p4L eK;rw[zde];simp only[T.cmpL,T.cmpI_eq];by_cases c:a.1=b.1
 ·rw[zp c]
  by_cases d:a.2.1=b.2.1
  ·rw[zp d]
   by_cases e:a.2.2.1=b.2.2.1
   ·rw[zp e]
    by_cases h4:a.2.2.2=b.2.2.2
    ·rw[zp h4];omega
    ·rw[zn h4,T.cmpI_lt];omega
   ·rw[zn e,T.cmpI_lt];omega
  ·rw[zn d,T.cmpI_lt];omega
 ·rw[zn c,T.cmpI_lt];omega
theorem qT(a b:P4):qf 18 [.agg (p4C a), .agg (p4C b)] (vi (aGM a b)):=by
 have h:=T.compare_spec (p4L a) (p4L b) (show 4<4611686018427387904 from by omega);refine pF func18 rfl λst=>?_
 repeat' first|apply aCu 2;rfl;rfl;rfl|apply aCu 3;rfl;rfl;rfl|apply wZ;rfl|apply KR.mk;kernel_rfl|constructor|apply h|apply slA pk (rows:=(p4L a).map I1);(iterate 7 rfl);rotate_left;rfl;rfl|apply slA pk (rows:=(p4L b).map I1);(iterate 7 rfl);rotate_left;rfl;rfl|apply wY;rfl
theorem aFf(l:List P4){id:Nat}(j:st id=some (.arr 66 (l.map p4C)))(hn:l.length=n)(i:n<4611686018427387904):
  qc 17 [.vec id 4 0 n, .fn 18 []] st λ_ S=>∃r:List P4,S=upd st id (some (.arr 66 (r.map p4C)))/\r.Perm l/\r.Pairwise λx y=>eK y x=false:=by
 have hz:∀x y:P4,ltOf aGM x y=eK x y:=λx y=>by
  unfold ltOf
  rw[zbi,zde,awZ]
 have:=awK (P:=qp) aOz (by kernel_rfl) (k:=4) Tryz.isAgg66 Tryz.sizeOf66 (enc:=λx:P4=>[.int .i64 x.1, .int .i64 x.2.1, .int .i64 x.2.2.1, .int .i64 x.2.2.2]) (λ_=>rfl) (λx v hv=>by simp only[zmc,List.not_mem_nil,or_false]at hv;rcases hv with rfl|rfl|rfl|rfl<;>rfl) (cmp:=aGM)
  ⟨λx=>by rw[hz,eK,zdf];omega,λx y z c f=>by rw[hz,eK,zde]at*;omega,λx y z c f=>by rw[hz,eK,zdf]at*;omega⟩ (gf:=18) (by kernel_rfl) (λx y=>qT x y) (st:=st) (id:=id) (n:=n) (d:=l) (e:=66) (by kernel_rfl) j hn i
 refine⟨this.1,λw g vs c f=>(this.2 w g vs c f).mono ?_⟩
 rintro e w' ⟨v,q,S,g',h3,⟨r,hS,hp,hw⟩,h4⟩
 exact⟨v,q,S,g',h3,⟨r,hS,hp,hw.imp fun{a b} h=>by cases e:eK b a with|false=>rfl|true=>exact absurd ((awZ b a).2 e) h⟩,h4⟩
def lL(p:P4):Value:= .agg (afO p).toArray
theorem aFU :KeyOK qp 66 lL (λp=> .agg (p4C p)):=
 azB aT rfl rfl rfl rfl (λa b=>by
  show some _=_
  simp[Prod.ext_iff]) rfl
def m4E(M:List P4):List (P4×Bool):=M.map λr=>(r,true)
def m4M(M:List P4):AObj:= .map (aY lL bF (m4E M))
theorem aK8{p:P4}:∀{M:List P4},dE p true (m4E M)=m4E (uN p M)
 |[]=>rfl
 |x::M=>by
  have a:=aK8 (p:=p) (M:=M)
  unfold uN at a⊢
  simp only[m4E,zmp,dE]at a⊢
  grind
theorem aNO{id:Nat}{p:P4}{M:List P4}:upd (upd st id (some (m4M M))) id (some (.map (aY lL bF (dE p true (m4E M)))))=upd st id (some (m4M (uN p M))):=by
 rw[eX,aK8];rfl
theorem avO(was is:Ln)(col:Int)(i:eN was col)(j:eN is col)(k t c z:Int)(M:List P4)(st:aD)(id:Nat):
  qc 82 [.mref id, .agg was.z, .agg is.z,vi col, .agg [vi k,vi t,vi c,vi z]] (upd st id (some (m4M M))) λ_ S=>S=upd st id (some (m4M (acE was is col k t c M))):=by
 have a:=iO was col i
 have b:=iO is col j
 unfold acE
 cases g:ptP is col with
 |none=>
  rw[g]at b;generalize ptP was col=W at*;refine pC func82 rfl ?_
  (repeat' first|apply Cn.cf;focus(((first|apply a|apply b));done)|refine Cn.rr ?_;rfl;done|apply wZ;rfl|constructor|apply wY;rfl)
 |some n=>
  rw[g]at b;dsimp only;have hs:=aNO (st:=st) (id:=id) (p:=((k,t,c,n):P4)) (M:=M);cases d:ptP was col with
  |none=>
   rw[d]at a;rw[zn (by simp)];refine pC func82 rfl ?_
   (repeat' first|apply muA pk aFU (f:=bF) (k:=((k,t,c,n):P4));exact .inr rfl;(iterate 5 rfl);exact aA _ _ _;rfl|apply Cn.cf;focus(((first|apply a|apply b));done)|refine Cn.rr ?_;exact hs;done|apply wZ;rfl|constructor|apply mG pk 3;(iterate 5 rfl);(focus repeat' constructor);rfl;intro _;rfl;intro _;omega;rfl|apply wY;rfl)
  |some m=>
   rw[d]at a;by_cases hm:m=n
   ·subst hm
    rw[zp rfl];refine pC func82 rfl ?_
    repeat' first|apply Cn.cf;focus(((first|apply a|apply b));done)|refine Cn.rr ?_;rfl;done|apply wZ;rfl|omega|constructor|apply wY;rfl|intro h;simp at h
   ·rw[zn λe=>hm (Option.some.inj e)]
    have l:¬n=m:=λe=>hm e.symm;refine pC func82 rfl ?_
    repeat' first|apply muA pk aFU (f:=bF) (k:=((k,t,c,n):P4));exact .inr rfl;(iterate 5 rfl);exact aA _ _ _;rfl|apply Cn.cf;focus(((first|apply a|apply b));done)|refine Cn.rr ?_;exact hs;done|apply wZ;rfl|constructor|apply mG pk 3;(iterate 5 rfl);(focus repeat' constructor);rfl;intro _;rfl;intro _;omega;rfl|apply wY;rfl|intro h;simp at h;omega|intro h;simp at h
theorem lW{F:β->α->β}{l:List α}{M:β}(h:i<l.length):(l.take (i+1)).foldl F M=F ((l.take i).foldl F M) l[i]:=by
 rw[zts h,List.foldl_append];rfl
theorem aFu(hk:k<s.length)(was is:Ln)(key:Int)(hf:∀f∈s[k].f,eN was f.n/\eN is f.n)(hu:∀u∈s[k].u,eN was u/\eN is u)(v:s[k].f.length<1000000000000)(w:s[k].u.length<1000000000000)(M:List P4)(st:aD)(id:Nat):
  qc 40 [.mref id, .agg (scC s),vi (k:Nat), .agg was.z, .agg is.z,vi key] (upd st id (some (m4M M))) λ_ S=>S=upd st id (some (m4M (oF s[k] (k:Int) was is key M))):=by
 unfold oF
 have hs:=aNO (st:=st) (id:=id) (p:=((1,((k:Nat):Int),0,key):P4)) (M:=M)
 generalize q:uN (1,((k:Nat):Int),0,key) M=l at*
 have b:StSub (upd st id (some (m4M (aAS was is (s[k].f.take 0) l)))) (upd (upd st id (some (m4M M))) id (some (.map (aY lL bF (dE (1,((k:Nat):Int),0,key) true (m4E M)))))):=by
  rw[hs];exact cZ rfl
 refine pC func40 rfl ?_
 focus(repeat' first|apply muA pk aFU (f:=bF) (k:=((1,((k:Nat):Int),0,key):P4));exact .inr rfl;(iterate 5 rfl);exact aA _ _ _;rfl|apply wZ;rfl|constructor|apply wI;rfl|apply gE;omega)
 refine aC (X:={x:Nat//x<=s[k].f.length}) (λi=>(((((((((St.nil 61 (upd st id (some (m4M (aAS was is (s[k].f.take i.1) l))))).pv 0 (.mref id)).pv 2 (vi (k:Nat))).var 7 24 (scC s)).var 9 96 (was.z)).var 10 96 (is.z)).pv 25 (.seq (s[k].f.map Fr.z))).pv 26 (vi ((s[k].f.map Fr.z).length:Nat))).pv 27 (vi (i.1:Nat)))) (λi=>s[k].f.length-i.1) ⟨0,by omega⟩ ?_ λi=>?_
 ·repeat' first|exact .any b|constructor
 clear hs b
 have⟨i,hi⟩:=i
 dsimp only
 by_cases e:s[k].f.length<=i
 ·rw[ztl e]
  generalize aAS was is s[k].f l=m;have a:StSub (upd st id (some (m4M (aDY was is (k:Int) (s[k].u.take 0) m)))) (upd st id (some (m4M m))):=cZ rfl
  focus(repeat' first|apply wZ;rfl|constructor|apply wI;rfl|apply gE;omega|simp<;>omega|intro h;simp at h)
  refine aC (X:={x:Nat//x<=s[k].u.length}) (λy=>((((((((St.nil 61 (upd st id (some (m4M (aDY was is (k:Int) (s[k].u.take y.1) m))))).pv 0 (.mref id)).pv 2 (vi (k:Nat))).var 9 96 (was.z)).var 10 96 (is.z)).pv 46 (.seq (s[k].u.map I1))).pv 47 (vi ((s[k].u.map I1).length:Nat))).pv 48 (vi (y.1:Nat)))) (λy=>s[k].u.length-y.1) ⟨0,by omega⟩ ?_ λy=>?_
  ·repeat' first|exact .any a|constructor
  clear a;have⟨y,hy⟩:=y;dsimp only;by_cases c:s[k].u.length<=y
  ·rw[ztl c]
   repeat' first|refine Cn.rr ?_;rfl;done|apply wZ;rfl|constructor|simp<;>omega|intro h;simp at h
  have j:y<s[k].u.length:=by omega
  have d:aDY was is (k:Int) (s[k].u.take (y+1)) m=_:=lW j;have⟨n,o⟩:=hu _ (zgm j);have hv:=λN=>avO was is s[k].u[y] n o 2 (k:Int) s[k].u[y] 0 N st id
  repeat' first|apply cP;rfl;apply hv _;rintro _ st' (rfl)|refine⟨⟨y+1,by omega⟩,?_,?_⟩;(dsimp only;rw[d];try rfl)|exact Cn.t0|apply wZ;rfl|omega|constructor|apply wY;rfl|apply wI;rfl|apply gE;omega|simp<;>omega|intro h;simp at h
 have g:i<s[k].f.length:=by omega
 have d:aAS was is (s[k].f.take (i+1)) l=_:=lW g
 have⟨n,o⟩:=hf _ (zgm g)
 have hv:=λN=>avO was is s[k].f[i].n n o 1 s[k].f[i].t 0 0 N st id
 repeat' first|apply cP;rfl;apply hv _;rintro _ st' (rfl)|refine⟨⟨i+1,by omega⟩,?_,?_⟩;(dsimp only;rw[d];try rfl)|exact Cn.t0|apply wZ;rfl|omega|constructor|apply wY;rfl|apply wI;rfl|apply gE;omega|simp<;>omega|intro h;simp at h
theorem aMi{t:Tb}{k:Int}{M:List P4}(h:i<L.length):zX t k N (L.take (i+1)) M=match bJ N L[i].key with
  |none=>oF t k L[i] Ln.zero L[i].key (zX t k N (L.take i) M)
  |some x=>if L[i]=x then zX t k N (L.take i) M else oF t k L[i] x L[i].key (zX t k N (L.take i) M):=lW h
theorem aMw{t:Tb}{k:Int}{M:List P4}(h:i<L.length):aiG t k O (L.take (i+1)) M=if(bJ O L[i].key).isSome=true then aiG t k O (L.take i) M else oF t k Ln.zero L[i] L[i].key (aiG t k O (L.take i) M):=lW h
theorem aKt{M:List P4}(i:Nat):(List.range (i+1)).foldl (aeI s was is) M=aeI s was is ((List.range i).foldl (aeI s was is) M) i:=by
 rw[List.range_succ,List.foldl_append];rfl
theorem aDg(v:bA T.rightP s was=true)(w:bA T.rightP s is=true)(q:BsS 200 was)(F:BsS 200 is)(M:List P4)(st:aD)(id:Nat):
  qc 16 [.mref id, .agg (scC s), .agg (bsC was), .agg (bsC is)] (upd st id (some (m4M M))) λ_ S=>S=upd st id (some (m4M (pN s was is M))):=by
 unfold pN
 obtain⟨⟨m,W⟩,_⟩:=aS.1 v
 obtain⟨⟨_,Y⟩,_⟩:=aS.1 w
 have U:=lE m
 have R:(s.map Tb.z).length=s.length:=zql _
 have K:=λk key=>zV is k key λd hd=>by have:=(F.2 d hd).1;omega
 have L:=λk key=>zV was k key λd hd=>by have:=(q.2 d hd).1;omega
 have p:StSub (upd st id (some (m4M ((List.range 0).foldl (aeI s was is) M)))) (upd st id (some (m4M M))):=cZ rfl
 refine pC func16 rfl ?_
 focus(repeat' first|apply wZ;rfl|constructor)
 refine aC (X:={x:Nat//x<=s.length}) (λi=>(((((((St.nil 90 (upd st id (some (m4M ((List.range i.1).foldl (aeI s was is) M))))).pv 0 (.mref id)).var 5 24 (scC s)).var 6 27 (bsC was)).var 7 27 (bsC is)).pv 19 (vi ((s.map Tb.z).length:Nat))).pv 20 (vi (i.1:Nat)))) (λi=>s.length-i.1) ⟨0,by omega⟩ ?_ λi=>?_
 ·repeat' first|exact .any p|constructor
 clear p
 have⟨i,hi⟩:=i
 dsimp only
 by_cases P:s.length<=i
 ·obtain rfl:i=s.length:=by omega
  repeat' first|refine Cn.rr ?_;rfl;done|apply wZ;rfl|omega|constructor|intro h;simp at h
 have hk:i<s.length:=by omega
 have n:(List.range (i+1)).foldl (aeI s was is) M=aiG s[i]! (i:Nat) (aF was (i:Nat)) (aF is (i:Nat)) (zX s[i]! (i:Nat) (aF is (i:Nat)) (aF was (i:Nat)) ((List.range i).foldl (aeI s was is) M)):=aKt i
 rw[zep s i hk]at n
 generalize(List.range i).foldl (aeI s was is) M=E at*
 have k1:i<was.length:=by omega
 have k2:i<is.length:=by omega
 have Z:=jF m hk
 have hf:∀f∈s[i].f,∀(x y:Ln),(x∈aF was (i:Nat)\/x∈aF is (i:Nat)\/x=Ln.zero)->eN x f.n:=λf hf x _ hx=>by
  have G:=aIA m hk (f:=f) (by rw[zep s i hk];exact hf)
  rcases hx with h|h|rfl
  ·exact abH v hk G h
  ·exact abH w hk G h
  ·exact ajF _
 have hu:∀u∈s[i].u,∀(x y:Ln),(x∈aF was (i:Nat)\/x∈aF is (i:Nat)\/x=Ln.zero)->eN x u:=λu hu x _ hx=>by
  have G:=aFl m hk (u:=u) (by rw[zep s i hk];exact hu)
  rcases hx with h|h|rfl
  ·exact abH v hk G h
  ·exact abH w hk G h
  ·exact ajF _
 have e:=λ(x y:Ln)(hx:x∈aF was (i:Nat)\/x∈aF is (i:Nat)\/x=Ln.zero)(hy:y∈aF was (i:Nat)\/y∈aF is (i:Nat)\/y=Ln.zero)(key:Int)(N:List P4)=>aFu hk x y key (λf h=>⟨hf f h x x hx,hf f h y y hy⟩) (λu h=>⟨hu u h x x hx,hu u h y y hy⟩) (by omega) (by omega) N st id
 have J:aF was (i:Nat)=was[i].l:=gX k1
 have Q:aF is (i:Nat)=is[i].l:=gX k2
 have z1:=(q.2 _ (zgm k1)).1
 have z2:=(F.2 _ (zgm k2)).1
 have j:StSub (upd st id (some (m4M (zX s[i] i (aF is (i:Nat)) (was[i].l.take 0) E)))) (upd st id (some (m4M E))):=cZ rfl
 focus(repeat' first|apply wZ;rfl|omega|constructor|apply wI;rfl|apply gE;omega|intro h;simp at h)
 refine aC (X:={x:Nat//x<=was[i].l.length}) (λy=>(((((((((((St.nil 90 (upd st id (some (m4M (zX s[i] i (aF is (i:Nat)) (was[i].l.take y.1) E))))).pv 0 (.mref id)).var 5 24 (scC s)).var 6 27 (bsC was)).var 7 27 (bsC is)).pv 8 (vi (i:Nat))).pv 19 (vi ((s.map Tb.z).length:Nat))).pv 20 (vi (i:Nat))).pv 28 (.seq (was[i].l.map Ln.z))).pv 29 (vi ((was[i].l.map Ln.z).length:Nat))).pv 30 (vi (y.1:Nat)))) (λy=>was[i].l.length-y.1) ⟨0,by omega⟩ ?_ λy=>?_
 ·repeat' first|exact .any j|constructor
 clear j
 have⟨y,hy⟩:=y
 dsimp only
 by_cases A:was[i].l.length<=y
 ·rw[ztl A]
  rw[J]at n;generalize zX s[i] i (aF is (i:Nat)) was[i].l E=I at*;have l:StSub (upd st id (some (m4M (aiG s[i] i was[i].l (is[i].l.take 0) I)))) (upd st id (some (m4M I))):=cZ rfl
  focus(repeat' first|apply wZ;rfl|constructor|apply wI;rfl|apply gE;omega|simp<;>omega|intro h;simp at h)
  refine aC (X:={x:Nat//x<=is[i].l.length}) (λz=>(((((((((((St.nil 90 (upd st id (some (m4M (aiG s[i] i was[i].l (is[i].l.take z.1) I))))).pv 0 (.mref id)).var 5 24 (scC s)).var 6 27 (bsC was)).var 7 27 (bsC is)).pv 8 (vi (i:Nat))).pv 19 (vi ((s.map Tb.z).length:Nat))).pv 20 (vi (i:Nat))).pv 64 (.seq (is[i].l.map Ln.z))).pv 65 (vi ((is[i].l.map Ln.z).length:Nat))).pv 66 (vi (z.1:Nat)))) (λz=>is[i].l.length-z.1) ⟨0,by omega⟩ ?_ λz=>?_
  ·repeat' first|exact .any l|constructor
  clear l;have⟨z,hz⟩:=z;dsimp only;by_cases B:is[i].l.length<=z
  ·rw[ztl B]
   rw[Q]at n
   repeat' first|refine⟨⟨i+1,by omega⟩,?_,?_⟩;(dsimp only;rw[n];try rfl)|apply wZ;rfl|omega|constructor|simp<;>omega|intro h;simp at h
  have H:z<is[i].l.length:=by omega
  have g:=aMw (t:=s[i]) (k:=i) (O:=was[i].l) (M:=I) H;have hg:=L (i:Nat) is[i].l[z].key;rw[J,mS]at hg;have hl:=e Ln.zero is[i].l[z] (.inr (.inr rfl)) (.inr (.inl (by rw[Q];exact zgm H))) is[i].l[z].key;cases C:bJ was[i].l is[i].l[z].key with
  |none=>
   rw[C]at hg g;rw[zn (by simp)]at g
   (repeat' first|apply Cn.cf;focus((apply hg);done)|apply cP;rfl;apply hl _;rintro _ st' (rfl)|refine⟨⟨z+1,by omega⟩,?_,?_⟩;(dsimp only;rw[g];try rfl)|exact Cn.t0|apply wZ;rfl|omega|constructor|apply wY;rfl|apply wI;rfl|apply gE;omega|simp<;>omega|intro h;simp at h)
  |some x=>
   rw[C]at hg g;rw[zp (by simp)]at g
   repeat' first|refine⟨⟨z+1,by omega⟩,?_,?_⟩;(dsimp only;rw[g];try rfl)|apply wZ;rfl|omega|constructor|apply hg|apply wY;rfl|apply wI;rfl|apply gE;omega|simp<;>omega|intro h;simp at h
 have o:y<was[i].l.length:=by omega
 have a:=aMi (t:=s[i]) (k:=i) (N:=aF is (i:Nat)) (M:=E) o
 have hg:=K (i:Nat) was[i].l[y].key
 rw[mS]at hg
 have⟨s1,s2,V⟩:=(q.2 _ (zgm k1)).2 _ (zgm o)
 have ha:=λb=>aBh was[i].l[y] b (by omega) (by omega) λc hc=>by have:=V c hc;omega
 cases C:bJ (aF is (i:Nat)) was[i].l[y].key with
 |none=>
  rw[C]at hg a;dsimp only at a;have hl:=e was[i].l[y] Ln.zero (.inl (by rw[J];exact zgm o)) (.inr (.inr rfl)) was[i].l[y].key;have ha:=ha Ln.zero;generalize decide (was[i].l[y]=Ln.zero)=D at*
  (repeat' first|apply Cn.cf;focus(((first|apply hg|apply ha));done)|apply cP;rfl;apply hl _;rintro _ st' (rfl)|refine⟨⟨y+1,by omega⟩,?_,?_⟩;(dsimp only;rw[a];try rfl)|exact Cn.t0|apply wZ;rfl|omega|constructor|apply wY;rfl|apply wI;rfl|apply gE;omega|simp<;>omega|intro h;simp at h)
 |some x=>
  rw[C]at hg a;dsimp only at a;have ha:=ha x;have hl:=e was[i].l[y] x (.inl (by rw[J];exact zgm o)) (.inr (.inl (rJ C))) was[i].l[y].key;by_cases hx:was[i].l[y]=x
  ·rw[zp hx]at a
   rw[zdt hx]at ha
   repeat' first|refine⟨⟨y+1,by omega⟩,?_,?_⟩;(dsimp only;rw[a];try rfl)|apply wZ;rfl|omega|constructor|(first|apply hg|apply ha)|apply wY;rfl|apply wI;rfl|apply gE;omega|simp<;>omega|intro h;simp at h
  ·rw[zn hx]at a
   rw[zdj hx]at ha
   repeat' first|apply Cn.cf;focus(((first|apply hg|apply ha));done)|apply cP;rfl;apply hl _;rintro _ st' (rfl)|refine⟨⟨y+1,by omega⟩,?_,?_⟩;(dsimp only;rw[a];try rfl)|exact Cn.t0|apply wZ;rfl|omega|constructor|apply wY;rfl|apply wI;rfl|apply gE;omega|simp<;>omega|intro h;simp at h
theorem azW :Tryz.prog.cellsOf 3=1:=rfl
theorem aFT(h:i<L.length):(L.take (i+1)).filterMap (λl=>ptP l m.b)=(L.take i).filterMap (λl=>ptP l m.b)++(match ptP L[i] m.b with|none=>[]|some n=>[n]):=by
 rw[zts h,List.filterMap_append]
 grind
theorem aEL(hk:k<b.length)(m:Su)(p:∀l∈b[k].l,eN l m.b)(hl:b[k].l.length<1000000000000)(st:aD):
  qc 34 [.agg (bsC b),vi (k:Nat), .agg m.z] st λr S=>∃id,r= .vec id 1 0 (b[k].l.filterMap λl=>ptP l m.b).length/\st id=none/\S=upd st id (some (.arr 3 ((b[k].l.filterMap λl=>ptP l m.b).map I1))):=by
 refine pC func34 rfl ?_
 focus(repeat' first|apply wZ;rfl|constructor|apply wI;rfl|apply gE;omega)
 refine cL 7 3 1 rfl rfl rfl λid c=>?_
 refine aC (X:={x:Nat×Nat//x.1<=b[k].l.length/\st x.2=none}) (λi=>((((((St.nil 37 (upd st i.1.2 (some (.arr 3 (((b[k].l.take i.1.1).filterMap λl=>ptP l m.b).map I1))))).var 5 87 (m.z)).pv 7 (.vec i.1.2 1 0 ((b[k].l.take i.1.1).filterMap λl=>ptP l m.b).length)).pv 17 (.seq (b[k].l.map Ln.z))).pv 18 (vi ((b[k].l.map Ln.z).length:Nat))).pv 19 (vi (i.1.1:Nat)))) (λi=>b[k].l.length-i.1.1) ⟨(0,id),by simp,c⟩ ?_ λi=>?_
 ·dsimp only
  repeat' first|exact Cn.t0|constructor
 obtain⟨⟨i,id⟩,hi,c⟩:=i
 simp only at hi c
 dsimp only
 by_cases o:b[k].l.length<=i
 ·obtain rfl:i=b[k].l.length:=by omega
  rw[List.take_length]
  repeat' first|refine Cn.rr ?_;exact⟨id,rfl,c,rfl⟩;done|apply wZ;rfl|constructor|simp<;>omega|intro h;simp at h
 have e:i<b[k].l.length:=by omega
 have a:=aFT (m:=m) e
 have hp:=iO b[k].l[i] m.b (p _ (zgm e))
 have g:=List.length_filterMap_le (λl=>ptP l m.b) (b[k].l.take i)
 rw[zlt]at g
 cases hx:ptP b[k].l[i] m.b with
 |none=>
  rw[hx]at hp a;dsimp only at a;rw[List.append_nil]at a
  (repeat' first|refine⟨⟨(i+1,id),by simp only;omega,c⟩,?_,?_⟩;dsimp only;rw[a]|apply wZ;rfl|omega|constructor|apply hp|apply wY;rfl|apply wI;rfl|apply gE;omega|simp<;>omega|intro h;simp at h)
 |some n=>
  rw[hx]at hp a;dsimp only at a;generalize(b[k].l.take i).filterMap (λl=>ptP l m.b)=G at*
  repeat' first|refine⟨⟨(i+1,j),by simp only;omega,aI d⟩,?_,?_⟩;dsimp only;rw[a]|exact Cn.any (aM ‹_›)|apply wZ;rfl|omega|constructor|apply hp|show _=_;simp|apply apV pk (f:=I1) [n] 8;(iterate 9 rfl);exact aA _ _ _;omega;exactλ_=>rfl;exactλ_=>rfl;exact mJ;(focus(simp;omega));(focus(simp;omega));rfl;intro j d|apply wY;rfl|apply wI;rfl|apply gE;omega|simp<;>omega|intro h;simp at h
theorem adC(hk:k<b.length)(m:Su)(c:∀l∈b[k].l,eN l m.b)(hl:b[k].l.length<1000000000000):qf 34 [.agg (bsC b),vi (k:Nat), .agg m.z] (.seq ((iM b k m).map I1)):=λst=>by
 unfold iM
 rw[gX hk]
 exact eS (aEL _ m c hl _) λp st' h=>by
  obtain⟨id,rfl,a,rfl⟩:=h
  exact .inl ⟨id,3,(b[k].l.filterMap _).map _,_,st,aA _ _ _,azW,dI rfl,bN a,rfl,rfl⟩
theorem aGf{a id2:Nat}{o:AObj}(h:upd st a (some o) id2=none):st id2=none:=by
 by_cases e:id2=a
 ·subst e;rw[aA]at h;cases h
 ·rwa[aB e]at h
theorem aJH(n:Nat)(hl:n<1000000000000)(st:aD):qc 74 [.val (.slice none 0 0),vi (n:Nat)] st λr S=>∃id,r= .vec id 1 0 0/\st id=none/\S=upd st id (some (.arr 3 [])):=by
 by_cases hn:n=0;subst hn;rotate_left;have d:0<n:=by omega
 all_goals (refine pC func74 rfl ?_;repeat'(first|refine aKj 4 0 rfl (.inl (aA _ _ _)) azW (Nat.zero_le _) (by simp[aX];omega) λid2 b=>?_;refine yJ ?_;exact Cn.any ⟨_,_,upd st id2 (some (.arr 3 [])),rfl,zwr _,agL a rfl,id2,rfl,aGf b,rfl⟩|refine cL 4 3 1 rfl rfl rfl λid c=>?_;refine yJ ?_;exact Cn.any ⟨_,_,_,rfl,zwr _,zsr _,id,rfl,c,rfl⟩|apply wZ;rfl|omega|constructor|apply aOC pk;rfl;rfl;rfl;rotate_left;rfl;rfl;rotate_left|apply slN pk;(iterate 5 rfl);rotate_left;rfl;rfl;rotate_left|refine apN pk (m:=n) 8 rfl rfl rfl rfl rfl rfl rfl rfl d mJ (by omega) (by omega) (by decide) rfl λe a=>?_|apply aHk pk 0;(iterate 4 rfl);rotate_left;rfl;intro _;exact bC rfl rfl;intro _;omega;intro _;omega;rfl|intro h;simp at h))
def sz2(a b:List Int)(i:Nat):Nat:=if i=0 then 0 else if i=1 then a.length else a.length+b.length
def aMy(a b:List Int)(i:Nat):List Int:=if i=0 then[]else if i=1 then a else a++b
theorem aDL(a b:List Int)(h:a.length+b.length<100000000000)(st:aD):qc 33 [.seq [[.seq (a.map I1)],[.seq (b.map I1)]]] st λr S=>∃id,r= .vec id 1 0 (a.length+b.length)/\st id=none/\S=upd st id (some (.arr 3 ((a++b).map I1))):=by
 have j:(a.map I1).length=a.length:=zql _;have k:(b.map I1).length=b.length:=zql _;have hg:=aJH (a.length+b.length) (by omega) st;have z0:sz2 a b 0=0:=rfl;have z1:sz2 a b 1=a.length:=rfl;have z2:sz2 a b 2=a.length+b.length:=rfl;have c0:([[PV.seq (a.map I1)],[PV.seq (b.map I1)]]:List (List PV))[0]?=some [PV.seq (a.map I1)]:=rfl;have c1:([[PV.seq (a.map I1)],[PV.seq (b.map I1)]]:List (List PV))[1]?=some [PV.seq (b.map I1)]:=rfl;refine pC func33 rfl ?_
 focus(repeat' first|apply wZ;rfl|constructor)
 refine aC (X:={x:Nat//x<=2}) (λi=>((((((St.nil 36 st).pv 0 (.seq [[.seq (a.map I1)],[.seq (b.map I1)]])).pv 3 (vi (sz2 a b i.1:Nat))).pv 9 (.seq [[.seq (a.map I1)],[.seq (b.map I1)]])).pv 10 (vi (2:Nat))).pv 11 (vi (i.1:Nat)))) (λi=>2-i.1) ⟨0,by omega⟩ ?_ λi=>?_
 ·repeat' first|constructor
 have⟨i,hi⟩:=i;dsimp only;rcases(show i=0\/i=1\/i=2 by omega)with rfl|rfl|rfl
 ·repeat' first|refine⟨⟨1,by omega⟩,?_,?_⟩;dsimp only[sz2]|apply wZ;rfl|omega|constructor|apply cR pk;(iterate 6 rfl);rotate_left;rfl;intro hw;rfl;(intro hw;apply c0<;>omega);intro _;rfl;rfl|show _=_;simp;done|simp<;>omega
 ·repeat' first|refine⟨⟨2,by omega⟩,?_,?_⟩;dsimp only[sz2]|apply wZ;rfl|omega|constructor|apply cR pk;(iterate 6 rfl);rotate_left;rfl;intro hw;rfl;(intro hw;apply c1<;>omega);intro _;rfl;rfl|show _=_;simp;done|simp<;>omega
 ·rw[z2]
  focus(repeat' first|apply wZ;rfl|constructor|apply aNN;rfl;rfl;exact hg;rfl;rfl;rfl;intro _ st' g;obtain⟨id,rfl,d,rfl⟩:=g)
  refine aC (X:={x:Nat×Nat//x.1<=2/\st x.2=none}) (λy=>(((((St.nil 36 (upd st y.1.2 (some (.arr 3 ((aMy a b y.1.1).map I1))))).pv 6 (.vec y.1.2 1 0 (sz2 a b y.1.1))).pv 25 (.seq [[.seq (a.map I1)],[.seq (b.map I1)]])).pv 26 (vi (2:Nat))).pv 27 (vi (y.1.1:Nat)))) (λy=>2-y.1.1) ⟨(0,id),by simp,d⟩ ?_ λy=>?_
  ·dsimp only
   repeat' first|exact Cn.t0|constructor
  obtain⟨⟨y,id⟩,hy,d⟩:=y;simp only at hy d;dsimp only;rcases(show y=0\/y=1\/y=2 by omega)with rfl|rfl|rfl
  ·show PWp _ _ _ _
   repeat' first|refine⟨⟨(1,e),by simp only;omega,aI c⟩,?_,?_⟩;dsimp only[sz2,aMy]|exact Cn.any (aM ‹_›)|apply wZ;rfl|omega|constructor|apply cR pk;(iterate 6 rfl);rotate_left;rfl;intro hw;rfl;(intro hw;apply c0<;>omega);intro _;rfl;rfl|show _=_;simp|apply apV pk (f:=I1) a 8;(iterate 9 rfl);exact aA _ _ _;(assumption);exactλ_=>rfl;exactλ_=>rfl;exact mJ;omega;omega;rfl;intro e c|simp<;>omega
  ·show PWp _ _ _ _
   repeat' first|refine⟨⟨(2,e),by simp only;omega,aI c⟩,?_,?_⟩;dsimp only[sz2,aMy]|exact Cn.any (aM ‹_›)|apply wZ;rfl|omega|constructor|apply cR pk;(iterate 6 rfl);rotate_left;rfl;intro hw;rfl;(intro hw;apply c1<;>omega);intro _;rfl;rfl|apply apV pk (f:=I1) b 8;(iterate 9 rfl);exact aA _ _ _;(assumption);exactλ_=>rfl;exactλ_=>rfl;exact mJ;omega;omega;rfl;intro e c|simp<;>omega
  ·repeat' first|refine Cn.rr ?_;exact⟨id,rfl,d,rfl⟩;done|apply wZ;rfl|constructor
def dL(xs:Array Int):Nat->List Int
 |0=>[]
 |1=>[xs[0]!]
 |i+2=>dL xs (i+1)++if xs[i+1]! =xs[i]! then[]else[xs[i+1]!]
theorem aB4(xs:Array Int)(h:1<=k):dL xs (k+1)=dL xs k++if xs[k]! =xs[k-1]! then[]else[xs[k]!]:=by
 obtain⟨i,rfl⟩:∃i,k=i+1:=⟨k-1,by omega⟩;rfl
theorem aIj(xs:Array Int):∀k,1<=k->(dL xs k).length=1+dN xs k
 |1,_=>rfl
 |k+2,_=>by
  have a:=aIj xs (k+1) (by simp)
  rw[aB4 _ (by simp),adN _ (by simp),zla,a]
  grind
def hdA(xs:Array Int)(n:Nat):List Int:=xs.toList.take n
theorem aAR(h:k<xs.size):hdA xs (k+1)=hdA xs k++[xs[k]!]:=by
 unfold hdA;rw[zts ‹_›,getElem!_pos _ k h];simp
theorem aIV{v:Int}(h:n<=k):hdA (xs.setIfInBounds k v) n=hdA xs n:=by
 unfold hdA;rw[Array.toList_setIfInBounds,List.take_set,List.set_eq_of_length_le (by grind)]
theorem axO(xs:Array Int){id:Nat}(o:st id=some (.arr 3 (xs.toList.map I1)))(hn:xs.size=n)(N:n<1000000000000):
  qc 36 [.vec id 1 0 n] st λr S=>r= .vec id 1 0 (dL xs n).length/\∃rows,S=upd st id (some (.arr 3 rows))/\rows.length=n/\rows.take (dL xs n).length=(dL xs n).map I1:=by
 by_cases h0:n=0
 ·subst h0
  refine pC func36 rfl ?_
  repeat' first|refine Cn.rr ?_;exact⟨rfl,_,(mT o).symm,by simp[hn],by simp[dL]⟩;done|apply wZ;rfl|constructor
 have e:(dL xs n).length=1+dN xs n:=aIj xs n (by omega)
 rw[e]
 have z:hdA xs 1=dL xs 1:=by rw[aAR (by omega)];rfl
 by_cases A:n<2
 ·obtain rfl:n=1:=by omega
  refine pC func36 rfl ?_
  repeat' first|refine Cn.rr ?_;exact⟨rfl,_,(mT o).symm,by simp[hn],by rw[<-List.map_take];exact congrArg (List.map I1) z⟩;done|apply wZ;rfl|constructor
 refine pC func36 rfl ?_
 focus(repeat' first|apply wZ;rfl|omega|constructor|intro h;simp at h)
 refine aC (X:={x:Nat//1<=x/\x<=n/\dN xs x+1=x/\hdA xs x=dL xs x}) (λi=>(((St.nil 61 (st)).pv 0 (.vec id 1 0 n)).pv 3 (vi (i.1:Nat)))) (λi=>n-i.1) ⟨1,by omega,by omega,rfl,z⟩ ?_ λi=>?_
 ·repeat' first|exact Cn.t0|constructor
 have⟨k,s,O,P,g⟩:=i
 dsimp only
 by_cases K:n<=k
 ·obtain rfl:k=n:=by omega
  have L:1+dN xs k=k:=by omega
  rw[L];have M:(xs.toList.map I1).take k=(dL xs k).map I1:=by rw[<-List.map_take];exact congrArg (List.map I1) g
  repeat' first|refine Cn.rr ?_;exact⟨rfl,_,(mT o).symm,by simp[hn],M⟩;done|apply wZ;rfl|omega|constructor|intro h;simp at h
 have Q:k<n:=by omega
 have hu:=adN xs s
 have hL:=aB4 xs s
 by_cases hd:¬xs[k]! =xs[k-1]!
 ·rw[zn hd]at hu hL
  have H:dN xs (k+1)+1=k+1:=by omega
  have C:hdA xs (k+1)=dL xs (k+1):=by rw[hL,<-g,aAR (by omega)]
  repeat' first|apply wDx pk;rfl;kernel_rfl;rfl;rfl|refine⟨⟨k+1,by omega,by omega,H,C⟩,?_,?_⟩|exact Cn.t0|apply wZ;rfl|omega|constructor|apply ixA pk;(iterate 5 rfl);rotate_left;rfl;intro hw;(first|exact(show _=((k:Nat):Int)from by omega)|exact(show _=((k-1:Nat):Int)from by omega));intro hw;omega;rfl;exact Nat.zero_add _|apply ldA pk I1.elem;rfl;rfl;rotate_left;rfl;(assumption);intro hw;omega;rfl|simp<;>omega|intro h;simp at h|intro h
 replace hd:=zdn hd
 rw[zp hd]at hu hL
 rw[List.append_nil]at hL
 have E:hdA xs (1+dN xs (k+1))=dL xs (k+1):=by rw[hL,<-g,show 1+dN xs (k+1)=k by omega]
 focus(repeat' first|apply wDx pk;rfl;kernel_rfl;rfl;rfl|apply wZ;rfl|omega|constructor|apply ixA pk;(iterate 5 rfl);rotate_left;rfl;intro hw;(first|exact(show _=((k:Nat):Int)from by omega)|exact(show _=((k-1:Nat):Int)from by omega));intro hw;omega;rfl;exact Nat.zero_add _|apply ldA pk I1.elem;rfl;rfl;rotate_left;rfl;(assumption);intro hw;omega;rfl|apply mL pk k (n-k);(iterate 4 rfl);rotate_left;rfl;intro _;exact⟨_,bC rfl rfl,by omega⟩;intro _;exact⟨_,bZ,by omega⟩;intro _;omega;intro _;omega;rfl|intro h;simp at h|intro h)
 refine aC (X:={x:Nat×Array Int//1<=x.1/\x.1<=n-k/\x.2.size=n/\(∀j,k+x.1<=j+1->j<n->x.2[j]! =xs[j]!)/\hdA x.2 (1+dN xs (k+x.1))=dL xs (k+x.1)}) (λy=>(((((St.nil 61 (upd st id (some (.arr 3 (y.1.2.toList.map I1))))).pv 0 (.vec id 1 0 n)).pv 3 (vi ((1+dN xs (k+y.1.1):Nat):Int))).pv 4 (.vec id 1 k (n-k))).pv 5 (vi (y.1.1:Nat)))) (λy=>n-y.1.1) ⟨(1,xs),by omega,by omega,hn,λ_ _ _=>rfl,E⟩ ?_ λy=>?_
 ·dsimp only
  repeat' first|exact Cn.any (cZ (by(exact mT ‹_›)))|constructor|congr 2;omega
 obtain⟨⟨y,a⟩,I,J,f,hy,c⟩:=y
 simp only at I J f hy c
 dsimp only
 have u:=aCp xs (k+1) (y-1) (by omega)
 rw[show k+1+(y-1)=k+y by omega]at u
 by_cases D:n-k<=y
 ·obtain rfl:y=n-k:=by omega
  rw[show k+(n-k)=n by omega]at u c⊢;have G:(a.toList.map I1).length=n:=by rw[zql,Array.length_toList,f]
  have F:(aU (a.toList.map I1) (1+dN xs n) (aX (n-(1+dN xs n)) 1)).length=n:=(dX (by rw[G];simp only[aX,List.length_replicate];omega)).trans G;have v:∀m,(aU (a.toList.map I1) (1+dN xs n) (aX m 1)).take (1+dN xs n)=(dL xs n).map I1:=λm=>by
   unfold aU
   rw[zas,List.take_append_of_le_length (by rw[zlt,G];omega),List.take_take,Nat.min_self,<-List.map_take]
   exact congrArg (List.map I1) c
  have R:(a.toList.map I1).take (1+dN xs n)=(dL xs n).map I1:=by rw[<-List.map_take];exact congrArg (List.map I1) c
  repeat' first|refine Cn.rr ?_;exact⟨rfl,_,eX _ _ _ _,F,v _⟩;done|apply wZ;rfl|omega|constructor|apply mL pk (1+dN xs n) (n-(1+dN xs n));(iterate 4 rfl);rotate_left;rfl;intro _;exact⟨_,bC rfl rfl,by omega⟩;intro _;exact⟨_,bZ,by omega⟩;intro _;omega;intro _;omega;rfl|refine aGF pk (id:=id) (off:=1+dN xs n) (len:=n-(1+dN xs n)) (rows:=a.toList.map I1) rfl rfl rfl rfl rfl rfl rfl rfl (aA _ _ _) (by omega) (by omega) (by omega) rfl ?_|apply aHk pk (1+dN xs n);(iterate 4 rfl);rotate_left;rfl;intro _;exact bC rfl rfl;intro _;omega;intro _;omega;rfl|intro h;simp at h
 have l:=hy (k+y) (by omega) (by omega)
 have w:=hy (k+(y-1)) (by omega) (by omega)
 have d:=adN xs (show 1<=k+y by omega)
 have b:=aB4 xs (show 1<=k+y by omega)
 rw[show k+y-1=k+(y-1) by omega,show k+y+1=k+(y+1)from rfl]at d b
 by_cases B:xs[k+y]! =xs[k+(y-1)]!
 ·rw[zp B]at d b
  rw[List.append_nil]at b;have q:∀j,k+(y+1)<=j+1->j<n->a[j]! =xs[j]!:=λj z A=>hy j (by omega) A;have p:hdA a (1+dN xs (k+(y+1)))=dL xs (k+(y+1)):=by rw[b,d,Nat.add_zero];exact c
  rw[<-l,<-w]at B
  repeat' first|apply wDx pk;rfl;kernel_rfl;rfl;rfl|refine⟨⟨(y+1,a),by simp only;omega,by simp only;omega,f,q,p⟩,?_,?_⟩;dsimp only|exact Cn.t0|apply wZ;rfl|omega|constructor|show _=_;(congr 2;omega)|apply ixA pk;(iterate 5 rfl);rotate_left;rfl;intro hw;(first|exact(show _=((y:Nat):Int)from by omega)|exact(show _=((y-1:Nat):Int)from by omega));intro hw;omega;rfl;rfl|apply ldA pk I1.elem;rfl;rfl;rotate_left;rfl;exact aA _ _ _;intro hw;omega;rfl|simp<;>omega|intro h;simp at h|intro h
 ·rw[zn B]at d b
  have q:∀j,k+(y+1)<=j+1->j<n->(a.setIfInBounds (1+dN xs (k+y)) a[k+y]!)[j]! =xs[j]!:=λj z A=>by
   rw[getElem!_pos _ j (by rw[zqs];omega),Array.getElem_setIfInBounds_ne (by omega) (by omega),<-getElem!_pos a j (by omega)]
   exact hy j (by omega) A
  have p:hdA (a.setIfInBounds (1+dN xs (k+y)) a[k+y]!) (1+dN xs (k+(y+1)))=dL xs (k+(y+1)):=by
   rw[b,d,<-c,show 1+(dN xs (k+y)+1)=(1+dN xs (k+y))+1 by omega,aAR (by rw[zqs];omega),aIV (znr _),getElem!_pos _ _ (by rw[zqs];omega),Array.getElem_setIfInBounds_self,l]
  rw[<-l,<-w]at B
  repeat' first|apply wDx pk;rfl;kernel_rfl;rfl;rfl|refine⟨⟨(y+1,a.setIfInBounds (1+dN xs (k+y)) a[k+y]!),by simp only;omega,by simp only;omega,by rw[zqs];exact f,q,p⟩,?_,?_⟩;dsimp only|exact Cn.any (cZ (by((simp only[St.pv,St.put,St.sst,St.setv,St.nil,St.var,eX]);(done))))|apply wZ;rfl|omega|constructor|show _=_;(congr 2;omega)|apply ixA pk;(iterate 5 rfl);rotate_left;rfl;intro hw;(first|exact(show _=((y:Nat):Int)from by omega)|exact(show _=((y-1:Nat):Int)from by omega)|exact(show _=((1+dN xs (k+y):Nat):Int)from by omega));intro hw;omega;rfl;(first|exact Nat.zero_add _|exact rfl)|apply ldA pk I1.elem;rfl;rfl;rotate_left;rfl;exact aA _ _ _;intro hw;omega;rfl|apply stA pk I1.elem;rfl;rfl;rfl;exact aA _ _ _;omega;rfl|simp<;>omega|intro h;simp at h|intro h
theorem aLn{xs:Array Int}(hs:∀i j,i<j->j<xs.size->xs[i]!<=xs[j]!):∀k,k<=xs.size->(dL xs k).Pairwise (· < ·)/\(∀x∈dL xs k,1<=k/\x<=xs[k-1]!)/\∀x,x∈dL xs k↔∃i<k,xs[i]! =x
 |0,_=>by simp[dL]
 |1,_=>by
  refine⟨by simp[dL],by simp[dL],λx=>?_⟩
  simp only[dL,zms]
  exact⟨λe=>⟨0,by omega,e.symm⟩,λ⟨i,hi,e⟩=>by
   obtain rfl:i=0:=by omega
   exact e.symm⟩
 |k+2,hk=>by
  have⟨b,c,d⟩:=aLn hs (k+1) (by omega)
  have a:=hs k (k+1) (by omega) (by omega)
  rw[aB4 xs (by omega),show k+1-1=k from rfl,show k+2-1=k+1 from rfl]
  grind
theorem aJE(l:List Int):dL (l.mergeSort λx y=>decide (x<=y)).toArray l.length=lN l:=by
 have hs:(l.mergeSort λx y=>decide (x<=y)).Pairwise λa b=>decide (a<=b)=true:=List.pairwise_mergeSort (λa b c e g=>by simp only[zde]at*;omega) (λa b=>by simp only[Bool.or_eq_true,zde];omega) l;have hl:(l.mergeSort λx y=>decide (x<=y)).length=l.length:=List.length_mergeSort l;have hm:∀x,x∈(l.mergeSort λx y=>decide (x<=y))↔x∈l:=λx=>List.mem_mergeSort;generalize(l.mergeSort λx y=>decide (x<=y))=m at*;have hq:∀i j,i<j->j<m.toArray.size->m.toArray[i]!<=m.toArray[j]!:=λi j d hj=>by
  have hj:j<m.length:=by simpa using hj
  rw[getElem!_pos m.toArray i (by simp;omega),getElem!_pos m.toArray j (by simpa using hj)]
  have:=List.pairwise_iff_getElem.1 hs i j (by omega) hj d
  simpa using this
 have⟨e,_,f⟩:=aLn hq l.length (by simp[hl]);refine aAb e λx=>?_;rw[f,<-hm];constructor
 ·rintro⟨i,hi,rfl⟩
  rw[getElem!_pos m.toArray i (by simp;omega)];simp
 ·intro hx
  obtain⟨i,hi,rfl⟩:=zgo hx
  grind
def s4C(x:S4):List PV:=[vi x.1,vi x.2.1,vi x.2.2.1,vi x.2.2.2]
theorem aCM :Tryz.prog.bytesOf 60=32:=rfl
theorem aBP :Tryz.prog.cellsOf 60=4:=rfl
theorem qW(k y:Nat)(g:Int): -2199023255552000<=totC s b k y g/\totC s b k y g<=2199023255552000:=by
 unfold totC;split
 ·rename_i h
  have⟨c,e,a⟩:=h;rw[zin]at a⊢;rw[zin];have hk:k<s.length:=by omega
  rw[zep s k hk]at a⊢;have hy:y<s[k].s.length:=by omega
  rw[zep s[k].s y hy];have hg:bA T.rightP s b=true:=by
   unfold mayC at c
   grind
  have hT:=tN hg hk (zgm hy);have hl:=hT.len;have⟨f,i⟩:=vG (m:=s[k].s[y]) (g:=g) λr d=>(hT.num r d).1;omega
 ·omega
theorem mV{α β:Type}{f:α->List β}{c:Nat}:∀(l:List α),(∀a∈l,(f a).length<=c)->(l.flatMap f).length<=c*l.length
 |[],_=>by simp
 |a::l,h=>by
  have b:=mV l λx hx=>h x (zmm _ hx)
  have d:=h a List.mem_cons_self
  rw[List.flatMap_cons,zla,zlc,Nat.mul_add]
  omega
theorem ajN(b:∀k:Int,(aF was k).length<=200)(c:∀k:Int,(aF is k).length<=200)(k i:Nat):(sumI s was is k i).length<=400:=by
 unfold sumI;have d:=List.length_filterMap_le (moreS s was is k i) (lN (iM was k s[k]!.s[i]!++iM is k s[k]!.s[i]!));have a:=acD (iM was k s[k]!.s[i]!++iM is k s[k]!.s[i]!);rw[zla]at a;have e:=List.length_filterMap_le (λl=>ptP l s[k]!.s[i]!.b) (aF was (k:Int));have f:=List.length_filterMap_le (λl=>ptP l s[k]!.s[i]!.b) (aF is (k));have g:=b (k:Int);have h:=c (k);unfold iM at d a⊢;omega
theorem anN{f:α->Option β}{L:List α}(h:i<L.length):(L.take (i+1)).filterMap f=(L.take i).filterMap f++(match f L[i]with|none=>[]|some n=>[n]):=by
 rw[zts h,List.filterMap_append]
 congr 1
theorem rM(f:Nat->List β)(i:Nat):(List.range (i+1)).flatMap f=(List.range i).flatMap f++f i:=by
 rw[List.range_succ,List.flatMap_append];simp
theorem apF(hb:bA T.rightP s b=true)(hk:k<s.length)(hm:m∈s[k].s):∀l∈(b[k]'(by have:=(aS.1 hb).1.2;omega)).l,eN l m.b:=λl hl=>by
 obtain⟨⟨a,c⟩,_⟩:=aS.1 hb
 have q:=aK7 a _ hm
 exact abH hb hk ⟨by have:=q.b1;omega,by rw[zep s k hk];exact q.b2,by rw[zep s k hk];exact q.kb⟩ (by rw[gX _];exact hl)
theorem aBs :Wk (.val (.slice none 0 0)) (.seq (([]:List S4).map s4C)):=Wk.nil
theorem aKJ(m:CkB 200 s was)(o:CkB 200 s is)(F:bA T.rightP s was=true)(G:bA T.rightP s is=true)(st:aD):
  qc 14 [.agg (scC s), .agg (bsC was), .agg (bsC is)] st λr S=>∃id,r= .vec id 4 0 ((List.range s.length).flatMap (sumK s was is)).length/\st id=none/\S=upd st id (some (.arr 60 (((List.range s.length).flatMap (sumK s was is)).map s4C))):=by
 have P:=gH m.bs m.hn m.sb m.len
 have Q:=gH o.bs o.hn o.sb o.len
 rw[F]at P
 rw[G]at Q
 obtain⟨⟨J,e1⟩,_⟩:=aS.1 F
 obtain⟨⟨_,e2⟩,_⟩:=aS.1 G
 have hsl:=lE J
 have hml:(s.map Tb.z).length=s.length:=zql _
 have w:=λk:Int=>(m.bs.l k).1
 have C:=λk:Int=>(o.bs.l k).1
 have L:=λk i=>ajN (s:=s) (was:=was) (is:=is) w C k i
 have hKl:∀k<s.length,(sumK s was is k).length<=6400:=λk hk=>by
  unfold sumK
  have:=mV (f:=sumI s was is k) (List.range s[k]!.s.length) λi _=>L k i
  rw[List.length_range,zep s k hk]at this
  have:=(jF J hk).2.2.2.2
  rw[zep s k hk]
  omega
 have hOl:∀i≤s.length,((List.range i).flatMap (sumK s was is)).length<=6400*16:=λi hi=>by
  have:=mV (f:=sumK s was is) (List.range i) λk hk=>hKl k (by have:=zmr.1 hk;omega)
  rw[List.length_range]at this
  omega
 refine pC func14 rfl ?_
 focus(repeat' first|apply Cn.cf;focus(((first|apply P|apply Q));done)|apply wZ;rfl|constructor|apply wY;rfl)
 refine cL 7 60 4 rfl rfl rfl λid a=>?_
 refine aC (X:={x:Nat×Nat//x.1<=s.length/\st x.2=none}) (λi=>((((((((St.nil 88 (upd st i.1.2 (some (.arr 60 (((List.range i.1.1).flatMap (sumK s was is)).map s4C))))).var 3 24 (scC s)).var 4 27 (bsC was)).var 5 27 (bsC is)).pv 7 (.vec i.1.2 4 0 ((List.range i.1.1).flatMap (sumK s was is)).length)).pv 27 (.seq (s.map Tb.z))).pv 28 (vi ((s.map Tb.z).length:Nat))).pv 29 (vi (i.1.1:Nat)))) (λi=>s.length-i.1.1) ⟨(0,id),by simp,a⟩ ?_ λi=>?_
 ·dsimp only
  repeat' first|exact Cn.t0|constructor
 obtain⟨⟨i,id⟩,hi,a⟩:=i
 simp only at hi a
 dsimp only
 by_cases hend:s.length<=i
 ·obtain rfl:i=s.length:=by omega
  repeat' first|refine Cn.rr ?_;exact⟨id,rfl,a,rfl⟩;done|apply wZ;rfl|omega|constructor|intro h;simp at h
 have hk:i<s.length:=by omega
 have k1:i<was.length:=by omega
 have k2:i<is.length:=by omega
 have Y:=rM (sumK s was is) i
 have hO:=hOl i hi
 have hKi:sumK s was is i=(List.range s[i].s.length).flatMap (sumI s was is i):=by unfold sumK;rw[zep s i hk]
 have hsn:=(jF J hk).2.2.2.2
 have hSl:∀y≤s[i].s.length,((List.range y).flatMap (sumI s was is i)).length<=6400:=λy hy=>by
  have:=mV (f:=sumI s was is i) (List.range y) λj _=>L i j
  rw[List.length_range]at this
  omega
 rw[hKi]at Y
 generalize(List.range i).flatMap (sumK s was is)=A at*
 focus(repeat' first|apply wZ;rfl|omega|constructor|apply wI;rfl|apply gE;omega|intro h;simp at h)
 refine aC (X:={x:Nat×Nat//x.1<=s[i].s.length/\st x.2=none}) (λy=>((((((((((((St.nil 88 (upd st y.1.2 (some (.arr 60 ((A++(List.range y.1.1).flatMap (sumI s was is i)).map s4C))))).var 3 24 (scC s)).var 4 27 (bsC was)).var 5 27 (bsC is)).pv 7 (.vec y.1.2 4 0 (A++(List.range y.1.1).flatMap (sumI s was is i)).length)).pv 8 (vi (i:Nat))).pv 27 (.seq (s.map Tb.z))).pv 28 (vi ((s.map Tb.z).length:Nat))).pv 29 (vi (i:Nat))).pv 35 (.seq (s[i].s.map Su.z))).pv 36 (vi ((s[i].s.map Su.z).length:Nat))).pv 37 (vi (y.1.1:Nat)))) (λy=>s[i].s.length-y.1.1) ⟨(0,id),by simp,a⟩ ?_ λy=>?_
 ·dsimp only
  rw[show A++(List.range 0).flatMap (sumI s was is i)=A from by simp]
  repeat' first|exact Cn.t0|constructor
 obtain⟨⟨y,id⟩,hy,a⟩:=y
 simp only at hy a
 dsimp only
 by_cases hend1:s[i].s.length<=y
 ·obtain rfl:y=s[i].s.length:=by omega
  repeat' first|refine⟨⟨(i+1,id),by simp only;omega,a⟩,?_,?_⟩;dsimp only;rw[Y]|apply wZ;rfl|omega|constructor|simp<;>omega|intro h;simp at h
 have K:y<s[i].s.length:=by omega
 have v:=rM (sumI s was is i) y
 have hA:=hSl y hy
 have hDl:(lN (iM was i s[i].s[y]++iM is i s[i].s[y])).length<=400:=by
  have q2:=acD (iM was i s[i].s[y]++iM is i s[i].s[y]);rw[zla]at q2;have q3:=List.length_filterMap_le (λl=>ptP l s[i].s[y].b) (aF was (i:Int));have q4:=List.length_filterMap_le (λl=>ptP l s[i].s[y].b) (aF is (i:Int));have q5:=w (i:Int);have q6:=C (i:Int);unfold iM at q2⊢;omega
 have hIi:sumI s was is i y=(lN (iM was i s[i].s[y]++iM is i s[i].s[y])).filterMap (moreS s was is i y):=by unfold sumI;rw[zep s i hk,zep s[i].s y K]
 rw[hIi]at v
 have hg1:=adC k1 s[i].s[y] (apF F hk (zgm K)) (by have:=(m.bs.2 _ (zgm k1)).1;omega)
 have hg2:=adC k2 s[i].s[y] (apF G hk (zgm K)) (by have:=(o.bs.2 _ (zgm k2)).1;omega)
 have hgl1:(iM was i s[i].s[y]).length<=200:=by
  have q3:=List.length_filterMap_le (λl=>ptP l s[i].s[y].b) (aF was (i:Int));have q5:=w (i:Int);unfold iM;omega
 have hgl2:(iM is i s[i].s[y]).length<=200:=by
  have q3:=List.length_filterMap_le (λl=>ptP l s[i].s[y].b) (aF is (i:Int));have q5:=C (i:Int);unfold iM;omega
 generalize(List.range y).flatMap (sumI s was is i)=B at*
 generalize iM was i s[i].s[y]=d at*
 generalize iM is i s[i].s[y]=g at*
 have M:=aDL d g (by omega) (upd st id (some (.arr 60 ((A++B).map s4C))))
 have I:=aJE (d++g)
 have O:((d++g).mergeSort λx y=>decide (x<=y)).toArray.size=d.length+g.length:=by simp
 rw[zla]at I
 generalize hD:lN (d++g)=D at*
 focus(repeat' first|apply wD pk [9] [];kernel_rfl;rfl;rfl|apply wY;rfl;rotate_left;apply Cn.cf;focus(((first|apply hg1|apply hg2));done)|apply wY;rfl;rotate_left;apply cP;rfl;apply M;rintro _ st' (⟨ida,rfl,hida,rfl⟩)|apply wZ;rfl|constructor|apply wI;rfl|apply gE;omega|simp<;>omega|intro h;simp at h)
 have R:((d++g).mergeSort λx y=>decide (x<=y)).length=d.length+g.length:=by simp
 have U:=amX (d++g) (st:=upd (upd st id (some (.arr 60 ((A++B).map s4C)))) ida (some (.arr 3 ((d++g).map I1)))) (id:=ida) (n:=d.length+g.length) (aA _ _ _) (by simp) (by omega)
 have H:=axO ((d++g).mergeSort λx y=>decide (x<=y)).toArray (st:=upd (upd (upd st id (some (.arr 60 ((A++B).map s4C)))) ida (some (.arr 3 ((d++g).map I1)))) ida (some (.arr 3 (((d++g).mergeSort λx y=>decide (x<=y)).map I1)))) (id:=ida) (n:=d.length+g.length) (aA _ _ _) O (by omega)
 rw[I]at H
 clear I O R
 generalize((d++g).mergeSort λx y=>decide (x<=y))=Z at*
 focus(repeat' first|apply cP;rfl;apply U;rintro _ st' (rfl)|apply cP;rfl;apply H;rintro _ st' (⟨rfl,rows,rfl,hrl,hrt⟩)|apply wZ;rfl|constructor|apply wY;rfl)
 have c:upd st id (some (.arr 60 ((A++B).map s4C))) ida=none:=hida
 have u:StSub (upd st id (some (.arr 60 ((A++B++(D.take 0).filterMap (moreS s was is i y)).map s4C)))) (upd (upd (upd (upd (upd st id (some (.arr 60 ((A++B).map s4C)))) ida (some (.arr 3 ((d++g).map I1)))) ida (some (.arr 3 (Z.map I1)))) ida (some (.arr 3 rows))) ida none):=by
  have e0:(A++B++(D.take 0).filterMap (moreS s was is i y))=A++B:=by simp
  rw[e0];exact aG (aG (aG (aG (zsr _) c) c) c) c
 refine atK 55 rfl (aA _ _ _) azW hrt ?_
 refine aC (X:={x:Nat×Nat//x.1<=D.length/\st x.2=none}) (λz=>((((((((((((((((St.nil 88 (upd st z.1.2 (some (.arr 60 ((A++B++(D.take z.1.1).filterMap (moreS s was is i y)).map s4C))))).var 3 24 (scC s)).var 4 27 (bsC was)).var 5 27 (bsC is)).pv 7 (.vec z.1.2 4 0 (A++B++(D.take z.1.1).filterMap (moreS s was is i y)).length)).pv 8 (vi (i:Nat))).pv 10 (vi (y:Nat))).pv 27 (.seq (s.map Tb.z))).pv 28 (vi ((s.map Tb.z).length:Nat))).pv 29 (vi (i:Nat))).pv 35 (.seq (s[i].s.map Su.z))).pv 36 (vi ((s[i].s.map Su.z).length:Nat))).pv 37 (vi (y:Nat))).pv 55 (.seq (D.map I1))).pv 56 (vi (D.length:Nat))).pv 57 (vi (z.1.1:Nat)))) (λz=>D.length-z.1.1) ⟨(0,id),by simp,a⟩ ?_ λz=>?_
 ·dsimp only
  repeat' first|exact .any u|constructor|simp
 clear u c hrt hrl U H
 obtain⟨⟨z,id⟩,hz,a⟩:=z
 simp only at hz a
 dsimp only
 have hll:=List.length_filterMap_le (moreS s was is i y) (D.take z)
 rw[zlt]at hll
 by_cases hend2:D.length<=z
 ·obtain rfl:z=D.length:=by omega
  rw[List.take_length,zas,<-v]
  repeat' first|refine⟨⟨(y+1,id),by simp only;omega,a⟩,?_,?_⟩;dsimp only|apply wZ;rfl|omega|constructor|simp<;>omega|intro h;simp at h
 have hzl:z<D.length:=by omega
 have V:=ajL o (i:Int) (y:Int) D[z]
 have W:=ajL m (i:Int) (y:Int) D[z]
 have⟨b1,b2⟩:=qW (s:=s) (b:=is) i y D[z]
 have⟨b3,b4⟩:=qW (s:=s) (b:=was) i y D[z]
 have p:=anN (f:=moreS s was is i y) hzl
 by_cases q:totC s is (i:Int) (y:Int) D[z]-totC s was (i:Int) (y:Int) D[z]≠0
 ·have e:moreS s was is i y D[z]=some ((i:Int),(y:Int),D[z],totC s is (i:Int) (y:Int) D[z]-totC s was (i:Int) (y:Int) D[z]):=by unfold moreS;rw[zp q]
  rw[e]at p;dsimp only at p;generalize totC s is (i:Int) (y:Int) D[z]=V1 at*;generalize totC s was (i:Int) (y:Int) D[z]=V2 at*;generalize(D.take z).filterMap (moreS s was is i y)=E at*
  repeat' first|refine⟨⟨(z+1,id'),by simp only;omega,aI N⟩,?_,?_⟩;dsimp only;rw[p,<-zas]|exact Cn.any (aM ‹_›)|apply wZ;rfl|apply KR.mk;kernel_rfl|omega|constructor|(first|apply V|apply W)|show _=_;simp;omega|apply apV pk (f:=s4C) [((i:Int),(y:Int),D[z],V1-V2)] 32;(iterate 9 rfl);exact aA _ _ _;omega;exactλ_=>rfl;exactλ_=>rfl;exact aCM;(focus(simp;omega));(focus(simp;omega));rfl;intro id' N|apply wY;rfl|apply wI;rfl|apply gE;omega|simp<;>omega|intro h;simp at h|intro h
 ·have e:moreS s was is i y D[z]=none:=by unfold moreS;rw[zn q]
  rw[e]at p;dsimp only at p;rw[List.append_nil]at p;have q:=zdn q;generalize totC s is (i:Int) (y:Int) D[z]=V1 at*;generalize totC s was (i:Int) (y:Int) D[z]=V2 at*
  repeat' first|refine⟨⟨(z+1,id),by simp only;omega,a⟩,?_,?_⟩;dsimp only;rw[p]|apply wZ;rfl|apply KR.mk;kernel_rfl|omega|constructor|(first|apply V|apply W)|apply wY;rfl|apply wI;rfl|apply gE;omega|simp<;>omega|intro h;simp at h|intro h
theorem ajW(a:CkB 200 s was)(b:CkB 200 s is):qf 14 [.agg (scC s), .agg (bsC was), .agg (bsC is)] (.seq ((sumsP s was is).map s4C)):=by
 unfold sumsP;by_cases hb:bA T.rightP s was=true/\bA T.rightP s is=true
 ·rw[zp hb]
  exactλst=>eS (sz:=4) (aKJ a b hb.1 hb.2 st) λp st' h=>by
   obtain⟨id,rfl,e,rfl⟩:=h
   exact .inl ⟨id,60,((List.range s.length).flatMap (sumK s was is)).map s4C,_,st,aA _ _ _,aBP,dI (by simp),bN e,rfl,rfl⟩
 ·rw[zn hb]
  have c:=gH a.bs a.hn a.sb a.len;have d:=gH b.bs b.hn b.sb b.len;generalize bA T.rightP s was=X at*;generalize bA T.rightP s is=Y at*;refine pF func14 rfl λst=>?_
  repeat' first|exact Cn.any ⟨_,_,_,rfl,aBs,zsr _,rfl,rfl⟩|apply wZ;rfl|constructor|(first|apply c|apply d)|apply wY;rfl|exfalso;simp_all;done|intro h;simp at h
theorem auP{w:Wr}{s:Sc}:∀{l:List Ot}{b:Bs}{M:List P4}{o:Ot},(aV w s b l).2=0->lP w s b (l++[o]) M=pN s (aV w s b l).1 (bV w s (aV w s b l).1 o).1 (lP w s b l M)
 |[],_,_,_,_=>rfl
 |p::r,b,M,o,h=>by
  have⟨_,e⟩:=rS h
  show lP w s _ (r++[o]) _=_
  rw[auP (e▸h),e];rfl
theorem aLG{l:List Ot}{M:List P4}(hi:i<l.length)(h:(aV w s b (l.take i)).2=0):lP w s b (l.take (i+1)) M=pN s (aV w s b (l.take i)).1 (bV w s (aV w s b (l.take i)).1 l[i]).1 (lP w s b (l.take i) M):=by
 rw[zts _,auP h]
theorem aCr{l:List Ot}(h:(aV w s b l).2=0)(i:Nat):(aV w s b (l.take i)).2=0:=by
 refine Decidable.byContradiction λq=>?_;rw[ahM q]at h;exact q h
def Rg.zero :Rg:=⟨0,0,0,0,0,0⟩
theorem Rg.elem :Elem tt 59 Rg.z (λa=> .agg (Rg.z a)) 6:=⟨rfl,λ_=>rfl,λ_=>rfl,λ_=>rfl,λ_=>rfl⟩
theorem yE :Tryz.prog.bytesOf 59=48:=rfl
theorem aB1 :Tryz.prog.cellsOf 59=6:=rfl
def axU(R:List Rg×Int):PV:= .tup [.seq (R.1.map Rg.z),vi R.2]
theorem aCE(e:Int):Wk (.tup [.val (.slice none 0 0),vi e]) (axU ([],e)):=Wk.tup (.cons Wk.nil (.cons (zwr _) .nil))
theorem aiZ(h:StSub st st'){j:Nat}(hj:st' j=none):st j=none:=by
 rcases h j with q|q
 ·exact q
 grind
theorem abA(h:StSub st st'){id:Nat}{a:Option AObj}:StSub (upd st id a) (upd st' id a):=λj=>by
 by_cases e:j=id
 ·subst e;right;rw[aA,aA]
 ·rw[aB e,aB e];exact h j
theorem aoM(es:List (P4×Bool))(i:Nat):(aY lL bF es).eraseIdx i=aY lL bF (es.eraseIdx i):=by unfold aY;rw[xY]
theorem aAQ{es:List (P4×Bool)}{e:Value×PV}(h:(aY lL bF es)[i]?=some e):∃x,es[i]?=some x/\e=(lL x.1,bF x.2):=by
 unfold aY at h
 grind
theorem aAx{es:List (P4×Bool)}(h:aY lL bF es=[]):es=[]:=by cases es with
 |nil=>rfl
 |cons x l=>cases h
theorem adM{α:Type}:∀{l:List α}{i:Nat}{x:α},l[i]?=some x->(x::l.eraseIdx i).Perm l
 |[],_,_,h=>by grind
 |a::l,0,x,h=>by simp_all
 |a::l,i+1,x,h=>by
  simp at h
  exact(List.Perm.swap a x _).trans ((adM h).cons a)
theorem azR{es:List (P4×Bool)}{out M:List P4}{x:P4×Bool}(hx:es[i]?=some x)(h:(out++es.map (·.1)).Perm M):((out++[x.1])++(es.eraseIdx i).map (·.1)).Perm M:=by
 have:=(adM hx).map (·.1)
 grind
theorem aC4{id d e:Nat}{a b c:Option AObj}(l:st id=none)(i:e≠id)(k:e≠d):StSub (upd (upd st d a) e o) (upd (upd (upd (upd (upd st id b) e c) e o) id none) d a):=λj=>by
 by_cases f:j=e
 ·subst f;right;rw[aA,aB k,aB i,aA]
 ·rw[aB f]
  by_cases g:j=d
  ·subst g;right;rw[aA,aA]
  ·rw[aB g,aB g]
   by_cases h:j=id
   ·grind
   ·right;rw[aB h,aB f,aB f,aB h]
theorem abD{id g d:Nat}{a b c:AObj}(h:upd (upd (upd st id (some a)) g (some b)) g (some c) d=none):st d=none/\d≠g:=by
 have i:∀{f:aD}{x y:Nat}{o:AObj},upd f x (some o) y=none->y≠x/\f y=none:=fun{f x y o} h=>by
  by_cases e:y=x
  ·rw[e,aA]at h;cases h
  ·exact⟨e,by rwa[aB e]at h⟩
 grind
theorem aKB(M:List P4):(m4E M).map (·.1)=M:=by unfold m4E;rw[List.map_map];exact List.map_id M
theorem aLS(x:P4)(g:G):Rep g (.agg (p4C x)) (lL x):=by
 exact⟨afO x,rfl,adA g (afO x)⟩
theorem aLl(w:Wr)(s:Sc)(b:Bs):qf 6 [.agg (scC s), .agg (bsC b), .seq [], .agg w.who.z, .seq (w.knew.map I1)] (axU (ofP w s b [])):=by
 have e:ofP w s b []=([],0):=by unfold ofP;rw[zp (show([]:List Ot).length=0 from rfl)]
 rw[e];refine pF func6 rfl λst=>?_
 repeat' first|exact Cn.any ⟨_,_,_,rfl,aCE _,zsr _,rfl,rfl⟩|apply wZ;rfl|constructor
theorem aLg{n:Nat}{w:Wr}{s:Sc}{b:Bs}{l:List Ot}(c:ScK s)(d:OpW n b)(hn:n+l.length<=20)(hk:w.knew.length<1000000000000)(hf:∀o∈l,oC o)(hl:l.length≠0)(h0:(jV w s b l).2≠0):qf 6 [.agg (scC s), .agg (bsC b), .seq (l.map Ot.z), .agg w.who.z, .seq (w.knew.map I1)] (axU (ofP w s b l)):=by
 have a:=abG c d hn hk hf;have e:ofP w s b l=([],(jV w s b l).2):=by unfold ofP;rw[zn hl,zp h0]
 rw[e];generalize jV w s b l=R at*;obtain⟨B,e⟩:=R;unfold jA at a;dsimp only at a h0⊢;refine pF func6 rfl λst=>?_
 repeat' first|exact Cn.any ⟨_,_,_,rfl,aCE _,zsr _,rfl,rfl⟩|apply wZ;rfl|show Cn _;constructor|apply a|apply wY;rfl|omega|simp only[zql];omega|intro h;simp at h|intro h
end
section
def ajH{α:Type}(f:α->Bool)(x:α)(l:List α):List α:=if l.any f=true then l.take (gU f l)++[x]++l.drop (gU f l)else l
theorem aJz{f:α->Bool}{l:List α}(h:l.any f=true):gU f l<l.length/\∀a,gU f (l++[a])=gU f l:=by
 unfold gU;cases e:l.findIdx? f with
 |none=>
  grind
 |some i=>
  refine⟨(zfi.1 e).1,λa=>?_⟩
  grind
theorem awA{f:α->Bool}{l:List α}(h:l.any f=false)(a:α):gU f l=l.length/\(f a=true->gU f (l++[a])=l.length):=by
 unfold gU
 grind
theorem aqG{f:α->Bool}{x a:α}{l:List α}:ajH f x (l++[a])=if l.any f=true then ajH f x l++[a]else if f a=true then l++[x]++[a]else l++[a]:=by
 unfold ajH;by_cases h:l.any f=true
 ·have⟨b,c⟩:=aJz h
  grind
 ·have h:=Bool.eq_false_iff.2 h
  by_cases q:f a=true
  ·rw[zp (by rw[List.any_append,List.any_cons,q];simp),h,zn (by simp),zp q,(awA h a).2 q]
   simp
  ·rw[zn (by rw[List.any_append,h];simpa using q),h,zn (by simp),zn q]
theorem aH7(f:α->Bool)(x:α)(l:List α):l.take (gU f l)++[x]++l.drop (gU f l)=if l.any f=true then ajH f x l else l++[x]:=by
 by_cases h:l.any f=true
 ·unfold ajH;grind
 ·have a:=Bool.eq_false_iff.2 h
  rw[zn h,(awA a x).1];simp
theorem aHf(f:α->Bool)(x:α)(l:List α):(ajH f x l).length<=l.length+1:=by
 unfold ajH
 grind
theorem aoI(f:α->Bool)(l:List α)(a:α):(l++[a]).any f=(l.any f||f a):=by simp
theorem ahY(l:List α)(k f:α->Bool)(x:α):∃(G:Nat->List α) (A:Nat->Bool),G 0=[]/\A 0=false/\(∀i (h:i<l.length),(k l[i]=false->G (i+1)=G i/\A (i+1)=A i)/\(k l[i]=true->A i=true->G (i+1)=G i++[l[i]]/\A (i+1)=true)/\(k l[i]=true->A i=false->f l[i]=true->G (i+1)=G i++[x]++[l[i]]/\A (i+1)=true)/\(k l[i]=true->A i=false->f l[i]=false->G (i+1)=G i++[l[i]]/\A (i+1)=false))/\(∀i,i<=l.length->(G i).length<=i+1)/\(l.filter k).take (gU f (l.filter k))++[x]++(l.filter k).drop (gU f (l.filter k))=if A l.length=true then G l.length else G l.length++[x]:=by
 refine⟨λi=>ajH f x ((l.take i).filter k),λi=>((l.take i).filter k).any f,rfl,rfl,λi h=>?_,λi h=>?_,?_⟩
 ·have d:k l[i]=false->(l.take (i+1)).filter k=(l.take i).filter k:=λq=>by rw[zts h,List.filter_append];simp[q]
  have c:k l[i]=true->(l.take (i+1)).filter k=(l.take i).filter k++[l[i]]:=λq=>by rw[zts h,List.filter_append];simp[q]
  dsimp only;refine⟨λq=>by rw[d q];exact⟨rfl,rfl⟩,λq a=>?_,λq a b=>?_,λq a b=>?_⟩
  ·rw[c q,aqG,aoI,a,zp rfl];exact⟨rfl,rfl⟩
  ·rw[c q,aqG,aoI,a,zn (by simp),zp b,b];exact⟨by unfold ajH;rw[zn (by simp[a])],rfl⟩
  ·rw[c q,aqG,aoI,a,zn (by simp),zn (by simp[b]),b];exact⟨by unfold ajH;rw[zn (by simp[a])],rfl⟩
 ·have:=aHf f x ((l.take i).filter k)
  have:=List.length_filter_le k (l.take i);rw[zlt]at this;dsimp only;omega
 ·have e:=aH7 f x ((l.take l.length).filter k)
  simp only[List.take_length]at e⊢;rw[e];by_cases q:(l.filter k).any f=true
  ·rw[zp q,zp q]
  ·rw[zn q,zn q];unfold ajH;rw[zn q]
def sU(L:List P4)(p:P4):List P4:=if p∈L then L else L.take (gU (eK p) L)++[p]++L.drop (gU (eK p) L)
def xQ(was is:Ln)(col k t c:Int)(L:List P4):List P4:=match ptP is col with
 |none=>L
 |some n=>if ptP was col=some n then L else sU L (k,t,c,n)
def akR(was is:Ln)(l:List Fr)(L:List P4):List P4:=l.foldl (λL f=>xQ was is f.n 1 f.t 0 L) L
def arG(was is:Ln)(k:Int)(l:List Int)(L:List P4):List P4:=l.foldl (λL u=>xQ was is u 2 k u L) L
def tM(t:Tb)(k:Int)(was is:Ln)(key:Int)(L:List P4):List P4:=arG was is k t.u (akR was is t.f (sU L (1,k,0,key)))
def yA(t:Tb)(k:Int)(N O:List Ln)(L:List P4):List P4:=O.foldl (λL l=>match bJ N l.key with
 |none=>tM t k l Ln.zero l.key L
 |some x=>if l=x then L else tM t k l x l.key L) L
def ahV(t:Tb)(k:Int)(O N:List Ln)(L:List P4):List P4:=N.foldl (λL l=>if(bJ O l.key).isSome=true then L else tM t k Ln.zero l l.key L) L
def aeG(s:Sc)(was is:Bs)(L:List P4)(k:Nat):List P4:=ahV s[k]! k (aF was k) (aF is k) (yA s[k]! k (aF is k) (aF was k) L)
def afM(s:Sc)(was is:Bs)(L:List P4):List P4:=(List.range s.length).foldl (aeG s was is) L
def jQ(L M:List P4):Prop:=M.Nodup/\L=rK eK M
theorem aIZ{a b c:P4}(d:eK a b=true)(e:eK b c=true):eK a c=true:=by
 unfold eK at*
 grind
theorem aBo{L M:List P4}(h:jQ L M)(p:P4):jQ (sU L p) (uN p M):=by
 obtain⟨hn,rfl⟩:=h;have hm:p∈rK eK M↔p∈M:=(eC eK M).mem_iff;refine⟨apI hn,?_⟩;unfold sU uN;by_cases h:p∈M
 ·rw[zp (hm.2 h),zp h]
 ·rw[zn λq=>h (hm.1 q),zn h]
  have hs:=pM lex4_ord ((eC eK M).nodup_iff.2 hn) (zC lex4_ord M);have g:∀q∈rK eK M,q≠p:=λq hq e=>h (hm.1 (e▸hq));have hw:=aoU (r:=λa b=>eK a b=true) (λa b c=>aIZ) (x:=p) (f:=eK p) hs (λq hq e=>by
   cases j:eK q p with
   |true=>rfl
   |false=>exact absurd (lex4_ord.eq j e) (g q hq)) λq _ e=>e
  have d:(M++[p]).Nodup:=by have:=apI (p:=p) hn;unfold uN at this;rwa[zn h]at this
  refine alD lex4_ord d ?_ (hw.imp λq=>lex4_ord.asy q);have i:(List.take (gU (eK p) (rK eK M)) (rK eK M)++[p]++List.drop (gU (eK p) (rK eK M)) (rK eK M)).Perm (p::rK eK M):=by
   rw[zas,List.singleton_append];refine List.perm_middle.trans ?_;rw[List.take_append_drop]
  exact i.trans (((eC eK M).cons p).trans (List.perm_append_comm (l₁:=[p])))
theorem aCD{was is:Ln}{k:Int}{L M:List P4}(h:jQ L M):jQ (xQ was is col k t c L) (acE was is col k t c M):=by
 unfold xQ acE;cases ptP _ _ with
 |none=>exact h
 |some n=>
  dsimp only;by_cases e:ptP was col=some n
  ·grind
  ·rw[zn e,zn e];exact aBo h _
theorem pX{α:Type}{F G:List P4->α->List P4}(b:∀a L M,jQ L M->jQ (F L a) (G M a)):∀(l:List α){L M:List P4},jQ L M->jQ (l.foldl F L) (l.foldl G M)
 |[],_,_,h=>h
 |a::l,_,_,h=>pX b l (b a _ _ h)
theorem agE{t:Tb}{k:Int}{was is:Ln}{L M:List P4}(h:jQ L M):jQ (tM t k was is key L) (oF t k was is key M):=by
 refine pX (λu _ _ h=>?_) _ (pX (λf _ _ h=>?_) _ (aBo h _))
 ·exact aCD h
 ·exact aCD h
theorem aKV{t:Tb}{k:Int}{L M:List P4}(h:jQ L M):jQ (yA t k N O L) (zX t k N O M):=by
 refine pX (λl _ _ h=>?_) _ h;cases bJ N _ with
 |none=>exact agE h
 |some x=>
  dsimp only;by_cases e:l=x
  ·grind
  ·rw[zn e,zn e];exact agE h
theorem aKZ{t:Tb}{k:Int}{L M:List P4}(h:jQ L M):jQ (ahV t k O N L) (aiG t k O N M):=by
 refine pX (λl _ _ h=>?_) _ h;by_cases e:(bJ O l.key).isSome=true
 ·grind
 ·rw[zn e,zn e];exact agE h
theorem aHz{L M:List P4}(h:jQ L M):jQ (afM s was is L) (pN s was is M):=by
 refine pX (λk _ _ h=>?_) _ h;exact aKZ (aKV h)
theorem afL{L:List P4}{p:P4}:(sU L p).length<=L.length+1:=by
 unfold sU
 grind
theorem yH{was is:Ln}{k:Int}{L:List P4}:(xQ was is col k t c L).length<=L.length+1:=by
 unfold xQ;cases ptP _ _ with
 |none=>simp
 |some n=>
  dsimp only;split
  ·omega
  ·exact afL
theorem abW{t:Tb}{k:Int}{was is:Ln}{L:List P4}(a:t.f.length<=16)(b:t.u.length<=16):(tM t k was is key L).length<=L.length+33:=by
 unfold tM arG akR;have c:=fI (F:=λL u=>xQ was is u 2 k u L) t.u (t.f.foldl (λL f=>xQ was is f.n 1 f.t 0 L) (sU L (1,k,0,key))) λ_ _ _=>yH;have d:=fI (F:=λL (f)=>xQ was is f.n 1 f.t 0 L) t.f (sU L (1,k,0,key)) λ_ _ _=>yH;have e:=afL (L:=L) (p:=(1,k,0,key));omega
theorem asE{t:Tb}{k:Int}{L:List P4}(a:t.f.length<=16)(b:t.u.length<=16):(yA t k N O L).length<=L.length+33*O.length:=by
 refine fI O L λl _ L=>?_;cases bJ N _ with
 |none=>exact abW a b
 |some x=>
  dsimp only;split
  ·omega
  ·exact abW a b
theorem asA{t:Tb}{k:Int}{L:List P4}(a:t.f.length<=16)(b:t.u.length<=16):(ahV t k O N L).length<=L.length+33*N.length:=by
 refine fI N L λl _ L=>?_;split
 ·omega
 ·exact abW a b
def oZ(w:Wr)(s:Sc):Bs->List Ot->List P4->List P4
 |_,[],L=>L
 |b,o::r,L=>oZ w s (bV w s b o).1 r (afM s b (bV w s b o).1 L)
theorem aB9{w:Wr}{s:Sc}:∀{l:List Ot}{b:Bs}{L M:List P4},jQ L M->jQ (oZ w s b l L) (lP w s b l M)
 |[],_,_,_,h=>h
 |o::r,b,L,M,h=>by
  show jQ (oZ w s _ r _) _
  exact aB9 (aHz h)
theorem aBm{l:List Ot}:oZ w s b l []=rK eK (lP w s b l []):=(aB9 ⟨List.nodup_nil,rfl⟩).2
end
section
attribute [local irreducible] Ev PWp
theorem aqD(h:bY s=0):aKR s:=⟨by have:=lE h;omega,λk hk=>by
 have:=jF h hk
 grind⟩
theorem abV(b:∀k:Int,(aF was k).length<=200)(d:∀k:Int,(aF is k).length<=200):(sumsP s was is).length<=102400:=by
 unfold sumsP;split
 ·rename_i h
  have a:=(aS.1 h.1).1.1;have:=mV (f:=sumK s was is) (c:=6400) (List.range _) λk hk=>by
   have hk:=zmr.1 hk
   unfold sumK
   have:=mV (f:=sumI s was is k) (List.range s[k]!.s.length) λi _=>ajN b d k i
   have:=(jF a hk).2.2.2.2
   grind
  rw[List.length_range]at this;have:=lE a;omega
 ·simp
theorem aAA{l:List Ot}(q:ScK s)(c:OpW n b)(hn:n+l.length<=20)(hf:∀o∈l,oC o):(ofP w s b l).1.length<=100000000:=by
 unfold ofP;split
 ·simp
 ·split
  ·simp
  ·rename_i p a
   have a:=zdn a;have⟨g,h,u,i⟩:=ayV a;have⟨_,e,k⟩:=eP.1 g;have d:=(aS.1 e).1.1;have⟨m,f⟩:=mX k e c hf h;have r:=aeO (aqD d) (w:=w) (M:=[]) c hn hf;have t:(sumsP s b (jV w s b l).1).length<=102400:=by
    rw[i];exact abV (λj=>by have:=(fD c j).1;omega) λj=>by have:=(fD f j).1;omega
   dsimp only;rw[zla,zql,zql,(eC eK _).length_eq]
   grind
theorem amI{L:List S4}(h:i<L.length):(L.take (i+1)).filter (λx=>decide (x.2.2.2>0))=(L.take i).filter (λx=>decide (x.2.2.2>0))++(if L[i].2.2.2>0 then[L[i]]else[]):=by
 rw[zts h,List.filter_append]
 grind
theorem aLb{l:List Ot}(Z:ScK s)(O:OpW n b)(hn:n+l.length<=20)(hk:w.knew.length<1000000000000)(hf:∀o∈l,oC o)(hl:l.length≠0)(h0:(jV w s b l).2=0):qf 6 [.agg (scC s), .agg (bsC b), .seq (l.map Ot.z), .agg w.who.z, .seq (w.knew.map I1)] (.tup [.seq ((ofP w s b l).1.map Rg.z),vi 0]):=by
 intro st;have h1:=abG Z O hn hk hf;have W:=aAA (w:=w) Z O hn hf;have⟨r1,r2,r3,r4⟩:=ayV h0;have⟨_,r5,r6⟩:=eP.1 r1;have⟨f1,f2⟩:=mX r6 r5 O hf r2;have e:(ofP w s b l).1=(rK eK (lP w s b l [])).map rgP++((sumsP s b (aV w s b l).1).filter λx=>decide (x.2.2.2>0)).map rgS:=by unfold ofP;rw[zn hl,zn (by simp[h0]),r4]
 have hx:jV w s b l=((aV w s b l).1,0):=Prod.ext r4 h0;rw[hx]at h1;rw[e]at W⊢;have H:=λi=>aCr r2 i;have v:=λ(i:Nat)(hi:i<=l.length)=>mX r6 (l:=l.take i) r5 O (λo ho=>hf o (List.mem_of_mem_take ho)) (H i);have hnd:=aFI (w:=w) (s:=s) (l:=l) (b:=b) (M:=[]) List.nodup_nil;have hsm:∀x∈rK eK (lP w s b l []),aoT x:=λx hx=>by
  rw[(eC eK _).mem_iff,aCh r6 r5 O hf r2]at hx
  rcases hx with q|q
  ·cases q
  ·exact alI r6 r5 O hf r2 q
 have hSl:(sumsP s b (aV w s b l).1).length<=102400:=abV (λj=>by have:=(fD O j).1;omega) (λj=>by have:=(fD f2 j).1;omega);have hsums:=ajW (Z.ck (O.S (by omega)) (by omega)) (Z.ck (f2.S (by omega)) (by omega));have hall:=aeO (aqD (aS.1 r5).1.1) (w:=w) (M:=[]) O hn hf;simp only[List.length_nil]at hall;rw[zla,zql,zql]at W;have hlm:(l.map Ot.z).length=l.length:=zql _;have p:∀i (hi:i<l.length),bV w s (aV w s b (l.take i)).1 l[i]=((aV w s b (l.take (i+1))).1,0):=λi hi=>by
  have q:=aeT hi (H i)
  have q2:=H (i+1)
  by_cases z:(bV w s (aV w s b (l.take i)).1 l[i]).2≠0
  ·rw[zp z]at q;rw[q]at q2;exact absurd q2 z
  ·rw[zn z]at q
   rw[q];exact Prod.ext rfl (zdn z)
 have hdo:∀i (hi:i<l.length),qf 15 [.agg (scC s), .agg (bsC (aV w s b (l.take i)).1), .agg l[i].z, .agg w.who.z, .seq (w.knew.map I1)] (jA ((aV w s b (l.take (i+1))).1,0)):=λi hi=>by
  have⟨q1,q2⟩:=v i (by omega)
  rw[zlt,Nat.min_eq_left (by omega)]at q2
  have q:=aHG (w:=w) (o:=l[i]) Z (n:=n+i) ⟨Z.sb,Z.len,q2,by omega,hk,hf _ (zgm hi)⟩
  unfold doP at q
  rw[zp (eP.2 ⟨(eP.1 r1).1,q1,r6⟩),p i hi]at q
  exact q
 have T:∀i (hi:i<l.length),lP w s b (l.take (i+1)) []=pN s (aV w s b (l.take i)).1 (aV w s b (l.take (i+1))).1 (lP w s b (l.take i) []):=λi hi=>by
  rw[aLG hi (H i),p i hi]
 have J:∀i (hi:i<l.length) (M:List P4) (id:Nat),_:=λi hi M id=>aDg (v i (by omega)).1 (v (i+1) (by omega)).1 ((v i (by omega)).2.S (by rw[zlt];omega)) ((v (i+1) (by omega)).2.S (by rw[zlt];omega)) M st id;clear p v H;have U:(aV w s b (l.take l.length)).1=(aV w s b l).1:=by rw[List.take_length]
 have hfa:lP w s b (l.take l.length) []=lP w s b l []:=by rw[List.take_length]
 have hl2:¬l=[]:=λe=>hl (by rw[e];rfl);refine pC func6 rfl ?_
 focus(repeat' first|apply mkM (enc:=lL) (f:=bF);rfl;intro idm V|apply Cn.cf;focus((apply h1);done)|apply wZ;rfl|omega|constructor|apply wY;rfl|intro h;simp at h)
 have E:st idm=none:=V;clear V;refine aC (X:={x:Nat//x<=l.length}) (λi=>(((((((((((St.nil 126 (upd st idm (some (m4M (lP w s b (l.take i.1) []))))).pv 4 (.seq (w.knew.map I1))).var 5 24 (scC s)).var 6 27 (bsC b)).var 8 30 (w.who.z)).var 12 27 (bsC (aV w s b l).1)).pv 14 (.mref idm)).var 15 27 (bsC (aV w s b (l.take i.1)).1)).pv 44 (.seq (l.map Ot.z))).pv 45 (vi ((l.map Ot.z).length:Nat))).pv 46 (vi (i.1:Nat)))) (λi=>l.length-i.1) ⟨0,by omega⟩ ?_ λi=>?_
 ·repeat' first|exact .any (zsr _)|constructor
 have⟨i,hi⟩:=i;dsimp only;by_cases hend:¬l.length<=i
 ·have hil:i<l.length:=by omega
  have hd:=hdo i hil;have ht:=J i hil (lP w s b (l.take i) []) idm;rw[<-T i hil]at ht
  repeat' first|apply Cn.cf;focus((apply hd);done)|apply cP;rfl;apply ht;rintro _ st' (rfl)|refine⟨⟨i+1,by omega⟩,?_,?_⟩;dsimp only|exact Cn.t0|apply wZ;rfl|omega|constructor|apply wY;rfl|apply wI;rfl|apply gE;omega|simp<;>omega|intro h;simp at h
 obtain rfl:i=l.length:=by omega
 rw[hfa,U];clear hdo T J U hfa;generalize(aV w s b l).1=B at*;generalize hM:lP w s b l []=M at*
 focus(repeat' first|apply rW 66;rfl;exact aA _ _ _|apply aIk pk;(iterate 5 rfl);intro Q hit|apply wZ;rfl|omega|constructor|intro h;simp at h)
 have g:StSub st (upd (upd st idm (some (m4M M))) idm none):=aG (aG (zsr _) E) E;have hit0:st Q=none:=aiZ g hit;refine cL 20 66 4 rfl rfl rfl λid hid=>?_;have r:upd (upd (upd st idm (some (m4M M))) idm none) Q (some (.iter none (aY lL bF (m4E M)))) id=none:=hid;have m:id≠Q:=λe=>by rw[e,aA]at r;cases r
 have c:st id=none:=aiZ g (by rwa[aB m]at r);have Y:StSub (upd (upd st id (some (.arr 66 (([]:List P4).map p4C)))) Q (some (.iter none (aY lL bF (m4E M))))) (upd (upd (upd (upd st idm (some (m4M M))) idm none) Q (some (.iter none (aY lL bF (m4E M))))) id (some (.arr 66 []))):=by
  rw[fE m];exact abA (abA g)
 have G:(([]:List P4)++(m4E M).map (·.1)).Perm M:=by rw[List.nil_append,aKB]
 clear g hit hid r;refine aC (X:={x:List (P4×Bool)×List P4×Nat×Option (Value×PV)//st x.2.2.1=none/\x.2.2.1≠Q/\(x.2.1++x.1.map (·.1)).Perm M}) (λq=>((((((St.nil 126 (upd (upd st q.1.2.2.1 (some (.arr 66 (q.1.2.1.map p4C)))) Q (some (.iter q.1.2.2.2 (aY lL bF q.1.1))))).var 5 24 (scC s)).var 6 27 (bsC b)).var 12 27 (bsC B)).pv 20 (.vec q.1.2.2.1 4 0 q.1.2.1.length)).pv 67 (.ref Q 0))) (λq=>q.1.1.length) ⟨(m4E M,[],id,none),c,m,G⟩ ?_ λq=>?_
 ·dsimp only
  repeat' first|exact .any Y|constructor
 clear c m Y G;obtain⟨⟨N,out,id,cur⟩,c,m,hp⟩:=q;dsimp only at c m hp;dsimp only;have hlo:out.length<=1000000000:=by have:=hp.length_eq;rw[zla]at this;omega
 repeat' first|apply wZ;rfl|constructor|apply aLj;rfl;exact aA _ _ _;rfl;rfl;rfl;intro hleft;rotate_left;intro j e he;rotate_left
 ·obtain rfl:=aAx hleft
  rw[List.map_nil,List.append_nil]at hp;have hlr:∀R:List P4,R.Perm out->(R.Pairwise λx y=>eK y x=false)->R=rK eK M:=λR h1 h2=>alD lex4_ord hnd (h1.trans hp) h2
  focus(repeat' first|apply cP;rfl;apply(aFf out ((aB m).trans (aA _ _ _)) rfl (by omega));rintro _ st' (⟨R,rfl,hR1,hR2⟩)|apply wZ;rfl|constructor|apply wY;rfl)
  have hR:=hlr R hR1 hR2;have hRl:(R.map p4C).length=out.length:=by rw[zql];exact hR1.length_eq
  have hol:out.length=(rK eK M).length:=by rw[<-hR];exact hR1.length_eq.symm
  have C:StSub st (upd (upd (upd (upd st id (some (.arr 66 (out.map p4C)))) Q (some (.iter cur (aY lL bF [])))) id (some (.arr 66 (R.map p4C)))) id none):=aG (aG (aG (aG (zsr _) c) hit0) c) c;refine uQ 78 rfl (aA _ _ _) aJg hRl ?_;refine cL 22 59 6 rfl rfl rfl λid2 k=>?_;have D:st id2=none:=aiZ C k;have I:=abA C (id:=id2) (a:=some (.arr 59 []));clear C k hlr hR1 hR2 hRl;subst hR;generalize rK eK M=S at*;refine aC (X:={x:Nat×Nat//x.1<=S.length/\st x.2=none}) (λq=>((((((((St.nil 126 (upd st q.1.2 (some (.arr 59 (((S.take q.1.1).map rgP).map Rg.z))))).var 5 24 (scC s)).var 6 27 (bsC b)).var 12 27 (bsC B)).pv 22 (.vec q.1.2 6 0 ((S.take q.1.1).map rgP).length)).pv 78 (.seq (S.map p4C))).pv 79 (vi (out.length:Nat))).pv 80 (vi (q.1.1:Nat)))) (λq=>S.length-q.1.1) ⟨(0,id2),by simp,D⟩ ?_ λq=>?_
  ·dsimp only
   repeat' first|exact .any I|constructor
  clear I D;obtain⟨⟨q,id2⟩,hq,k⟩:=q;simp only at hq k;dsimp only;by_cases hend2:S.length<=q
  ·obtain rfl:q=S.length:=by omega
   rw[List.take_length];generalize hL:sumsP s b B=L at*;have hAm:(S.map rgP).length=S.length:=zql _;generalize S.map rgP=A at*;have hAl:A.length<=100000000:=by omega
   have hfl:=λj=>List.length_filter_le (λx:S4=>decide (x.2.2.2>0)) (L.take j)
   focus(repeat' first|apply Cn.cf;focus((apply hsums);done)|apply wZ;rfl|omega|constructor|apply wY;rfl|intro h;simp at h)
   refine aC (X:={x:Nat×Nat//x.1<=L.length/\st x.2=none}) (λz=>(((((St.nil 126 (upd st z.1.2 (some (.arr 59 ((A++((L.take z.1.1).filter λx=>decide (x.2.2.2>0)).map rgS).map Rg.z))))).pv 22 (.vec z.1.2 6 0 (A++((L.take z.1.1).filter λx=>decide (x.2.2.2>0)).map rgS).length)).pv 103 (.seq (L.map s4C))).pv 104 (vi ((L.map s4C).length:Nat))).pv 105 (vi (z.1.1:Nat)))) (λz=>L.length-z.1.1) ⟨(0,id2),by simp,k⟩ ?_ λz=>?_
   ·dsimp only
    rw[show A++((L.take 0).filter λx=>decide (x.2.2.2>0)).map rgS=A from by simp]
    repeat' first|exact Cn.t0|constructor
   obtain⟨⟨z,id3⟩,hz,u⟩:=z;simp only at hz u;dsimp only;have hfz:=hfl z;by_cases hend3:L.length<=z
   ·obtain rfl:z=L.length:=by omega
    rw[List.take_length]
    repeat' first|refine uQ 10 rfl (aA _ _ _) aB1 (by simp) ?_;refine yJ ?_;exact Cn.any ⟨_,_,st,rfl,zwr _,aG (aG (zsr _) u) u,rfl,rfl⟩|apply wZ;rfl|constructor|simp<;>omega|intro h;simp at h
   have hzl:z<L.length:=by omega
   have P:=amI hzl;have hfl2:((L.take z).filter λx=>decide (x.2.2.2>0)).length<=100000000:=by
    have:=((List.take_sublist z L).filter λx:S4=>decide (x.2.2.2>0)).length_le;omega
   by_cases G:L[z].2.2.2>0
   ·rw[zp G]at P
    generalize(L.take z).filter (λx=>decide (x.2.2.2>0))=F at*;have hft2:A++((L.take (z+1)).filter λx=>decide (x.2.2.2>0)).map rgS=A++F.map rgS++[rgS L[z]]:=by rw[P,zmd,<-zas];rfl
    have hAF:(A++F.map rgS).length=A.length+F.length:=by simp
    repeat' first|refine⟨⟨(z+1,K),by simp only;omega,aI d⟩,?_,?_⟩;dsimp only;rw[hft2]|exact Cn.any (aM ‹_›)|apply wZ;rfl|omega|constructor|show _=_;simp;omega|apply apV pk (f:=Rg.z) [rgS L[z]] 48;(iterate 9 rfl);exact aA _ _ _;omega;exactλ_=>rfl;exactλ_=>rfl;exact yE;(focus(simp;omega));(focus(simp;omega));rfl;intro K d|apply mG pk 0;(iterate 5 rfl);(focus repeat' constructor);rfl;intro _;rfl;intro _;omega;rfl|apply mG pk 1;(iterate 5 rfl);(focus repeat' constructor);rfl;intro _;rfl;intro _;omega;rfl|apply mG pk 2;(iterate 5 rfl);(focus repeat' constructor);rfl;intro _;rfl;intro _;omega;rfl|apply mG pk 3;(iterate 5 rfl);(focus repeat' constructor);rfl;intro _;rfl;intro _;omega;rfl|apply wI;rfl|apply gE;omega|simp<;>omega|intro h;simp at h
   ·rw[zn G,List.append_nil]at P
    repeat' first|refine⟨⟨(z+1,id3),by simp only;omega,u⟩,?_,?_⟩;dsimp only;rw[P]|apply wZ;rfl|omega|constructor|apply mG pk 3;(iterate 5 rfl);(focus repeat' constructor);rfl;intro _;rfl;intro _;omega;rfl|apply wI;rfl|apply gE;omega|simp<;>omega|intro h;simp at h
  have hql:q<S.length:=by omega
  have hup:(S.take (q+1)).map rgP=(S.take q).map rgP++[rgP S[q]]:=by rw[zts hql,zmd];rfl
  have⟨n1,n2⟩:=hsm _ (zgm hql);have hml:((S.take q).map rgP).length=q:=by rw[zql,zlt];omega
  repeat' first|refine⟨⟨(q+1,K),by simp only;omega,aI d⟩,?_,?_⟩;dsimp only;rw[hup]|exact Cn.any (aM ‹_›)|apply wZ;rfl|omega|constructor|show _=_;simp|apply apV pk (f:=Rg.z) [rgP S[q]] 48;(iterate 9 rfl);exact aA _ _ _;omega;exactλ_=>rfl;exactλ_=>rfl;exact yE;(focus(simp;omega));(focus(simp;omega));rfl;intro K d|apply mG pk 0;(iterate 5 rfl);(focus repeat' constructor);rfl;intro _;rfl;intro _;omega;rfl|apply mG pk 1;(iterate 5 rfl);(focus repeat' constructor);rfl;intro _;rfl;intro _;omega;rfl|apply mG pk 2;(iterate 5 rfl);(focus repeat' constructor);rfl;intro _;rfl;intro _;omega;rfl|apply mG pk 3;(iterate 5 rfl);(focus repeat' constructor);rfl;intro _;rfl;intro _;omega;rfl|apply wI;rfl|apply gE;omega|simp<;>omega|intro h;simp at h
 ·obtain⟨x,hx,rfl⟩:=aAQ he
  have hp2:=azR hx hp;have hlt:(N.eraseIdx j).length<N.length:=by
   have:=(zge.1 hx).1;rw[List.length_eraseIdx_of_lt this];omega
  have sK:=Ne.symm m;rw[aoM];have hkey:=aLS x.1
  repeat' first|refine⟨⟨(N.eraseIdx j,out++[x.1],K,some (lL x.1,bF x.2)),(abD d).1,(abD d).2,hp2⟩,?_,?_⟩;dsimp only|refine Cn.any ?_;exact Sub.nil _ _ _ (aC4 c sK (Ne.symm (abD d).2)) rfl|apply wZ;rfl|omega|constructor|show _=_;simp;done|apply apV pk (f:=p4C) [x.1] 32;(iterate 9 rfl);(focus((repeat (first|exact aA _ _ _|refine(aB ‹_›).trans ?_));done));omega;exactλ_=>rfl;exactλ_=>rfl;exact aKg;(focus(simp;omega));(focus(simp;omega));rfl;intro K d|apply aHx;rfl;rfl;exact aA _ _ _;exact hkey;rotate_left;rfl;rfl
end
section
theorem asN :∀{a b c:List UInt8},Op.bytesLess a b=true->Op.bytesLess b c=true->Op.bytesLess a c=true
 |_,_,[],_,d=>by simp[Op.bytesLess]at d
 |_,[],_::_,h1,_=>by simp[Op.bytesLess]at h1
 |[],_::_,_::_,_,_=>rfl
 |a::x,b::y,c::z,h1,d=>by
  simp only[Op.bytesLess,Bool.or_eq_true,zba,beq_iff_eq]at*
  rcases h1 with h1|⟨rfl,h1⟩<;>rcases d with d|⟨rfl,d⟩
  ·grind
  ·grind
  ·grind
  ·exact .inr ⟨rfl,asN h1 d⟩
theorem alS{b:Vl}:dF a b=true↔a.k<b.k\/(a.k=b.k/\(a.n<b.n\/(a.n=b.n/\Op.bytesLess a.s.toList b.s.toList=true))):=by
 unfold dF
 grind
theorem acR{b c:Vl}(d:dF a b=true)(e:dF b c=true):dF a c=true:=by
 rw[alS]at*;rcases d with d|⟨e1,d|⟨f1,d⟩⟩<;>rcases e with e|⟨f,e|⟨g,e⟩⟩
 ·exact .inl (by omega)
 ·exact .inl (by omega)
 ·omega
 ·exact .inl (by omega)
 ·grind
 ·grind
 ·exact .inl (by omega)
 ·omega
 ·exact .inr ⟨by omega, .inr ⟨by omega,asN d e⟩⟩
theorem azZ{o:List Vl}{j:Nat}(hj:j<atV o v)(h:j<o.length):dF o[j] v=true:=by
 unfold atV at hj;cases e:o.findIdx? λx=> !dF x v with
 |none=>
  grind
 |some k=>
  rw[e]at hj;have:=(zfi.1 e).2.2 j hj
  grind
theorem aM0{o:List Vl}(h:atV o v<o.length):dF o[atV o v] v=false:=by
 have key:∀k (hk:k<o.length),atV o v=k->dF o[k] v=false:=λk hk e0=>by
  unfold atV at e0
  cases e:o.findIdx? λx=> !dF x v with
  |none=>grind
  |some j=>
   have:=(zfi.1 e).2.1
   grind
 grind
def ahG(o:List Vl):Prop:=o.Pairwise λa b=>dF a b=true
theorem aoX{o:List Vl}(h:ahG o){j:Nat}(a:i<j)(hj:j<o.length):dF (o[i]'(by omega)) o[j]=true:=List.pairwise_iff_getElem.1 h i j _ _ a
def tQ(o:List Vl):Vl:=o.getLast?.getD Vl.zero
theorem atB{o:List Vl}(h:0<o.length):tQ o=o[o.length-1]:=by
 unfold tQ
 grind
theorem aDQ(o:List Vl)(v:Vl)(hs:ahG o):ahG (aeJ o v)/\0<(aeJ o v).length/\tQ (aeJ o v)=if o.length=0\/dF (tQ o) v=true then v else tQ o:=by
 have p:=aHr o v;rcases Nat.lt_or_ge (atV o v) o.length with ha|ha
 ·have k:=aM0 ha
  have g:0<o.length:=by omega
  have d:dF (tQ o) v=false:=by
   rw[atB g,<-znt];intro q;rcases Nat.lt_or_ge (atV o v) (o.length-1)with h|h
   ·have:=acR (aoX hs h (by omega)) q
    rw[k]at this;cases this
   ·have e:o.length-1=atV o v:=by omega
    simp only[e]at q;rw[k]at q;cases q
  rw[zn (by rw[d];rintro(q|q);omega;cases q)];unfold aeJ;rw[zep o (atV o v) ha];by_cases c:zA o[atV o v] v=true
  ·rw[zp ⟨ha,c⟩]
   exact⟨hs,g,rfl⟩
  ·rw[zn λq=>c q.2]
   have m:dF v o[atV o v]=true:=by
    unfold zA at c;rw[k]at c
    simpa using c
   unfold dU;refine⟨?_,by simp;omega,?_⟩
   ·unfold ahG
    rw[zas,List.pairwise_append,List.pairwise_append];refine⟨List.Pairwise.sublist (List.take_sublist _ _) hs,⟨List.pairwise_singleton _ _,List.Pairwise.sublist (List.drop_sublist _ _) hs,?_⟩,?_⟩
    ·intro a l b f
     rw[zms]at l;subst l;obtain⟨j,hj,rfl⟩:=zgo f;rw[List.getElem_drop];rw[zld]at hj;rcases Nat.eq_zero_or_pos j with rfl|hp
     ·simpa using m
     ·exact acR m (aoX hs (by omega) (by omega))
    ·intro a l b f
     obtain⟨i,hi,rfl⟩:=zgo l;rw[zlt]at hi;rw[List.getElem_take];have n:=azZ (o:=o) (v:=v) (j:=i) (by omega) (by omega);rcases zma.1 f with f|f
     ·rw[zms]at f;subst f;exact n
     ·obtain⟨j,hj,rfl⟩:=zgo f
      rw[List.getElem_drop];rw[zld]at hj;exact aoX hs (by omega) (by omega)
   ·unfold tQ
    rw[List.getLast?_append,List.getLast?_drop,zn (by omega)];cases hz:o.getLast? with
    |none=>rw[List.getLast?_eq_none_iff.1 hz]at g;simp at g
    |some z=>rfl
 ·have ha:atV o v=o.length:=by omega
  have d:o.length=0\/dF (tQ o) v=true:=by
   rcases Nat.eq_zero_or_pos o.length with h|h
   ·exact .inl h
   ·right
    rw[atB h];exact azZ (by omega) (by omega)
  rw[zp d];unfold aeJ;rw[zn λq=>by omega];unfold dU;rw[ha,List.take_length,List.drop_length,List.append_nil];refine⟨?_,by simp,?_⟩
  ·unfold ahG
   rw[List.pairwise_append];refine⟨hs,List.pairwise_singleton _ _,?_⟩;intro a l b f;rw[zms]at f;subst f;obtain⟨i,hi,rfl⟩:=zgo l;exact azZ (by omega) hi
  ·unfold tQ;simp
def aeE(l:List Pt):Nat->Vl
 |0=>Vl.zero
 |i+1=>if i=0\/dF (aeE l i) l[i]!.val=true then l[i]!.val else aeE l i
theorem alZ(l:List Pt):∀i,i<=l.length->ahG (gR (l.take i))/\(0<i->0<(gR (l.take i)).length)/\tQ (gR (l.take i))=aeE l i
 |0,_=>by simp[gR,ahG,tQ,aeE]
 |i+1,h=>by
  have⟨a,c,b⟩:=alZ l i (by omega)
  have h4:=aDQ _ l[i].val a
  rw[apT (by omega)]
  refine⟨h4.1,λ_=>h4.2.1,?_⟩
  rw[h4.2.2,b]
  unfold aeE
  rw[zep l i (by omega)]
  have hz:(gR (l.take i)).length=0↔i=0:=by
   constructor
   ·omega
   ·rintro rfl;simp[gR]
  simp only[hz]
  cases i<;>rfl
theorem aDI(c:Cl):agB c=aeE c.p c.p.length:=by
 have:=(alZ c.p _ (znr _)).2.2
 simpa
def zT(xs:Array Int)(p:Nat):Nat:=if p=0 then 0 else 1+dN xs p
theorem aIY(xs:Array Int)(p:Nat):zT xs p<=p:=by
 unfold zT;split
 ·omega
 ·have:=aCp xs 1 (p-1) (znr _)
  rw[show 1+(p-1)=p by omega]at this;have h0:dN xs 1=0:=rfl;omega
theorem aH9(xs:Array Int):zT xs xs.size=aeK xs:=by
 unfold zT aeK;by_cases h0:xs.size=0
 ·grind
 ·by_cases a:xs.size<2
  ·rw[show xs.size=1 by omega];rfl
  grind
theorem aC5(h:p=0\/xs[p]!≠xs[p-1]!):zT xs (p+1)=zT xs p+1:=by
 unfold zT;rcases Nat.eq_zero_or_pos p with rfl|hp
 ·rfl
 ·rw[zn (by simp),zn (by omega),adN _ hp,zn (h.resolve_left (by omega))];omega
theorem aEk(hp:1<=p)(h:xs[p]! =xs[p-1]!):zT xs (p+1)=zT xs p:=by
 unfold zT;rw[zn (by simp),zn (by omega),adN _ hp,zp h];rfl
theorem auB{xs:Array Int}{n:Nat}(hs:∀i j,i<=j->j<n->xs[i]!<=xs[j]!):∀(d p:Nat),d=n-p->1<=p->p<=n->∃q,p<=q/\q<=n/\xs[q-1]! =xs[p-1]!/\zT xs q=zT xs p/\(q<n->xs[q-1]!<xs[q]!)
 |0,p,hd,h1,h2=>⟨p,by omega,h2,rfl,rfl,λh=>by omega⟩
 |d+1,p,hd,h1,h2=>by
  by_cases a:xs[p]! =xs[p-1]!
  ·have⟨q,g,b,c,e,f⟩:=auB hs d (p+1) (by omega) (by omega) (by omega)
   refine⟨q,by omega,b,?_,?_,f⟩
   ·rw[c,show p+1-1=p by omega,a]
   ·rw[e,aEk h1 a]
  ·refine⟨p,by omega,h2,rfl,rfl,λh=>?_⟩
   have:=hs (p-1) p (by omega) (by omega);omega
structure Found (xs:Array Int) (n p:Nat) (out:List Int):Prop where
 le:p<=n
 len:out.length=zT xs p
 last:∀h:0<out.length,0<p/\out[out.length-1]=xs[p-1]!/\(p<n->xs[p-1]!<xs[p]!)
theorem Found.zero:Found xs n 0 []:=⟨by simp,rfl,λh=>absurd h (by simp)⟩
theorem Found.pos{out:List Int}(a:Found xs n p out)(hp:0<p):0<out.length:=by
 rw[a.len];unfold zT;grind
def aiT(out:List Int)(x:Int):Prop:=out.length=0\/x>out[out.length-1]!
theorem Found.over{out:List Int}(h:Found xs n p out)(hs:∀i j,i<=j->j<n->xs[i]!<=xs[j]!)(hi:i<n):aiT out xs[i]!↔p<=i:=by
 unfold aiT;rcases Nat.eq_zero_or_pos out.length with h0|h0
 ·have:p=0:=by
   rcases Nat.eq_zero_or_pos p with e|e
   ·exact e
   ·have:=h.pos e;omega
  exact⟨λ_=>by omega,λ_=> .inl h0⟩
 ·have⟨c,a,b⟩:=h.last h0
  rw[zep out (out.length-1) (by omega),a];constructor
  ·rintro(q|q)
   ·omega
   ·rcases Nat.lt_or_ge i p with r|r
    ·have:=hs i (p-1) (by omega) (by have:=h.le;omega);omega
    ·exact r
  ·intro q
   right;have h4:=b (by omega);have:=hs p i q hi;omega
theorem Found.step{xs:Array Int}{n p:Nat}{out:List Int}(h:Found xs n p out)(hs:∀i j,i<=j->j<n->xs[i]!<=xs[j]!){l:Int}(a:aiT out l)(b:∃i,i<n/\l=xs[i]!)(c:∀i,i<n->aiT out xs[i]!->l<=xs[i]!):∃q,p<q/\Found xs n q (out++[l]):=by
 obtain⟨i,hi,rfl⟩:=b;have f:=(h.over hs hi).1 a;have hp:p<n:=by omega
 have g:xs[i]! =xs[p]!:=by
  have s:=c p hp ((h.over hs hp).2 (znr _));have t:=hs p i f hi;omega
 have d:p=0\/xs[p]!≠xs[p-1]!:=by
  rcases Nat.eq_zero_or_pos p with e|e
  ·exact .inl e
  ·have:=(h.last (h.pos e)).2.2 hp
   exact .inr (by omega)
 have hc:=aC5 d;have⟨q,u,k,m,o,r⟩:=auB hs (n-(p+1)) (p+1) rfl (by omega) (by omega);refine⟨q,by omega,k,?_,λ_=>⟨by omega,?_,r⟩⟩
 ·rw[zla,h.len,o,hc];rfl
 ·rw[m,show p+1-1=p by omega,<-g]
  simp
theorem Found.done{out:List Int}(h:Found xs n p out)(hs:∀i j,i<=j->j<n->xs[i]!<=xs[j]!)(hn:xs.size=n)(a:∀i,i<n->¬aiT out xs[i]!):out.length=aeK xs:=by
 have hp:p=n:=by
  rcases Nat.lt_or_ge p n with q|q
  ·exact absurd ((h.over hs q).2 (znr _)) (a p q)
  ·have:=h.le;omega
 rw[h.len,hp,<-hn,aH9]
theorem Found.short{out:List Int}(h:Found xs n p out):out.length<=n:=by
 have:=h.len;have:=aIY xs p;have:=h.le;omega
theorem asR(c:Cl):∀i j,i<=j->j<c.p.length->(gC c).toArray[i]!<=(gC c).toArray[j]!:=by
 intro i j d hj;have e:(gC c).length=c.p.length:=by unfold gC;simp
 rw[getElem!_pos _ i (by simp;omega),getElem!_pos _ j (by simp;omega)];rcases Nat.lt_or_eq_of_le d with h|h
 ·have hp:(gC c).Pairwise _:=List.pairwise_mergeSort (by grind) (by intro a b;simp;omega) _
  have:=List.pairwise_iff_getElem.1 hp i j (by omega) (by omega) h
  simpa using this
 grind
theorem ahR(c:Cl)(x:Int):(∃i,i<c.p.length/\x=(gC c).toArray[i]!)↔∃k,∃h:k<c.p.length,x=c.p[k].val.n:=by
 have a:(gC c).length=c.p.length:=by unfold gC;rw[List.length_mergeSort,zql]
 have hm:x∈gC c↔x∈c.p.map (·.val.n):=by unfold gC;exact List.mem_mergeSort
 constructor
 ·rintro⟨i,hi,rfl⟩
  rw[getElem!_pos _ i (by simp;omega)]at hm⊢;have:=hm.1 (by simp);have⟨k,hk,e⟩:=zgo this
  grind
 ·rintro⟨k,hk,rfl⟩
  have:=hm.2 (zmq.2 ⟨_,zgm hk,rfl⟩);have⟨i,hi,e⟩:=zgo this;exact⟨i,by omega,by grind⟩
def wM(out:List Int)(x:Int):Bool:=decide (out.length=0)||decide (x>out[out.length-1]!)
theorem abE{out:List Int}{x:Int}:wM out x=true↔aiT out x:=by unfold wM aiT;simp
def mnI(out:List Int)(l:List Pt):Nat->Bool×Int
 |0=>(false,0)
 |k+1=>if(wM out l[k]!.val.n&&(!(mnI out l k).1||decide (l[k]!.val.n<(mnI out l k).2)))=true then(true,l[k]!.val.n)else mnI out l k
theorem apC(out:List Int)(l:List Pt):∀k,(mnI out l k).1=false->∀j<k,wM out l[j]!.val.n=false
 |0,_,j,hj=>by omega
 |k+1,h,j,hj=>by
  unfold mnI at h
  split at h
  ·cases h
  ·rcases zls.1 hj with r|r
   ·exact apC _ l k h j r
   grind
theorem apG(out:List Int)(l:List Pt):∀k,(mnI out l k).1=true->wM out (mnI out l k).2=true/\(∃j,j<k/\(mnI out l k).2=l[j]!.val.n)/\∀j<k,wM out l[j]!.val.n=true->(mnI out l k).2<=l[j]!.val.n
 |0,h=>by cases h
 |k+1,h=>by
  have e:mnI out l (k+1)=if(wM out l[k]!.val.n&&(!(mnI out l k).1||decide (l[k]!.val.n<(mnI out l k).2)))=true then(true,l[k]!.val.n)else mnI out l k:=rfl
  by_cases q:(wM out l[k]!.val.n&&(!(mnI out l k).1||decide (l[k]!.val.n<(mnI out l k).2)))=true
  ·rw[zp q]at e
   rw[e];rw[zba,Bool.or_eq_true,Bool.not_eq_true',zde]at q;refine⟨q.1,⟨k,by omega,rfl⟩,λj hj ho=>?_⟩;rcases zls.1 hj with r|r
   ·rcases q.2 with a|a
    ·rw[apC out l k a j r]at ho;cases ho
    ·cases hm:(mnI out l k).1 with
     |false=>rw[apC out l k hm j r]at ho;cases ho
     |true=>
      have:=(apG out l k hm).2.2 j r ho;show l[k]!.val.n<=_;omega
   ·subst r;exact Int.le_refl _
  ·rw[zn q]at e
   rw[e]at h⊢;obtain⟨b,⟨i,hi,c⟩,d⟩:=apG out l k h;refine⟨b,⟨i,by omega,c⟩,λj hj ho=>?_⟩;rcases zls.1 hj with r|r
   ·exact d j r ho
   ·subst r
    rw[ho,h]at q;simp only[Bool.true_and,Bool.not_true,Bool.false_or,zde]at q;omega
theorem aDf(c:Cl):(gC c).toArray.size=c.p.length:=by simp[gC]
theorem Found.go{c:Cl}{out:List Int}(h:Found (gC c).toArray c.p.length p out):
  ((mnI out c.p c.p.length).1=false->out.length=aeK (gC c).toArray)/\((mnI out c.p c.p.length).1=true->∃q,p<q/\Found (gC c).toArray c.p.length q (out++[(mnI out c.p c.p.length).2])):=by
 have hs:=asR c
 constructor
 ·intro hm
  refine h.done hs (aDf c) λi hi q=>?_;have⟨k,hk,e⟩:=(ahR c _).1 ⟨i,hi,rfl⟩;have:=apC out c.p _ hm k hk;rw[zep c.p k hk,<-e,<-znt,abE]at this;exact this q
 ·intro hm
  obtain⟨a,⟨j,hj,b⟩,d⟩:=apG out c.p _ hm;refine h.step hs (abE.1 a) ?_ λi hi q=>?_
  ·rw[b,zep c.p j hj]
   exact(ahR c _).2 ⟨j,hj,rfl⟩
  ·have⟨k,hk,e⟩:=(ahR c _).1 ⟨i,hi,rfl⟩
   rw[e]at q⊢;have:=d k hk (by rw[zep c.p k hk,abE];exact q);rw[zep c.p k hk]at this;exact this
end
section
attribute [local irreducible] Ev PWp
theorem aIS(a b:Vl):dF a b=((decide (a.k<b.k)||decide (a.k=b.k)&&decide (a.n<b.n))||((decide (a.k=b.k)&&decide (a.n=b.n))&&Op.bytesLess a.s.toList b.s.toList)):=by
 rw[zbi,alS]
 grind
theorem kK(a b:Vl):qf 390 [.agg a.z, .agg b.z] (vb (dF a b)):=by
 rw[aIS];refine pF func390 rfl λst=>?_
 repeat' first|apply wZ;rfl|constructor|show(_:PV)=_;(first|simp[*];done|grind);done|intro h;simp at h|intro h
theorem asM(c:Co):qf 246 [.agg c.z] (vi (bW c)):=by
 unfold bW;refine pF func246 rfl λst=>?_
 repeat' first|apply wZ;rfl|omega|constructor|show(_:PV)=_;simp[*];done;done|intro h
theorem atU{c:Cl}(h:bL c=0):c.val=⟨1,c.val.n,e0⟩:=by
 unfold bL at h;split at h
 ·cases h
 ·split at h
  ·cases h
  ·rw[Vl.ext_iff]
   grind
theorem awD(c:Cl):qf 330 [.agg c.z] (.agg (ahP c).z):=by
 have hc:=mU c;have hz:=@atU c;unfold ahP;by_cases h:bL c=0;rw[zp h,hz h];rw[h]at hc;clear hz;rotate_left;rw[zn h];clear hz;generalize bL c=R at*
 all_goals (refine pF func330 rfl λst=>?_;repeat'(first|apply wZ;rfl|omega|constructor|apply hc|apply wY;rfl|intro h))
end
end Go.Proofs.YtigmnfepdlbcpaaGreatDoor
namespace Go.Proofs.YtigmnfepdlbcpaaGreatDoor.T
open Go Go.Abs Tryz
attribute [local irreducible] Ev PWp
variable{l s t:List Pt}{c i j k:Nat}{p q:Pt}
theorem aF7(p:Pt)(d:Dt)(n:Int):aH p=⟨d,n⟩↔((aH p).d.dev=d.dev/\(aH p).d.seq=d.seq)/\(aH p).a=n:=by
 rw[Nm.ext_iff,Dt.ext_iff]
theorem lR(p:Pt):qf 259 [.agg p.z] (.agg (aK p).z):=by
 refine pF func259 rfl λst=>?_
 repeat' first|apply wZ;rfl|constructor
theorem aaM(d:Dt)(n:Int):qf 256 [.agg d.z,vi n] (vb (mayN ⟨d,n⟩)):=by
 refine pF func256 rfl λst=>?_
 repeat' first|apply wZ;rfl|constructor|show(_:PV)=_;simp only[mayN,withinB,Bool.and_assoc];done
theorem kK(a b:Sp):qf 258 [.agg a.z, .agg b.z] (vb (gD a b)):=by
 refine pF func258 rfl λst=>?_
 repeat' first|apply wZ;rfl|constructor|show(_:PV)=_;simp only[gD];grind;done|intro h
theorem mR(p:Pt):qf 387 [.agg p.z] (vb (bP p)):=by
 have hz:aJ p=Nm.zero↔(p.after.dev=0/\p.after.seq=0)/\p.afterAt=0:=by rw[Nm.ext_iff,Dt.ext_iff];rfl
 refine pF func387 rfl λst=>?_
 repeat' first|apply wZ;rfl|constructor|(first|apply aaM p.d p.a|apply aaM p.after p.afterAt)|show(_:PV)=_;(first|have e:bP p=false:=(by simp only[bP,withinB,e0];grind);rw[e];done|have e:bP p=(mayN (aH p)&&(mayN (aJ p)||decide (aJ p=Nm.zero))):=(by simp only[bP,withinB,e0];grind);rw[e];congr 2;rw[zbi];simp only[Bool.or_eq_true,zba,zde,hz];rfl);done|apply wY;rfl|intro h;simp at h
def atP(l:List Pt)(k:Nm):Int:=match l.findIdx? (λp=>decide (aH p=k))with|some j=>((j:Nat):Int)|none=> -1
theorem sY(l:List Pt)(d:Dt)(n:Int)(hl:l.length<1000000000000):qf 257 [.seq (l.map Pt.z), .agg d.z,vi n] (vi (atP l ⟨d,n⟩)):=by
 refine pF func257 rfl λst=>?_
 repeat' first|apply wZ;rfl|constructor
 refine aC (X:={x:Nat//x<=l.length/\∀j (h:j<x) (c:j<l.length),decide (aH l[j]=⟨d,n⟩)=false}) (λi=>(((((St.nil 31 st).pv 0 (.seq (l.map Pt.z))).pv 2 (vi n)).var 4 51 (d.z)).pv 7 (vi (i.1:Nat)))) (λi=>l.length-i.1) ⟨0,by omega,by omega⟩ ?_ λi=>?_;rotate_left;have⟨i,hi,a⟩:=i;dsimp only;have hd:=λh:i<l.length=>aF7 (l[i]'h) d n;by_cases b:i<l.length;have hd:aH l[i]=⟨d,n⟩↔(l[i].d.dev=d.dev/\l[i].d.seq=d.seq)/\l[i].a=n:=hd b;rotate_left
 all_goals (repeat' first|refine⟨⟨i+1,by omega,λj e c=>by rcases zls.1 e with q|q;exact a j q c;subst q;rw[zdf,hd];grind⟩,?_,?_⟩|apply wZ;rfl|apply KR.mk;kernel_rfl|omega|constructor|show(_:PV)=_;rw[atP,oV (by omega) a];done|show(_:PV)=_;rw[atP,nK b (zdt (hd.2 (by grind))) a];done|apply wI;rfl|apply gE;omega|simp<;>omega|intro h;simp at h)
def aGx(l:List Pt)(i:Nat)(h:i<l.length):Prop:=
 bP l[i]=true/\atP l (aH l[i])=i/\(∀k (hk:k<i),(l[k]'(by omega)).d=l[i].d->(l[k]'(by omega)).m=l[i].m)/\
  (l[i].after=Dt.zero\/∃u,∃hu:u<l.length,l.findIdx? (λp=>decide (aH p=aJ l[i]))=some u/\eJ l[u] l[i]=true)
theorem iC(hn:(l.map aH).Nodup)(h:i<l.length):atP l (aH l[i])=i:=by
 have:l.findIdx? (λp=>decide (aH p=aH l[i]))=some i:=nK h (by simp) λj hj a=>by
  have:=(List.pairwise_iff_getElem.1 hn) j i (by grind) (by grind) hj
  grind
 rw[atP,this]
theorem ahJ(h:bP p=true):p.after=Dt.zero↔aJ p=Nm.zero:=by
 have a:=by
  simp only[bP,zba,Bool.or_eq_true,zde]at h;exact h.2
 constructor
 ·intro e
  rcases a with a|a
  ·exact a
  ·simp only[mayN,withinB,zba,zde]at a
   have:=a.1.1.1;rw[show(aJ p).d=p.after from rfl,e]at this;have b:(1:Int)<=0:=this;omega
 ·intro e;exact congrArg Nm.d e
theorem aiL:Whole l↔∀i (h:i<l.length),aGx l i h:=by
 constructor
 ·intro a i h
  refine⟨a.formed _ (zgm h),iC a.nodup h,λk hk e=>a.times _ (zgm _) _ (zgm h) e,?_⟩;rcases a.up _ (zgm h)with e|⟨u,hu,e,ha⟩
  ·exact .inl ((ahJ (a.formed _ (zgm h))).2 e)
  ·right
   obtain⟨j,hj,rfl⟩:=zgo hu;refine⟨j,hj,?_,ha⟩;have:=iC a.nodup hj;rw[atP,e]at this;split at this
   ·rename_i j' d;rw[d];congr 1;omega
   ·omega
 ·intro H
  have g:(l.map aH).Nodup:=by
   rw[List.Nodup,List.pairwise_iff_getElem];intro i j hi hj c;simp only[zql]at hi hj;simp only[List.getElem_map];intro e;have b:=(H j hj).2.1;rw[atP,<-e]at b;split at b
   ·rename_i k hk
    have f:k=j:=by omega
    subst f;have:=(zfi.1 hk).2.2 i c;simp at this
   ·omega
  refine⟨⟨λp hp=>?_,g,λp hp q hq e=>?_⟩,λp hp=>?_⟩
  ·obtain⟨i,hi,rfl⟩:=zgo hp;exact(H i hi).1
  ·obtain⟨i,hi,rfl⟩:=zgo hp
   obtain⟨j,hj,rfl⟩:=zgo hq;rcases Nat.lt_trichotomy i j with h|h|h
   ·exact(H j hj).2.2.1 i h e
   ·subst h;rfl
   ·exact((H i hi).2.2.1 j h e.symm).symm
  ·obtain⟨i,hi,rfl⟩:=zgo hp
   rcases(H i hi).2.2.2 with e|⟨u,hu,b,m⟩
   ·exact .inl ((ahJ (H i hi).1).1 e)
   ·right
    have⟨o,n,_⟩:=zfi.1 b;exact⟨l[u],zgm hu,by simpa using n,m⟩
theorem aHd(h:i<l.length)(hn:¬aGx l i h):fK l=false:=by
 rw[<-znt,eR,aiL];grind
theorem uR(l:List Pt)(hl:l.length<1000000000000):qf 326 [.seq (l.map Pt.z)] (vb (fK l)):=by
 refine pF func326 rfl λst=>?_
 repeat' first|apply wZ;rfl|constructor
 refine aC (X:={x:Nat//x<=l.length/\∀j (h:j<x) (f:j<l.length),aGx l j f}) (λi=>(((St.nil 122 st).pv 0 (.seq (l.map Pt.z))).pv 3 (vi (i.1:Nat)))) (λi=>l.length-i.1) ⟨0,by omega,by omega⟩ ?_ λi=>?_;rotate_left;have⟨i,hi,g⟩:=i;dsimp only;by_cases a:i<l.length;have hn:=λh=>aHd a h;have hz:(l[i]'a).after=Dt.zero↔(l[i]'a).after.dev=0/\(l[i]'a).after.seq=0:=Dt.ext_iff _ _;have d:aGx l i a->∀j (h:j<i+1) (f:j<l.length),aGx l j f:=λho j o f=>by
  rcases zls.1 o with q|q
  ·exact g j q f
  ·subst q;exact ho
 have s:=sY l (l[i]'a).d (l[i]'a).a hl;have n:=sY l (l[i]'a).after (l[i]'a).afterAt hl
 repeat' first|apply wZ;rfl|apply KR.mk;kernel_rfl|constructor|(first|apply mR (l[i]'a)|apply s)|show(_:PV)=_;rw[hn λq=>by have o:=q.1;have f:atP l ⟨l[i].d,l[i].a⟩=i:=q.2.1;grind];done;done|apply wY;rfl|apply wI;rfl|apply gE;omega|simp<;>omega|intro h;simp at h
 have hf:bP (l[i]'a)=true/\atP l (aH (l[i]'a))=i:=h;refine aC (X:={k:Nat//k<=i/\∀m (hm:m<k) (hml:m<l.length),(l[m]'hml).d=(l[i]'a).d->(l[m]'hml).m=(l[i]'a).m}) (λy=>((((St.nil 122 st).pv 0 (.seq (l.map Pt.z))).pv 3 (vi (i:Nat))).pv 5 (vi (y.1:Nat)))) (λy=>i-y.1) ⟨0,by omega,by omega⟩ ?_ λy=>?_;rotate_left;have⟨k,hk,c⟩:=y;dsimp only;have r:k<l.length\/¬k<i:=by omega
 by_cases t:k<i;have r:k<l.length:=by omega
 have hd:=Dt.ext_iff (l[k]'r).d (l[i]'a).d;rotate_left;have ht:∀m (hm:m<i),(l[m]'(by omega)).d=(l[i]'a).d->(l[m]'(by omega)).m=(l[i]'a).m:=λm hm=>c m (by omega) (by omega);rcases hI:l.findIdx? (λp=>decide (aH p=aJ (l[i]'a)))with _|u
 have e:atP l ⟨(l[i]'a).after,(l[i]'a).afterAt⟩= -1:=by rw[atP,show(⟨(l[i]'a).after,(l[i]'a).afterAt⟩:Nm)=aJ (l[i]'a)from rfl,hI]
 rw[e]at n;rotate_left;have e:atP l ⟨(l[i]'a).after,(l[i]'a).afterAt⟩=(u:Int):=by rw[atP,show(⟨(l[i]'a).after,(l[i]'a).afterAt⟩:Nm)=aJ (l[i]'a)from rfl,hI]
 rw[e]at n;have⟨b,_,_⟩:=zfi.1 hI;have z:=Sp.ext_iff (aK (l[u]'b)) (aK (l[i]'a));have ha:eJ (l[u]'b) (l[i]'a)=(gD (aK (l[u]'b)) (aK (l[i]'a))||decide (aK (l[u]'b)=aK (l[i]'a))&&decide ((l[u]'b).a<(l[i]'a).a)):=rfl;rotate_left
 all_goals (repeat' first|((first|refine⟨⟨i+1,by omega,d ⟨hf.1,hf.2,ht, .inl (hz.2 (by grind))⟩⟩,?_,by simp only;omega⟩|refine⟨⟨i+1,by omega,d ⟨hf.1,hf.2,ht, .inr ⟨u,b,hI,by rw[ha];grind⟩⟩⟩,?_,by simp only;omega⟩);focus((repeat' first|constructor);done))|refine⟨⟨k+1,by omega,λm o f=>by rcases zls.1 o with q|q;exact c m q f;subst q;grind⟩,?_,?_⟩|apply wZ;rfl|apply KR.mk;kernel_rfl|omega|constructor|show(_:PV)=_;rw[(eR l).2 (aiL.2 λj h=>g j (by omega) h)];done|(first|apply n|apply lR (l[u]'b)|apply lR (l[i]'a)|apply kK (aK (l[u]'b)) (aK (l[i]'a)))|show(_:PV)=_;rw[hn λq=>by rcases q.2.2.2 with q|⟨A,v,q,w⟩;rw[hz]at q;grind;(rw[hI]at q;injection q with q;subst q;rw[ha]at w;grind)];done;done|show(_:PV)=_;rw[hn λq=>by rcases q.2.2.2 with q|⟨u,hu,q,_⟩;rw[hz]at q;grind;rw[hI]at q;cases q];done;done|apply wY;rfl|show(_:PV)=_;rw[hn λq=>by have o:=q.2.2.1 k t;grind];done;done|apply wI;rfl|apply gE;omega|simp<;>omega|intro h;simp at h)
theorem Anc.pre(h:Anc l p s):∀(c:Nat)(hc:c<s.length),Anc l s[c] (s.take (c+1)):=by
 induction h with
 |root hp h0=>
  intro c hc;have:c=0:=by simpa using hc
  subst this;exact .root hp h0
 |@step p u r hp hu e h0 h ih=>
  intro c hc;by_cases a:c<r.length
  ·have:=ih c a
   rw[List.getElem_append_left a,List.take_append_of_le_length (by omega)];exact this
  ·have:c=r.length:=by simp at hc;omega
   subst this;rw[ztl (by simp)];simp only[List.getElem_append_right (znr _),Nat.sub_self,List.getElem_singleton];exact .step hp hu e h0 h
theorem Anc.par(h:Anc l p s):∀(c:Nat)(hc:c<s.length),(c=0->aJ s[c]=Nm.zero)/\∀(h0:0<c),aJ s[c]=aH (s[c-1]'(by omega))/\aJ s[c]≠Nm.zero:=by
 intro c hc;have f:=h.pre c hc;generalize g:s.take (c+1)=t at f;have a:t.length=c+1:=by rw[<-g,zlt];omega
 have hq:s[c]=s[c]:=rfl;cases f with
 |root _ h0=>exact⟨λ_=>h0,λd=>by simp at a;omega⟩
 |@step _ u r hp hu e h0 h'=>
  simp only[zla,List.length_singleton]at a;refine⟨λd=>?_,λd=>⟨?_,h0⟩⟩
  ·subst d
   have⟨q,hq⟩:=h'.last;rw[hq]at a;simp at a
  ·rw[<-e]
   have⟨q,hq⟩:=h'.last;have i:r[c-1]?=some u:=by rw[hq,List.getElem?_append_right (by rw[hq]at a;simp at a;omega)];rw[hq]at a;simp at a;simp[show c-1-q.length=0 by omega]
   have b:(s.take (c+1))[c-1]?=some u:=by rw[g,List.getElem?_append_left (by omega)];exact i
   rw[List.getElem?_take,zp (by omega),zgg (by omega)]at b;injection b with b
   rw[b]
theorem aGg :∀{s t:List Pt}(c:Nat)(hs:c<s.length)(ht:c<t.length),s.take c=t.take c->s[c]≠t[c]->(gT s t↔fF s[c] t[c])
 |[],_,_,hs,_,_,_=>by simp at hs
 |_::_,[],_,_,ht,_,_=>by simp at ht
 |a::s,b::t,0,_,_,_,h=>by
  simp only[List.getElem_cons_zero]at h⊢
  simp only[gT];constructor
  ·rintro(⟨e,_⟩|e)
   ·exact absurd e h
   ·exact e
  ·exact .inr
 |a::s,b::t,c+1,hs,ht,he,h=>by
  simp only[List.take_succ_cons,List.cons.injEq]at he
  simp only[List.getElem_cons_succ]at h⊢
  have:=aGg c (by simpa using hs) (by simpa using ht) he.2 h
  simp only[gT]
  rw[<-this,he.1]
  constructor
  ·rintro(⟨_,k⟩|k)
   ·exact k
   ·exact absurd k (abC b)
  ·exactλk=> .inl ⟨rfl,k⟩
theorem aBw :∀{s t:List Pt},(∃m,s.take m=t.take m/\(m=s.length/\m<=t.length\/m=t.length/\m<=s.length))->(gT s t↔s.length<t.length)
 |[],[],_=>by simp[gT]
 |[],b::t,_=>by simp[gT]
 |a::s,[],_=>by simp[gT]
 |a::s,b::t,⟨m,he,hm⟩=>by
  cases m with
  |zero=>simp at hm
  |succ m=>
   simp only[List.take_succ_cons,List.cons.injEq]at he;simp only[zlc]at hm⊢;have:=aBw (s:=s) (t:=t) ⟨m,he.2,by omega⟩;simp only[gT,he.1];constructor
   ·rintro(⟨_,k⟩|k)
    ·have:=this.1 k;omega
    ·exact absurd k (abC b)
   ·intro k;exact .inl ⟨trivial,this.2 (by omega)⟩
theorem atY(hn:(l.map aH).Nodup)(hi:i<l.length)(hj:j<l.length)(e:l[i]=l[j]):i=j:=by
 have a:=iC hn hi;have b:=iC hn hj
 grind
theorem Anc.len(a:Whole l)(h:Anc l p s):s.length<=(l.filter λq=>eJ q p).length+1:=by
 induction h with
 |root=>simp
 |@step p u r hp hu e h0 h ih=>
  rw[zla,List.length_singleton];have⟨v,hv,b,ha⟩:=(a.up p hp).resolve_left h0;have:=a.named u hu v hv (by rw[e,b]);subst this;have:=vB (f:=λq=>eJ q u) (g:=λq=>eJ q p) hu ha (by rw[<-znt,kR];omega) λq _ hq=>by
   rw[kR]at ha hq⊢;omega
  omega
theorem Anc.le(a:Whole l)(h:Anc l p s):s.length<=l.length+1:=by
 have:=h.len a
 grind
theorem adX(f:Whole l)(hl:l.length<1000000000000)(hi:i<l.length)(hs:Anc l (l[i]'hi) s):qf 388 [.seq (l.map Pt.z),vi (i:Nat)] (vi ((s.length:Int)-1)):=by
 have v:=hs.le f;refine pF func388 rfl λst=>?_
 repeat' first|apply wZ;rfl|constructor
 refine aC (X:={x:Nat×List Pt×Nat//(∃h:x.1<l.length,Anc l l[x.1] x.2.1)/\x.2.1.length+x.2.2=s.length}) (λi=>((((St.nil 28 st).pv 0 (.seq (l.map Pt.z))).pv 1 (vi (i.1.1:Nat))).pv 5 (vi (i.1.2.2:Nat)))) (λi=>s.length-i.1.2.2) ⟨(i,s,0),⟨hi,hs⟩,by simp⟩ ?_ λi=>?_
 ·repeat' first|constructor
 obtain⟨⟨j,t,n⟩,⟨hj,d⟩,a⟩:=i;simp only at hj d a;dsimp only;have hz:(l[j]'hj).after=Dt.zero↔(l[j]'hj).after.dev=0/\(l[j]'hj).after.seq=0:=Dt.ext_iff _ _;have m:=ahJ (f.formed _ (zgm hj));have c:=sY l (l[j]'hj).after (l[j]'hj).afterAt hl;generalize hq:l[j]'hj=q at d;cases d with
 |root hp h0=>
  have⟨w,y⟩:=hz.1 (m.2 (by rw[hq];exact h0));simp only[List.length_singleton]at a;have b:(n:Int)=(s.length:Int)-1:=by omega
  (repeat' first|apply wZ;rfl|constructor|show(_:PV)=_;rw[b];done|apply wI;rfl|apply gE;omega|intro h;simp at h;omega|intro h;simp at h)
 |@step _ u r hp hu e h0 h=>
  obtain⟨k,hk,rfl⟩:=zgo hu;have g:=iC f.nodup hk;have p:(l[j]'hj).after.dev≠0\/(l[j]'hj).after.seq≠0:=by
   have:¬(l[j]'hj).after=Dt.zero:=by rw[m,hq];exact h0
   rw[hz]at this;omega
  rw[show(⟨(l[j]'hj).after,(l[j]'hj).afterAt⟩:Nm)=aJ (l[j]'hj)from rfl,hq,<-e,g,<-hq]at c;simp only[zla,List.length_singleton]at a;have o:=h
  repeat' first|refine⟨⟨(k,r,n+1),⟨hk,o⟩,by simp only;omega⟩,?_,?_⟩|apply wZ;rfl|apply KR.mk;kernel_rfl|omega|constructor|apply c|apply wY;rfl|apply wI;rfl|apply gE;omega|simp<;>omega|intro h;simp at h;omega|intro h;simp at h
theorem aH8(g:Whole l)(hl:l.length<1000000000000)(hi:i<l.length)(hs:Anc l (l[i]'hi) s)(m:Nat)(hm:m<s.length)(j:Nat)(hj:j<l.length)(e:s[s.length-1-m]'(by omega)=l[j]):qf 389 [.seq (l.map Pt.z),vi (i:Nat),vi (m:Nat)] (vi (j:Nat)):=by
 have u:=hs.le g;refine pF func389 rfl λst=>?_
 repeat' first|apply wZ;rfl|constructor
 refine aC (X:={x:Nat×Nat//(∃h:x.1<l.length,l[x.1]=s[s.length-1-x.2]'(by omega))/\x.2<=m}) (λi=>(((((St.nil 26 st).pv 0 (.seq (l.map Pt.z))).pv 1 (vi (i.1.1:Nat))).pv 2 (vi (m:Nat))).pv 7 (vi (i.1.2:Nat)))) (λi=>m-i.1.2) ⟨(i,0),⟨hi,by have⟨r,t⟩:=hs.last;simp[t]⟩,by simp⟩ ?_ λi=>?_;rotate_left;obtain⟨⟨k,n⟩,⟨hk,f⟩,hn⟩:=i;simp only at hk f hn;dsimp only;have b:=sY l (l[k]'hk).after (l[k]'hk).afterAt hl;by_cases q:n<m;have⟨p,v⟩:=(hs.par (s.length-1-n) (by omega)).2 (by omega);have d:=hs.all _ (zgm (show s.length-1-n-1<s.length by omega));have⟨k2,c,a⟩:=zgo d;have o:=iC g.nodup c;rw[show(⟨(l[k]'hk).after,(l[k]'hk).afterAt⟩:Nm)=aJ (l[k]'hk)from rfl,f,p,<-a,o]at b;rw[<-f]at b;rotate_left;have:n=m:=by omega
 subst this;obtain rfl:k=j:=atY g.nodup hk hj (by rw[f,e])
 all_goals (repeat' first|refine⟨⟨(k2,n+1),⟨c,by simp only[a];congr 1⟩,by simp only;omega⟩,?_,?_⟩|apply wZ;rfl|apply KR.mk;kernel_rfl|omega|constructor|apply b|apply wY;rfl|apply wI;rfl|apply gE;omega|simp<;>omega|intro h;simp at h)
theorem aBn(a:Whole l)(hl:l.length<1000000000000)(hi:i<l.length)(hs:Anc l (l[i]'hi) s)(m:Nat)(hm:m<s.length)(j:Nat)(hj:j<l.length)(e:s[s.length-1-m]'(by omega)=l[j]){x:Int}(hx:x=m):qf 389 [.seq (l.map Pt.z),vi (i:Nat),vi x] (vi (j:Nat)):=by
 subst hx;exact aH8 a hl _ hs m hm j _ e
theorem Anc.eqTake(hn:named l)(hs:Anc l p s)(ht:Anc l q t)(a:c<s.length)(b:c<t.length)(e:s[c]=t[c]):s.take (c+1)=t.take (c+1):=
 (hs.pre c _).fn hn (e▸ht.pre c _)
theorem aEa(e:Whole l)(hs:Anc l p s)(ht:Anc l q t)(a:c<s.length)(b:c<t.length)(d:s[c]≠t[c])(hp:aJ s[c]=aJ t[c]):gT s t↔fF s[c] t[c]:=by
 refine aGg c a b ?_ d;cases c with
 |zero=>simp
 |succ c=>
  have⟨f,g⟩:=(hs.par (c+1) a).2 (by omega);have⟨b1,b2⟩:=(ht.par (c+1) b).2 (by omega);have:s[c]=t[c]:=e.named _ (hs.all _ (zgm _)) _ (ht.all _ (zgm _)) (by
   have a:aJ s[c+1]=aH s[c]:=f
   have b:aJ t[c+1]=aH t[c]:=b1
   rw[<-a,<-b,hp])
  exact hs.eqTake e.named ht (by omega) (by omega) this
theorem aEp(hs:Anc l p s)(ht:Anc l q t)(a:c<s.length)(b:c<t.length)(hp:aJ s[c]≠aJ t[c]):0<c/\∀h:0<c,s[c-1]'(by omega)≠t[c-1]'(by omega):=by
 have h0:0<c:=by
  cases c with
  |zero=>exact absurd ((hs.par 0 _).1 rfl|>.trans ((ht.par 0 _).1 rfl).symm) hp
  |succ c=>omega
 refine⟨h0,λ_ e=>hp ?_⟩;rw[((hs.par c _).2 h0).1,((ht.par c _).2 h0).1,e]
theorem aKI(a b:Pt):decide (fF a b)=if aK a=aK b then decide (a.a<b.a)else gD (aK b) (aK a):=by
 split
 ·rename_i h;rw[decide_eq_decide];unfold fF;rw[h,alM];simp
 ·rename_i h;unfold fF;simp[h]
theorem aqJ(j:Whole l)(hl:l.length<1000000000000)(hi:i<l.length)(hk:k<l.length)(hs:Anc l (l[i]'hi) s)(ht:Anc l (l[k]'hk) t)(b:Bool)(hb:b=true↔gT s t):qf 328 [.seq (l.map Pt.z),vi (i:Nat),vi (k:Nat)] (vb b):=by
 have K:=hs.le j;have M:=ht.le j;have J:0<s.length:=by have⟨r,F⟩:=hs.last;rw[F];simp
 have L:0<t.length:=by have⟨r,F⟩:=ht.last;rw[F];simp
 obtain⟨c,hc⟩:∃c,c=min (s.length-1) (t.length-1):=⟨_,rfl⟩;have f:c<s.length:=by omega
 have g:c<t.length:=by omega
 have⟨x,hx,a⟩:=zgo (hs.all _ (zgm f));have⟨y,hy,d⟩:=zgo (ht.all _ (zgm g));have n:=fun{z:Int}(hz:z=((s.length-1-c:Nat):Int))=>aBn j hl hi hs (s.length-1-c) (by omega) x hx (by rw[a];congr 1;omega) hz;have o:=fun{z:Int}(hz:z=((t.length-1-c:Nat):Int))=>aBn j hl hk ht (t.length-1-c) (by omega) y hy (by rw[d];congr 1;omega) hz;have p:x=y->(b=decide (((s.length:Int)-1)<((t.length:Int)-1))):=λe=>by
  subst e
  have I:s[c]=t[c]:=by rw[<-a,<-d]
  have:=aBw (s:=s) (t:=t) ⟨c+1,hs.eqTake j.named ht f g I,by omega⟩
  rw[zbi,hb,this,zde];omega
 refine pF func328 rfl λst=>?_
 repeat' first|apply wZ;rfl|omega|constructor|((first|apply adX j hl hi hs|apply adX j hl hk ht|apply n|apply o)<;>(omega))|show(_:PV)=_;rw[p (by omega)];done|apply wY;rfl|intro h
 refine aC (X:={v:Nat×Nat×Nat//∃(N:v.1<s.length) (O:v.1<t.length) (hx:v.2.1<l.length) (hy:v.2.2<l.length),l[v.2.1]=s[v.1]/\l[v.2.2]=t[v.1]/\s[v.1]≠t[v.1]}) (λv=>((((St.nil 98 st).pv 0 (.seq (l.map Pt.z))).pv 10 (vi (v.1.2.1:Nat))).pv 11 (vi (v.1.2.2:Nat)))) (λv=>v.1.1) ⟨(c,x,y),f,g,hx,hy,a,d,λe=>(by exact h (by have:=atY j.nodup hx hy (by rw[a,d,e]);omega))⟩ ?_ λv=>?_;rotate_left;clear n o p a d hx hy;obtain⟨⟨c,x,y⟩,f,g,hx,hy,a,d,A⟩:=v;simp only at f g hx hy a d A;dsimp only;have B:aJ (l[x]'hx)=aJ (l[y]'hy)↔((l[x]'hx).after.dev=(l[y]'hy).after.dev/\(l[x]'hx).after.seq=(l[y]'hy).after.seq)/\(l[x]'hx).afterAt=(l[y]'hy).afterAt:=by
  rw[Nm.ext_iff,Dt.ext_iff];rfl
 by_cases hp:aJ (l[x]'hx)=aJ (l[y]'hy);obtain⟨⟨Q,R⟩,S⟩:=B.1 hp;have P:=Sp.ext_iff (aK (l[x]'hx)) (aK (l[y]'hy));have w:b=if aK (l[x]'hx)=aK (l[y]'hy)then decide ((l[x]'hx).a<(l[y]'hy).a)else gD (aK (l[y]'hy)) (aK (l[x]'hx)):=by
  rw[<-aKI,zbi,hb,zde,aEa j hs ht f g A (by rw[<-a,<-d];exact hp),a,d]
 rotate_left;have hn:¬(((l[x]'hx).after.dev=(l[y]'hy).after.dev/\(l[x]'hx).after.seq=(l[y]'hy).after.seq)/\(l[x]'hx).afterAt=(l[y]'hy).afterAt):=λh=>hp (B.2 h);have⟨E,m⟩:=aEp hs ht f g (by rw[<-a,<-d];exact hp);have m:=m E;have⟨G,C,q⟩:=zgo (hs.all _ (zgm (show c-1<s.length by omega)));have⟨H,D,u⟩:=zgo (ht.all _ (zgm (show c-1<t.length by omega)));have ls:(s.take (c+1)).length=c+1:=by rw[zlt];omega
 have lt:(t.take (c+1)).length=c+1:=by rw[zlt];omega
 have n:=aBn j hl hx (s:=s.take (c+1)) (by rw[a];exact hs.pre c f) 1 (by omega) G C (by rw[q,List.getElem_take];congr 1;omega) (x:=1) rfl;have o:=aBn j hl hy (s:=t.take (c+1)) (by rw[d];exact ht.pre c g) 1 (by omega) H D (by rw[u,List.getElem_take];congr 1;omega) (x:=1) rfl
 all_goals (repeat' first|refine⟨⟨(c-1,G,H),by simp only;omega,by simp only;omega,C,D,q,u,m⟩,?_,?_⟩|apply wZ;rfl|apply KR.mk;kernel_rfl|constructor|(first|apply n|apply o)|(first|apply lR (l[x]'hx)|apply lR (l[y]'hy)|apply kK (aK (l[y]'hy)) (aK (l[x]'hx)))|show(_:PV)=_;(first|rw[w,zp (by grind)];done|rw[w,zn (by grind)]);done|apply wY;rfl|apply wI;rfl|apply gE;omega|simp<;>omega|intro h;simp at h;omega|intro h;simp at h)
end Go.Proofs.YtigmnfepdlbcpaaGreatDoor.T
