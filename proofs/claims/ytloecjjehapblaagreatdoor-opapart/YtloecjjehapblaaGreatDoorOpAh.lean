import Derived.Test.YtloecjjehapblaaGreatDoorOpAf
import Derived.Test.YtloecjjehapblaaGreatDoorOpAg
import Derived.Test.YtloecjjehapblaaGreatDoorOpAb
import Derived.Test.YtloecjjehapblaaGreatDoorAbsE
set_option linter.unusedSimpArgs false
set_option linter.unusedVariables false
namespace Go.Proofs.YtloecjjehapblaaGreatDoor
open Go Go.Abs
section
set_option maxRecDepth 10000
set_option maxHeartbeats 4000000
theorem atO {α:Type} {r:α->α->Prop} (tr:∀{a b c},r a b->r b c->r a c) (irr:∀{a},¬r a a):∀{l m:List α},l.Pairwise r->m.Pairwise r->(∀x,x∈l↔x∈m)->l=m
 |[],[],_,_,_=>rfl
 |[],b::m,_,_,h=>absurd ((h b).2 (by simp)) (by simp)
 |a::l,[],_,_,h=>absurd ((h a).1 (by simp)) (by simp)
 |a::l,b::m,h1,h2,h=>by
  have h1':=List.pairwise_cons.1 h1
  have h2':=List.pairwise_cons.1 h2
  have e:a=b:=by
   rcases zmc.1 ((h a).1 (by simp)) with q|q
   ·exact q
   rcases zmc.1 ((h b).2 (by simp)) with w|w
   ·exact w.symm
   exact absurd (tr (h2'.1 a q) (h1'.1 b w)) irr
  subst e
  refine congrArg (a:: ·) (atO (r:=r) tr irr h1'.2 h2'.2 λx=> ?_)
  constructor
  ·intro q
   rcases zmc.1 ((h x).1 (List.mem_cons_of_mem _ q)) with w|w
   ·subst w;exact absurd (h1'.1 x q) irr
   ·exact w
  ·intro q
   rcases zmc.1 ((h x).2 (List.mem_cons_of_mem _ q)) with w|w
   ·subst w;exact absurd (h2'.1 x q) irr
   ·exact w
def KSort (L:List Ln):Prop:=(L.map (·.key)).Pairwise (· < ·)
theorem KSort.at {L:List Ln} (h:KSort L) {i j:Nat} (hij:i<j) (hj:j<L.length):(L[i]'(by omega)).key<L[j].key:=by
 have:=List.pairwise_iff_getElem.1 h i j (by simp;omega) (by simpa using hj) hij
 simpa using this
theorem KSort.inj {L:List Ln} (h:KSort L) {i j:Nat} (hi:i<L.length) (hj:j<L.length) (e:L[i].key=L[j].key):i=j:=by
 rcases Nat.lt_trichotomy i j with q|q|q
 ·have:=h.at q hj;omega
 ·exact q
 ·have:=h.at q hi;omega
theorem KSort.eq {L:List Ln} (h:KSort L) {x y:Ln} (hx:x∈L) (hy:y∈L) (e:x.key=y.key):x=y:=by
 obtain ⟨i,hi,rfl⟩:=zgo hx
 obtain ⟨j,hj,rfl⟩:=zgo hy
 have:=h.inj hi hj e
 subst this;rfl
theorem nH {L:List Ln} (h:KSort L) {k:Int} {x:Ln}:cL L k=some x↔x∈L/\x.key=k:=by
 unfold cL
 constructor
 ·intro q
  exact ⟨List.mem_of_find?_eq_some q,by simpa using List.find?_some q⟩
 ·rintro ⟨hx,rfl⟩
  cases q:L.find? λy=>decide (y.key=x.key) with
  |none=>exact absurd (List.find?_eq_none.1 q x hx) (by simp)
  |some y=>rw [h.eq (List.mem_of_find?_eq_some q) hx (by simpa using List.find?_some q)]
theorem aEH {L M:List Ln} (hL:KSort L) (hM:KSort M) {k:Int} (h:∀x:Ln,x.key=k->(x∈L↔x∈M)):cL L k=cL M k:=by
 cases q:cL L k with
 |some x=>obtain ⟨q1,q2⟩:=(nH hL).1 q;exact ((nH hM).2 ⟨(h x q2).1 q1,q2⟩).symm
 |none=>
  cases w:cL M k with
  |none=>rfl
  |some x=>
   obtain ⟨w1,w2⟩:=(nH hM).1 w
   rw [(nH hL).2 ⟨(h x w2).2 w1,w2⟩] at q;cases q
theorem aGd {L M:List Ln} (hL:KSort L) (hM:KSort M) (h:∀x,x∈L↔x∈M):L=M:=by
 refine atO (r:=λa b:Ln=>a.key<b.key) (λh1 h2=>Int.lt_trans h1 h2) (λh=>Int.lt_irrefl _ h) ?_ ?_ h
 ·exact List.pairwise_map.1 hL
 ·exact List.pairwise_map.1 hM
theorem eC {L:List Ln} (h:KSort L) (a x:Ln):x∈jL L a↔x=a\/(x∈L/\x.key≠a.key):=by
 unfold jL
 rcases zF L a.key with ⟨j,hj,e,_,hk,_⟩|⟨j,hj,e,_,hk,_,_⟩
 ·rw [e,zp rfl,Int.toNat_natCast]
  constructor
  ·intro hx
   obtain ⟨q,hq,rfl⟩:=zgo hx
   rw [List.length_set] at hq
   rw [List.getElem_set]
   split
   ·exact .inl rfl
   ·rename_i hne
    exact .inr ⟨zgm hq,λe2=>hne (h.inj hj hq (hk.trans e2.symm))⟩
  ·rintro (rfl|⟨hx,hne⟩)
   ·exact List.mem_iff_getElem.2 ⟨j,by simpa using hj,by simp⟩
   ·obtain ⟨q,hq,rfl⟩:=zgo hx
    have hqj:q≠j:=λe2=>hne (by subst e2;exact hk)
    exact List.mem_iff_getElem.2 ⟨q,by simpa using hq,by rw [List.getElem_set_ne (Ne.symm hqj)]⟩
 ·rw [e,zn (by simp),Int.toNat_natCast]
  unfold dZ
  have e2:=List.take_append_drop j L
  have:x∈L↔x∈L.take j\/x∈L.drop j:=by rw [<-zma,e2]
  simp only [zma,zms]
  constructor
  ·rintro ((q|q)|q)
   ·exact .inr ⟨this.2 (.inl q),hk x (this.2 (.inl q))⟩
   ·exact .inl q
   ·exact .inr ⟨this.2 (.inr q),hk x (this.2 (.inr q))⟩
  ·rintro (q|⟨q,_⟩)
   ·exact .inl (.inr q)
   ·rcases this.1 q with q|q
    ·exact .inl (.inl q)
    ·exact .inr q
theorem KSort.put {L:List Ln} (h:KSort L) (a:Ln):KSort (jL L a):=by
 unfold jL
 rcases zF L a.key with ⟨j,hj,e,_,hk,_⟩|⟨j,hj,e,_,hk,hlo,hhi⟩
 ·rw [e,zp rfl,Int.toNat_natCast]
  unfold KSort
  rw [List.map_set,<-hk]
  have:(L.map (·.key)).set j L[j].key=L.map (·.key):=by
   have hj2:j<(L.map (·.key)).length:=by simpa using hj
   have:=List.set_getElem_self hj2
   simpa using this
  rw [this];exact h
 ·rw [e,zn (by simp),Int.toNat_natCast]
  unfold KSort dZ
  have hp:=h
  unfold KSort at hp
  rw [<-List.take_append_drop j L,List.map_append,List.pairwise_append] at hp
  rw [List.map_append,List.map_append,List.pairwise_append,List.pairwise_append]
  refine ⟨⟨hp.1,List.pairwise_singleton ..,λx hx y hy=> ?_⟩,hp.2.1,λx hx y hy=> ?_⟩
  ·simp only [zmp,List.map_nil,zms] at hy
   subst hy
   obtain ⟨z,hz,rfl⟩:=List.mem_map.1 hx
   obtain ⟨q,hq,rfl⟩:=zgo hz
   rw [zlt] at hq
   rw [List.getElem_take]
   have h1:=hlo q (by omega) (by omega)
   have h2:=hk _ (zgm (show q<L.length by omega))
   omega
  ·have hyk:a.key<y:=by
    obtain ⟨z,hz,rfl⟩:=List.mem_map.1 hy
    obtain ⟨q,hq,rfl⟩:=zgo hz
    rw [zld] at hq
    rw [List.getElem_drop]
    have h1:=hhi (by omega)
    rcases Nat.eq_zero_or_pos q with rfl|hq0
    ·exact h1
    ·have:=h.at (show j<j+q by omega) (by omega);omega
   rw [zma] at hx
   rcases hx with hx|hx
   ·exact hp.2.2 x hx y hy
   ·simp only [zmp,List.map_nil,zms] at hx
    subst hx;exact hyk
end
section
set_option maxRecDepth 10000
set_option maxHeartbeats 4000000
section
variable {L:List Ln}
theorem aC0 (h:KSort L) (a:Ln):cL (jL L a) a.key=some a:=(nH (h.put a)).2 ⟨(eC h a a).2 (.inl rfl),rfl⟩
theorem awO (h:KSort L) {a:Ln} {k:Int} (hk:k≠a.key):cL (jL L a) k=cL L k:=
 aEH (h.put a) h λx hx=>by
  rw [eC h]
  exact ⟨λq=>q.elim (λe=>absurd (e▸hx.symm) hk) λq=>q.1,λq=> .inr ⟨q,hx▸hk⟩⟩
theorem aBb (h:KSort L) {a c:Ln} (hne:a.key≠c.key):jL (jL L a) c=jL (jL L c) a:=
 aGd ((h.put a).put c) ((h.put c).put a) λx=>by rw [eC (h.put a),eC h,eC (h.put c),eC h];grind
end
theorem qL (b:Bs) (k k':Int) (ls:List Ln):okT (iO b k ls) k'=okT b k':=by unfold okT;rw [mH]
theorem vJ {b:Bs} {k:Int} (h:okT b k=true) (ls:List Ln):aN (iO b k ls) k=ls:=by
 unfold aN
 rw [qL,zp h]
 unfold iO
 rw [zp h]
 simp only [okT,zba,zde] at h
 rw [getElem!_pos _ k.toNat (by rw [List.length_set];omega),List.getElem_set_self]
theorem akW {b:Bs} {k:Int} (h:okT b k=false):aN b k=[]:=by unfold aN;rw [h];rfl
theorem aBf {b:Bs} {k:Int} (h:okT b k=false) (ls:List Ln):iO b k ls=b:=by unfold iO;rw [h];rfl
theorem set_set (b:Bs) (k:Int) (l m:List Ln):iO (iO b k l) k m=iO b k m:=by
 cases h:okT b k with
 |false=>rw [aBf h,aBf h]
 |true=>
  rw [show iO (iO b k l) k m=(iO b k l).set k.toNat ⟨m⟩ from zp (by rw [qL,h]),show iO b k l=b.set k.toNat ⟨l⟩ from zp h,show iO b k m=b.set k.toNat ⟨m⟩ from zp h,List.set_set]
variable {tx:Cl->Int}
theorem fV {t:Tb} {L:List Ln}:sM tx t L=true↔L.length<=2000/\(∀x∈L,jV tx t x=true)/\KSort L:=by
 unfold sM
 rw [zba,zde,pM]
 refine and_congr Iff.rfl ?_
 constructor
 ·intro h
  have h1:∀i (hi:i<L.length),jV tx t L[i]=true/\(i=0\/L[i-1]!.key<L[i].key):=λi hi=>by
   have:=h i hi
   unfold lnR at this
   rw [getElem!_pos L i hi] at this
   simpa using this
  refine ⟨λx hx=>by obtain ⟨i,hi,rfl⟩:=zgo hx;exact (h1 i hi).1, ?_⟩
  have key:∀j (hj:j<L.length) i (hi:i<j),(L[i]'(by omega)).key<L[j].key:=by
   intro j
   induction j with
   |zero=>intro _ i hi;exact absurd hi (Nat.not_lt_zero _)
   |succ j ih=>
    intro hj i hi
    have:=(h1 (j+1) hj).2.resolve_left (Nat.succ_ne_zero j)
    rw [show j+1-1=j from rfl,getElem!_pos L j (by omega)] at this
    rcases zls.1 hi with q|q
    ·exact Int.lt_trans (ih (by omega) i q) this
    ·subst q;exact this
  unfold KSort
  exact List.pairwise_iff_getElem.2 λi j hi hj hij=>by simpa using key j (by simpa using hj) i hij
 ·rintro ⟨h1,h2⟩ i hi
  unfold lnR
  rw [getElem!_pos L i hi,h1 _ (zgm hi),Bool.true_and]
  rcases Nat.eq_zero_or_pos i with rfl|h0
  ·simp
  ·rw [getElem!_pos L (i-1) (by omega)]
   have:=h2.at (show i-1<i by omega) hi
   simp [this]
theorem bX {s:Sc} {b:Bs}:cH tx s b=true↔(cU s=0/\b.length=s.length)/\∀k<b.length,sM tx s[k]! b[k]!.lines=true:=by
 unfold cH
 rw [zba,zde,pM]
 exact Iff.rfl
theorem iZ {s:Sc} {b:Bs} (h:cH tx s b=true) (k:Int):KSort (aN b k):=by
 cases hk:okT b k with
 |false=>rw [akW hk];simp [KSort]
 |true=>
  have e:aN b k=b[k.toNat]!.lines:=by unfold aN;rw [zp hk]
  simp only [okT,zba,zde] at hk
  rw [e]
  exact (fV.1 ((bX.1 h).2 k.toNat (by omega))).2.2
theorem acH {s:Sc} {b:Bs} (h:cH tx s b=true) {k:Int} (hk:okT b k=true):sM tx s[k.toNat]! (aN b k)=true:=by
 have e:aN b k=b[k.toNat]!.lines:=by unfold aN;rw [zp hk]
 simp only [okT,zba,zde] at hk
 rw [e]
 exact (bX.1 h).2 k.toNat (by omega)
theorem awV {s:Sc} {b:Bs} (h:cH tx s b=true) {k:Int} (hk:okT b k=true) (ls:List Ln):cH tx s (iO b k ls)=sM tx s[k.toNat]! ls:=by
 obtain ⟨h1,h2⟩:=bX.1 h
 have hk2:=hk
 simp only [okT,zba,zde] at hk2
 obtain ⟨q,rfl⟩:∃q:Nat,k=q:=⟨k.toNat,by omega⟩
 have hq:q<b.length:=by omega
 rw [Bool.eq_iff_iff,bX,mH,Int.toNat_natCast]
 constructor
 ·intro w
  have:=w.2 q hq
  rwa [getElem!_pos (iO b q ls) q (by rw [mH];exact hq),atJ hq rfl] at this
 ·intro w
  refine ⟨h1,λi hi=> ?_⟩
  rw [getElem!_pos (iO b q ls) i (by rw [mH];exact hi)]
  by_cases e:(i:Int)=q
  ·rw [atJ hi e,show i=q by omega];exact w
  ·rw [aDF hi e,<-getElem!_pos b i hi];exact h2 i hi
end
section
attribute [local irreducible] Ev PWp
set_option maxRecDepth 10000
set_option maxHeartbeats 4000000
theorem asG (o:Option Ln):aFI o= .tup [.agg (o.getD Ln.zero).cells,(PV.val (Value.bool (o.isSome)))]:=by cases o<;>rfl
def ScB (s:Sc):Prop:=∀t∈s,TbB t
theorem aGu (c:Cl) (h:c.parts.length<=1000):aDj T.rightP c:=⟨by omega,λ_=>T.right_spec c (by omega)⟩
theorem BsS.da {n:Nat} {b:Bs} (h:BsS n b) (hn:n<=1000):∀d∈b,aFV T.rightP d:=λd hd=>by
 obtain ⟨h1,h2⟩:=h.2 d hd
 refine ⟨by omega,λl hl=> ?_⟩
 obtain ⟨q1,q2,q3⟩:=h2 l hl
 exact ⟨⟨by omega,by omega⟩,λc hc=>aGu c (q3 c hc)⟩
theorem pY {n:Nat} {b:Bs} (h:BsS n b) (hn:n<=1000) {s:Sc} (hs:ScB s) (hl:s.length<=20):PF Tryz.prog 19 [.agg (scC s), .agg (bsC b)] (.val (.bool (cH T.rightP s b))):=
 aqG T.rightP s b (by omega) hs (by have:=h.1;omega) (h.da hn)
theorem jR {n:Nat} {b:Bs} (h:BsS n b) (hn:n<=1000) (k key:Int):PF Tryz.prog 24 [.agg (bsC b),(.val (.int .i64 k)),(.val (.int .i64 key))] (.tup [.agg ((cL (aN b k) key).getD Ln.zero).cells,(.val (.bool ((cL (aN b k) key).isSome)))]):=asG _▸alS b k key (h.l hn).2
theorem LnS.zero :LnS Ln.zero:=⟨by simp [Ln.zero],by simp [Ln.zero],λc hc=>by simp [Ln.zero] at hc⟩
theorem BsS.got {n:Nat} {b:Bs} (h:BsS n b) (k key:Int):LnS ((cL (aN b k) key).getD Ln.zero):=by
 cases q:cL (aN b k) key with
 |none=>exact LnS.zero
 |some x=>exact (h.lines k).2 x (List.mem_of_find?_eq_some q)
end
section
set_option maxRecDepth 10000
set_option maxHeartbeats 4000000
def eA {α:Type} (f:α->Int) (l:List α):Int:=(l.find? λx=>decide (f x≠0)).elim 0 f
theorem gA {α:Type} {f:α->Int} {l:List α}:eA f l=0↔∀x∈l,f x=0:=by
 unfold eA
 cases e:l.find? λx=>decide (f x≠0) with
 |none=>
  have:=List.find?_eq_none.1 e
  simp at this
  exact ⟨λ_=>this,λ_=>rfl⟩
 |some x=>
  have h1:=List.find?_some e
  have h2:=List.mem_of_find?_eq_some e
  simp at h1
  exact ⟨λh=>absurd h h1,λh=>absurd (h x h2) h1⟩
theorem afN {α:Type} (f:α->Int) (x:α) (l:List α):eA f (x::l)=if f x=0 then eA f l else f x:=by
 unfold eA
 rw [List.find?_cons]
 by_cases h:f x=0
 ·simp [h]
 ·simp [h]
theorem xU {α:Type} {f:α->Int}:∀{l:List α} {i:Nat} (h:i<l.length),(∀j (hj:j<i),f (l[j]'(by omega))=0)->f l[i]≠0->eA f l=f l[i]
 |x::l,0,_,_,h2=>by rw [afN];exact zn h2
 |x::l,i+1,h,h1,h2=>by
  rw [afN,zp (show f x=0 from h1 0 (by omega))]
  exact xU (l:=l) (Nat.lt_of_succ_lt_succ h) (λj hj=>h1 (j+1) (by omega)) h2
section
variable (sh:Cl->Vl) (ex:Tb->List Vl->Int)
def aFm (l:Ln):List Vl:=l.cells_.map sh
def fJ (b:Bs) (k:Int):List (List Vl):=(aN b k).map (aFm sh)
def dU (c:Co):Int:=if c.kind=0\/c.kind=1 then c.type_ else if c.kind=2\/c.kind=3 then 1 else if c.kind=4 then 2 else 0
def sI (c:Co) (v:Vl):Int:=if cP v=false then 1 else if v.kind=0/\(c.kind=0\/c.kind=1)/\c.null=false then 7 else if v.kind≠0/\v.kind≠dU c then 6 else 0
def eK (t:Tb) (r:List Vl):Int:=if t.cols.length=r.length then eA (λk=>sI t.cols[k]! r[k]!) (List.range r.length) else 1
def mO (u:Nat) (x y:List Vl):Bool:=(decide (x[u]!.kind=1)&&decide (y[u]!.kind=1))&&decide (x[u]!.n=y[u]!.n)
def lI (t:Tb) (rows:List (List Vl)):Bool:=t.unique.all λu=>decide (rows.Pairwise λx y=>mO u.toNat x y=false)
def xP (b:Bs) (t:Tb) (rows:List (List Vl)):Bool:=t.foreign.all λf=>rows.all λr=> !decide (r[f.col.toNat]!.kind=1)||(cL (aN b f.table) r[f.col.toNat]!.n).isSome
def auR (m:Su) (g:Int) (r:List Vl):Int:=if r[m.by_.toNat]!.kind=1/\r[m.by_.toNat]!.n=g/\r[m.col.toNat]!.kind=1 then r[m.col.toNat]!.n else 0
def uY (m:Su) (g:Int) (rows:List (List Vl)):Int:=(rows.map (auR m g)).sum
def azB (m:Su) (r:List Vl):Bool:=decide (r[m.col.toNat]!.kind=1)&&decide (r[m.col.toNat]!.n<0)
def zM (t:Tb) (rows:List (List Vl)):Bool:=t.sums.all λm=>rows.all λr=> !azB m r&&(!decide (r[m.by_.toNat]!.kind=1)||decide (uY m r[m.by_.toNat]!.n rows<=m.max))
def ckT (b:Bs) (t:Tb) (rows:List (List Vl)):Int:=
 if eA (eK t) rows≠0 then eA (eK t) rows else if lI t rows=false then 8 else if eA (ex t) rows≠0 then eA (ex t) rows else if xP b t rows=false then 10 else if zM t rows=false then 11 else 0
def ckW (s:Sc) (b:Bs):Int:=eA (λk:Nat=>ckT ex b s[k]! (fJ sh b k)) (List.range s.length)
structure GoodT (b:Bs) (t:Tb) (rows:List (List Vl)):Prop where
 typ:∀r∈rows,eK t r=0
 aDq:∀u∈t.unique,rows.Pairwise λx y=>mO u.toNat x y=false
 chk:∀r∈rows,ex t r=0
 frn:∀f∈t.foreign,∀r∈rows,r[f.col.toNat]!.kind=1->(cL (aN b f.table) r[f.col.toNat]!.n).isSome=true
 neg:∀m∈t.sums,∀r∈rows,azB m r=false
 max:∀m∈t.sums,∀r∈rows,r[m.by_.toNat]!.kind=1->uY m r[m.by_.toNat]!.n rows<=m.max
variable {sh} {ex}
end
end
section
set_option maxRecDepth 10000
set_option maxHeartbeats 4000000
structure FrOK (s:Sc) (t:Tb) (f:Fr):Prop where
 c1:1<=f.col
 c2:f.col<t.cols.length
 t1:0<=f.table
 t2:f.table<s.length
 act:f.act=0\/f.act=1\/f.act=2
 kind:t.cols[f.col.toNat]!.kind=0
 typ:t.cols[f.col.toNat]!.type_=1
theorem aaO {h b p a n z:Bool} (e:amZ h b p a n z=0):h=true/\b=false/\p=false/\a=false/\n=true/\z=false:=by
 unfold amZ at e
 cases h<;>cases b<;>cases p<;>cases a<;>cases n<;>cases z<;>simp at e⊢
theorem atQ {s:Sc} (h:cU s=0) {k:Nat} (hk:k<s.length) {i:Nat} (hi:i<s[k].foreign.length):apC s.length s[k] i=0:=by
 have:=fK h hk (lk5 s.length s[k]!) (by simp [lks])
 rw [getElem!_pos s k hk] at this
 exact nI this hi
theorem aBl {s:Sc} (h:cU s=0) {k:Nat} (hk:k<s.length) {f:Fr} (hf:f∈s[k].foreign):FrOK s s[k] f:=by
 obtain ⟨i,hi,rfl⟩:=zgo hf
 have e:=aaO (atQ h hk hi)
 rw [getElem!_pos s[k].foreign i hi] at e
 obtain ⟨e1,e2,_,e4,e5,_⟩:=e
 unfold oO at e1
 unfold lX kO at e5
 simp only [zba,zde,Bool.or_eq_false_iff,decide_eq_false_iff_not] at e1 e2 e4 e5
 exact ⟨by omega,e1.2,by omega,by omega,by omega,e5.1,e5.2⟩
theorem asE {s:Sc} (h:cU s=0) {k:Nat} (hk:k<s.length):∀(j i:Nat) (hj:j<s[k].foreign.length) (hij:i<j),s[k].foreign[i].col<s[k].foreign[j].col:=by
 intro j
 induction j with
 |zero=>intro i _ h;omega
 |succ j ih=>
  intro i hj hij
  have e:=aaO (atQ h hk hj)
  have e3:=e.2.2.1
  rw [show j+1-1=j from rfl,getElem!_pos s[k].foreign (j+1) hj,getElem!_pos s[k].foreign j (by omega)] at e3
  simp only [Nat.zero_lt_succ,decide_true,Bool.true_and,decide_eq_false_iff_not] at e3
  rcases zls.1 hij with q|q
  ·have:=ih i (by omega) q;omega
  ·subst q;omega
theorem aE9 {s:Sc} (h:cU s=0) {k:Nat} (hk:k<s.length) (i j:Nat) (hi:i<s[k].foreign.length) (hj:j<s[k].foreign.length) (e:s[k].foreign[i].col=s[k].foreign[j].col):i=j:=by
 rcases Nat.lt_trichotomy i j with q|q|q
 ·have:=asE h hk j i hj q;omega
 ·exact q
 ·have:=asE h hk i j hi q;omega
theorem ayR {s:Sc} (h:cU s=0):s.length<=16:=by
 unfold cU at h
 split at h
 ·cases h
 ·omega
theorem aqD {s:Sc} (h:cU s=0) {k:Nat} (hk:k<s.length):s[k].foreign.length<=16:=by
 have:=fK h hk (lk1 s[k]!) (by simp [lks])
 rw [getElem!_pos s k hk] at this
 unfold lk1 at this
 split at this
 ·cases this
 ·omega
variable {tx:Cl->Int}
structure LineOK (tx:Cl->Int) (t:Tb) (l:Ln):Prop where
 k1:0<=l.key
 k2:l.key<1073741824
 len:l.cells_.length=t.cols.length
 kind:∀j (h:j<l.cells_.length),l.cells_[j].kind=t.cols[j]!.kind
 cell:∀c∈l.cells_,jS tx c=true
 zero:l.cells_[0]!.val=⟨1,l.key,e0⟩
 dots:wJ l.by_=true
theorem xW {t:Tb} {l:Ln}:jV tx t l=true↔LineOK tx t l:=by
 unfold jV rI
 simp only [zba,zde,pM]
 constructor
 ·rintro ⟨⟨⟨h1,h2,h3⟩,h4⟩,h5,h6⟩
  have hc:∀j (h:j<l.cells_.length),l.cells_[j].kind=t.cols[j]!.kind/\jS tx l.cells_[j]=true:=λj hj=>by
   have:=h5 j hj
   unfold xG at this
   rw [getElem!_pos l.cells_ j hj,zba,zde] at this
   exact this
  exact ⟨h1,h2,h3,λj hj=>(hc j hj).1,λc hc'=>by obtain ⟨j,hj,rfl⟩:=zgo hc';exact (hc j hj).2,h4,h6⟩
 ·rintro ⟨h1,h2,h3,h4,h5,h6,h7⟩
  refine ⟨⟨⟨h1,h2,h3⟩,h6⟩,λj hj=> ?_,h7⟩
  unfold xG
  rw [getElem!_pos l.cells_ j hj,h4 j hj,decide_eq_true rfl,h5 _ (zgm hj)];rfl
theorem vT {s:Sc} {b:Bs} (h:cH tx s b=true) {k:Nat} (hk:k<b.length) {l:Ln} (hl:l∈b[k].lines):LineOK tx s[k]! l:=by
 have:=(bX.1 h).2 k hk
 rw [getElem!_pos b k hk] at this
 exact xW.1 ((fV.1 this).2.1 l hl)
end
section
set_option maxRecDepth 10000
set_option maxHeartbeats 4000000
section
variable {sh:Cl->Vl} {ex:Tb->List Vl->Int} {tx:Cl->Int}
theorem arL {t:Tb} {r:List Vl} (h:eK t r=0):r.length=t.cols.length:=by
 unfold eK at h
 split at h
 ·omega
 ·cases h
theorem GoodT.nil {b:Bs} {t:Tb}:GoodT ex b t []:=⟨λ_ h=>(by cases h),λ_ _=> .nil,λ_ h=>(by cases h),λ_ _ _ h=>(by cases h),λ_ _ _ h=>(by cases h),λ_ _ _ h=>(by cases h)⟩
end
end
section
set_option maxRecDepth 10000
set_option maxHeartbeats 4000000
section
variable {sh:Cl->Vl} {ex:Tb->List Vl->Int} {tx:Cl->Int}
end
end
section
set_option maxRecDepth 10000
set_option maxHeartbeats 4000000
section
variable {tx:Cl->Int} {sh:Cl->Vl}
structure SuOK (t:Tb) (m:Su):Prop where
 c1:1<=m.col
 c2:m.col<t.cols.length
 b1:1<=m.by_
 b2:m.by_<t.cols.length
 m0:0<=m.max
 m1:m.max<=1099511627776
 kc:t.cols[m.col.toNat]!.kind=0
 kb:t.cols[m.by_.toNat]!.kind=0
structure UnOK (t:Tb) (u:Int):Prop where
 c1:1<=u
 c2:u<t.cols.length
 kc:t.cols[u.toNat]!.kind=0
theorem anQ {h a n p:Bool} (e:amM h a n p=0):h=true/\a=false/\n=true:=by
 unfold amM at e
 cases h<;>cases a<;>cases n<;>cases p<;>simp at e⊢
theorem aqI {h p n:Bool} (e:alN h p n=0):h=true/\n=true:=by
 unfold alN at e
 cases h<;>cases n<;>cases p<;>simp at e⊢
theorem aFP {s:Sc} (h:cU s=0) {k:Nat} (hk:k<s.length) {m:Su} (hm:m∈s[k].sums):SuOK s[k] m:=by
 obtain ⟨i,hi,rfl⟩:=zgo hm
 have:=fK h hk (lk6 s[k]!) (by simp [lks])
 rw [getElem!_pos s k hk] at this
 have e:alC s[k] i=0:=nI this hi
 unfold alC at e
 rw [getElem!_pos s[k].sums i hi] at e
 obtain ⟨e1,e2,e3⟩:=anQ e
 unfold oO at e1
 unfold lX kO at e3
 simp only [zba,zde,Bool.or_eq_false_iff,decide_eq_false_iff_not] at e1 e2 e3
 exact ⟨e1.1.1,e1.1.2,e1.2.1,e1.2.2,by omega,by omega,e3.1.1,e3.2.1⟩
theorem aFK {s:Sc} (h:cU s=0) {k:Nat} (hk:k<s.length) {u:Int} (hu:u∈s[k].unique):UnOK s[k] u:=by
 obtain ⟨i,hi,rfl⟩:=zgo hu
 have:=fK h hk (lk4 s[k]!) (by simp [lks])
 rw [getElem!_pos s k hk] at this
 have e:ajD s[k] i=0:=nI this hi
 unfold ajD at e
 rw [getElem!_pos s[k].unique i hi] at e
 obtain ⟨e1,e2⟩:=aqI e
 unfold oO at e1
 unfold lX kO at e2
 simp only [zba,zde] at e1 e2
 exact ⟨e1.1,e1.2,e2.1⟩
theorem yH {b:Bs} {k:Nat} (hk:k<b.length):aN b k=b[k].lines:=by
 unfold aN okT
 rw [zp (by simp;omega),Int.toNat_natCast,getElem!_pos b k hk]
structure RwOK (t:Tb) (r:List Vl):Prop where
 len:r.length=t.cols.length
 num:∀j<t.cols.length,t.cols[j]!.kind=0->cP r[j]! =true
theorem apN (hsh:∀c:Cl,c.kind=0->sh c=c.val) {s:Sc} {b:Bs} (hg:cH tx s b=true) {k:Nat} (hk:k<s.length) {r:List Vl} (hr:r∈fJ sh b k):RwOK s[k] r:=by
 obtain ⟨⟨h1,h2⟩,_⟩:=bX.1 hg
 have hkb:k<b.length:=by omega
 obtain ⟨l,hl,rfl⟩:=List.mem_map.1 hr
 rw [yH hkb] at hl
 have hL:=vT hg hkb hl
 rw [getElem!_pos s k hk] at hL
 have hlen:=hL.len
 refine ⟨by unfold aFm;rw [zql];exact hlen,λj hj h0=> ?_⟩
 have hjc:j<l.cells_.length:=by omega
 have hc:=hL.cell _ (zgm hjc)
 have hkd:=hL.kind j hjc
 rw [h0] at hkd
 unfold aFm
 rw [getElem!_pos _ j (by rw [zql];exact hjc),List.getElem_map,hsh _ hkd]
 unfold jS at hc
 rw [zp hkd,zba] at hc
 exact hc.1
theorem aB9 {v:Vl} (h:cP v=true):(-1099511627776<=v.n/\v.n<=1099511627776)/\(v.kind≠1->v.n=0):=by
 unfold cP at h
 split at h
 ·simp only [zba,zde] at h;omega
 ·split at h
  ·simp only [zba,zde] at h;omega
  ·split at h
   ·simp only [zba,zde] at h;omega
   ·cases h
def agU (m:Su) (es:List (Int×Int)) (r:List Vl):List (Int×Int):=if r[m.by_.toNat]!.kind=1 then dC r[m.by_.toNat]!.n ((cC r[m.by_.toNat]!.n es).getD 0+r[m.col.toNat]!.n) es else es
def mQ (m:Su) (rows:List (List Vl)):List (Int×Int):=rows.foldl (agU m) []
theorem afT {V:Type} (k k':Int) (v:V):∀(l:List (Int×V)),cC k' (dC k v l)=if k'=k then some v else cC k' l
 |[]=>by simp only [dC,cC]
 |e::l=>by
  have ih:=afT k k' v l
  simp only [dC]
  split
  ·rename_i h;simp only [cC];split<;>simp_all
  ·rename_i h;simp only [cC,ih];split
   ·rename_i h2;rw [zn (λe=>h (by rw [<-e,h2]))]
   ·rfl
theorem aEl {V:Type} {k:Int} {v:V}:∀{l:List (Int×V)},(l.map (·.1)).Nodup->(k,v)∈l->cC k l=some v
 |e::l,hn,h=>by
  simp only [zmp,List.nodup_cons] at hn
  simp only [cC]
  rcases zmc.1 h with rfl|h
  ·rw [zp rfl]
  ·rw [zn (λq=>hn.1 (List.mem_map.2 ⟨_,h,q⟩))];exact aEl hn.2 h
theorem aBr {V:Type} {k:Int} {v:V}:∀{l:List (Int×V)},cC k l=some v->(k,v)∈l
 |[],h=>by simp [cC] at h
 |e::l,h=>by
  simp only [cC] at h
  split at h
  ·rename_i q;injection h with h;subst h;rw [q];exact List.mem_cons_self ..
  ·exact List.mem_cons_of_mem _ (aBr h)
theorem acO {V:Type} (k:Int) (v:V):∀(l:List (Int×V)),∀k',k'∈(dC k v l).map (·.1)->k'=k\/k'∈l.map (·.1)
 |[],k',h=>by simp [dC] at h;exact .inl h
 |e::l,k',h=>by
  simp only [dC] at h
  split at h
  ·rename_i q
   simp only [zmp,zmc] at h⊢
   rcases h with h|h
   ·exact .inl (h.trans (by first|rfl|exact q.symm))
   ·exact .inr (.inr h)
  ·simp only [zmp,zmc] at h⊢
   exact h.elim (λq=> .inr (.inl q)) λq=>(acO k v l k' q).elim .inl λq=> .inr (.inr q)
theorem asF {V:Type} (k:Int) (v:V):∀(l:List (Int×V)),(l.map (·.1)).Nodup->((dC k v l).map (·.1)).Nodup
 |[],_=>by simp [dC]
 |e::l,h=>by
  simp only [zmp,List.nodup_cons] at h
  simp only [dC]
  split
  ·rename_i q
   simp only [zmp,List.nodup_cons]
   exact ⟨by first|exact h.1|(rw [q];exact h.1),h.2⟩
  ·rename_i q
   simp only [zmp,List.nodup_cons]
   exact ⟨λx=>(acO k v l _ x).elim (λy=>q y.symm) h.1,asF k v l h.2⟩
theorem aA3 (m:Su):∀(rows:List (List Vl)) (es:List (Int×Int)),(es.map (·.1)).Nodup->((rows.foldl (agU m) es).map (·.1)).Nodup
 |[],_,h=>h
 |r::rows,es,h=>aA3 m rows _ (by
  unfold agU
  split
  ·exact asF _ _ _ h
  ·exact h)
theorem aiA (m:Su) (g:Int) (r:List Vl) (rows:List (List Vl)):uY m g (r::rows)=auR m g r+uY m g rows:=by unfold uY;rw [zmp,List.sum_cons]
def aAm (m:Su) (rows:List (List Vl)):Prop:=∀r∈rows,r[m.col.toNat]!.kind≠1->r[m.col.toNat]!.n=0
theorem agV {m:Su} (g:Int):∀{rows:List (List Vl)} (es:List (Int×Int)),aAm m rows->(cC g (rows.foldl (agU m) es)).getD 0=(cC g es).getD 0+uY m g rows
 |[],es,_=>by simp [uY]
 |r::rows,es,h=>by
  have ih:=agV g (rows:=rows) (agU m es r) λx hx=>h x (List.mem_cons_of_mem _ hx)
  have h0:=h r (List.mem_cons_self ..)
  rw [List.foldl_cons,ih,aiA]
  unfold agU auR
  by_cases hk:r[m.by_.toNat]!.kind=1
  ·rw [zp hk,afT]
   by_cases hg:r[m.by_.toNat]!.n=g
   ·rw [zp hg.symm,hg]
    by_cases hc:r[m.col.toNat]!.kind=1
    ·rw [zp ⟨hk,rfl,hc⟩];simp only [Option.getD_some];omega
    ·rw [zn λq=>hc q.2.2,h0 hc];simp only [Option.getD_some];omega
   ·rw [zn (λq=>hg q.symm),zn λq=>hg q.2.1];omega
  ·rw [zn hk,zn λq=>hk q.1];omega
theorem amL {m:Su} (g:Int):∀{rows:List (List Vl)} (es:List (Int×Int)),(cC g (rows.foldl (agU m) es)).isSome=true↔((cC g es).isSome=true\/∃r∈rows,r[m.by_.toNat]!.kind=1/\r[m.by_.toNat]!.n=g)
 |[],es=>by simp
 |r::rows,es=>by
  rw [List.foldl_cons,amL g (rows:=rows) (agU m es r)]
  unfold agU
  by_cases hk:r[m.by_.toNat]!.kind=1
  ·rw [zp hk,afT]
   by_cases hg:g=r[m.by_.toNat]!.n
   ·rw [zp hg]
    exact ⟨λ_=> .inr ⟨r,List.mem_cons_self ..,hk,hg.symm⟩,λ_=> .inl rfl⟩
   ·rw [zn hg]
    constructor
    ·rintro (q|⟨x,hx,q⟩)
     ·exact .inl q
     ·exact .inr ⟨x,List.mem_cons_of_mem _ hx,q⟩
    ·rintro (q|⟨x,hx,q⟩)
     ·exact .inl q
     ·rcases zmc.1 hx with rfl|hx
      ·exact absurd q.2.symm hg
      ·exact .inr ⟨x,hx,q⟩
  ·rw [zn hk]
   constructor
   ·rintro (q|⟨x,hx,q⟩)
    ·exact .inl q
    ·exact .inr ⟨x,List.mem_cons_of_mem _ hx,q⟩
   ·rintro (q|⟨x,hx,q⟩)
    ·exact .inl q
    ·rcases zmc.1 hx with rfl|hx
     ·exact absurd q.1 hk
     ·exact .inr ⟨x,hx,q⟩
def rZ (m:Su) (rows:List (List Vl)):Bool:=rows.all λr=>decide (r[m.col.toNat]!.n>=0)
theorem auF {m:Su} {rows:List (List Vl)} (h:aAm m rows):(rZ m rows&&(mQ m rows).all λe=>decide (e.2<=m.max))=rows.all λr=> !azB m r&&(!decide (r[m.by_.toNat]!.kind=1)||decide (uY m r[m.by_.toNat]!.n rows<=m.max)):=by
 have hget:=λg=>agV (m:=m) g (rows:=rows) [] h
 have hsome:=λg=>amL (m:=m) g (rows:=rows) []
 have hnd:=aA3 m rows [] (by simp)
 change ∀g,(cC g (mQ m rows)).getD 0=_ at hget
 change ∀g,(cC g (mQ m rows)).isSome=true↔_ at hsome
 change ((mQ m rows).map (·.1)).Nodup at hnd
 simp only [cC,Option.getD_none,Option.isSome_none,Bool.false_eq_true,false_or] at hget hsome
 rw [Bool.eq_iff_iff,zba]
 unfold rZ
 simp only [zal,zba,Bool.or_eq_true,Bool.not_eq_true',zde,decide_eq_false_iff_not]
 have hneg:∀r∈rows,azB m r=false↔r[m.col.toNat]!.n>=0:=λr hr=>by
  unfold azB
  by_cases hc:r[m.col.toNat]!.kind=1
  ·rw [decide_eq_true hc,Bool.true_and,decide_eq_false_iff_not];omega
  ·rw [decide_eq_false hc,h r hr hc];simp
 constructor
 ·rintro ⟨h1,h2⟩ r hr
  refine ⟨(hneg r hr).2 (h1 r hr), ?_⟩
  by_cases hk:r[m.by_.toNat]!.kind=1
  ·right
   have hs:=(hsome r[m.by_.toNat]!.n).2 ⟨r,hr,hk,rfl⟩
   obtain ⟨v,hv⟩:=Option.isSome_iff_exists.1 hs
   have:=h2 _ (aBr hv)
   have e:=hget r[m.by_.toNat]!.n
   rw [hv] at e
   simp only [Option.getD_some] at e this
   omega
  ·exact .inl hk
 ·intro q
  refine ⟨λr hr=>(hneg r hr).1 (q r hr).1,λe he=> ?_⟩
  obtain ⟨k,v⟩:=e
  have hv:=aEl hnd he
  have e:=hget k
  rw [hv] at e
  simp only [Option.getD_some] at e⊢
  obtain ⟨r,hr,hk,rfl⟩:=(hsome k).1 (by rw [hv];rfl)
  have:=(q r hr).2.resolve_left λz=>z hk
  omega
def aEU (u:Nat) (es:List (Int×Bool)) (r:List Vl):List (Int×Bool):=if r[u]!.kind=1 then dC r[u]!.n true es else es
def aoH (u:Nat) (rows:List (List Vl)):List (Int×Bool):=rows.foldl (aEU u) []
theorem arS (u:Nat) (g:Int):∀(rows:List (List Vl)) (es:List (Int×Bool)),(cC g (rows.foldl (aEU u) es)).getD false=((cC g es).getD false||rows.any λr=>decide (r[u]!.kind=1)&&decide (r[u]!.n=g))
 |[],es=>by simp
 |r::rows,es=>by
  rw [List.foldl_cons,arS u g rows,List.any_cons]
  unfold aEU
  by_cases hk:r[u]!.kind=1
  ·rw [zp hk,afT]
   by_cases hg:g=r[u]!.n
   ·rw [zp hg,decide_eq_true hk,decide_eq_true hg.symm];simp
   ·rw [zn hg,decide_eq_false (show ¬r[u]!.n=g from λq=>hg q.symm)];simp
  ·rw [zn hk,decide_eq_false hk];simp
theorem azX (u:Nat) (g:Int) (rows:List (List Vl)):(cC g (aoH u rows)).getD false=rows.any λr=>decide (r[u]!.kind=1)&&decide (r[u]!.n=g):=by
 have:=arS u g rows []
 simp only [cC,Option.getD_none,Bool.false_or] at this
 exact this
theorem aD7 (u:Nat) {rows:List (List Vl)} {k:Nat} (h:k<rows.length):aoH u (rows.take (k+1))=if rows[k][u]!.kind=1 then dC rows[k][u]!.n true (aoH u (rows.take k)) else aoH u (rows.take k):=by
 unfold aoH
 rw [List.take_succ_eq_append_getElem h,List.foldl_append];rfl
theorem aCV (m:Su) {rows:List (List Vl)} {k:Nat} (h:k<rows.length):mQ m (rows.take (k+1))=if rows[k][m.by_.toNat]!.kind=1 then dC rows[k][m.by_.toNat]!.n ((cC rows[k][m.by_.toNat]!.n (mQ m (rows.take k))).getD 0+rows[k][m.col.toNat]!.n) (mQ m (rows.take k)) else mQ m (rows.take k):=by
 unfold mQ
 rw [List.take_succ_eq_append_getElem h,List.foldl_append];rfl
def pwU (u:Nat) (rows:List (List Vl)):Prop:=rows.Pairwise λx y=>mO u x y=false
theorem aGi {u:Nat} {rows:List (List Vl)} {k:Nat} (h:k<rows.length):pwU u (rows.take (k+1))↔pwU u (rows.take k)/\(rows[k][u]!.kind=1->((rows.take k).any λr=>decide (r[u]!.kind=1)&&decide (r[u]!.n=rows[k][u]!.n))=false):=by
 unfold pwU
 rw [List.take_succ_eq_append_getElem h,List.pairwise_append]
 constructor
 ·rintro ⟨h1,_,h3⟩
  refine ⟨h1,λhk=> ?_⟩
  rw [List.any_eq_false]
  intro x hx q
  have:=h3 x hx rows[k] (by simp)
  unfold mO at this
  simp only [zba,zde] at q
  rw [decide_eq_true q.1,decide_eq_true hk,decide_eq_true q.2] at this
  cases this
 ·rintro ⟨h1,h2⟩
  refine ⟨h1,List.pairwise_singleton ..,λx hx y hy=> ?_⟩
  rw [zms] at hy
  subst hy
  by_cases hk:rows[k][u]!.kind=1
  ·have:=List.any_eq_false.1 (h2 hk) x hx
   unfold mO
   rw [decide_eq_true hk]
   simpa using this
  ·unfold mO
   rw [decide_eq_false hk];simp
theorem azI {t:Tb} {rows:List (List Vl)} (h:∀j (hj:j<t.unique.length),pwU t.unique[j].toNat rows):lI t rows=true:=by
 unfold lI
 rw [zal]
 intro u hu
 obtain ⟨j,hj,rfl⟩:=zgo hu
 exact decide_eq_true (h j hj)
theorem aC9 {t:Tb} {rows:List (List Vl)} {j k:Nat} (hj:j<t.unique.length) (h:¬pwU t.unique[j].toNat (rows.take k)):lI t rows=false:=by
 unfold lI
 rw [<-Bool.not_eq_true,zal]
 intro q
 exact h ((of_decide_eq_true (q _ (zgm hj))).sublist (List.take_sublist ..))
theorem auB {f:Nat->Int} {n i:Nat} (h:i<n) (h1:∀j<i,f j=0) (h2:f i≠0):eA f (List.range n)=f i:=by
 have:=xU (f:=f) (l:=List.range n) (i:=i) (by simpa using h) (λj hj=>by rw [List.getElem_range];exact h1 j hj) (by rw [List.getElem_range];exact h2)
 rwa [List.getElem_range] at this
theorem adS {f:Nat->Int} {n:Nat} (h:∀j<n,f j=0):eA f (List.range n)=0:=gA.2 λj hj=>h j (List.mem_range.1 hj)
theorem mX {α:Type} {f:α->Int} {l:List α} (h:∀j (hj:j<l.length),f l[j]=0):eA f l=0:=gA.2 λx hx=>by
 obtain ⟨j,hj,rfl⟩:=zgo hx
 exact h j hj
theorem sK {α:Type} {f:α->Int} {l:List α} {i:Nat} (hI:∀j (h:j<l.length),j<i->f l[j]=0) (h:i<l.length) (hf:f l[i]=0):∀j (h:j<l.length),j<i+1->f l[j]=0:=λj hj hji=>by
 rcases zls.1 hji with q|q
 ·exact hI j hj q
 ·subst q;exact hf
theorem sP {α:Type} {f:α->Int} {l:List α} {i:Nat} (hI:∀j (h:j<l.length),j<i->f l[j]=0) (h:i<l.length) (hf:f l[i]≠0):eA f l=f l[i]:=xU h (λj hj=>hI j (by omega) hj) hf
end
end
section
attribute [local irreducible] Ev PWp
set_option maxRecDepth 10000
set_option maxHeartbeats 4000000
theorem aoJ (c:Co):PF Tryz.prog 274 [.agg c.cells] (.val (.int .i64 (dU c))):=by
 unfold dU
 refine aG aD Tryz.func274 (by kernel_rfl) rfl rfl rfl rfl (λst=> ?_)
 (try apply wO pk;rfl);(repeat' first|show Cn _;constructor|apply wC pk;rfl;rfl|refine aA rfl ?_ ?_<;>intro h<;>(try simp at h)<;>try omega|(refine aB ?_;refine ⟨_,_,_,rfl,zwr _,zsr _, ?_,rfl⟩;try first|rfl|((simp [*];done));done))
theorem anX (c:Co) (v:Vl):PF Tryz.prog 179 [.agg c.cells, .agg v.cells] (.val (.int .i64 (sI c v))):=by
 have hv:=iP v
 have hk:=aoJ c
 unfold sI
 generalize cP v=A at*
 generalize dU c=K at*
 refine aG aD Tryz.func179 (by kernel_rfl) rfl rfl rfl rfl (λst=> ?_)
 (try apply wO pk;rfl);(repeat' first|show Cn _;constructor|apply wC pk;rfl;rfl|apply wE pk;rfl;rfl|apply wD pk [] [];kernel_rfl;rfl;rfl|refine aA rfl ?_ ?_<;>intro h<;>(try simp at h)<;>try omega|(refine aB ?_;refine ⟨_,_,_,rfl,zwr _,zsr _, ?_,rfl⟩;try first|rfl|(first|simp [*];done|grind);done)|(apply aH;rfl;rfl;rfl;(intro _;(first|apply hv|apply hk)<;>first|assumption|omega);rotate_left;rfl;rfl))
theorem aeK (t:Tb) (r:List Vl) (hc:t.cols.length<1000000000000000) (hr:r.length<1000000000000000):PF Tryz.prog 105 [.seq (t.cols.map Co.cells), .seq (r.map Vl.cells)] (.val (.int .i64 (eK t r))):=by
 unfold eK
 by_cases hl:¬t.cols.length=r.length
 ·rw [zn hl]
  refine aG aD Tryz.func105 (by kernel_rfl) rfl rfl rfl rfl (λst=> ?_)
  (try apply wO pk;rfl);(repeat' first|show Cn _;constructor|apply wC pk;rfl;rfl|refine aA rfl ?_ ?_<;>intro h<;>(try simp at h)<;>try omega|(refine aB ?_;refine ⟨_,_,_,rfl,zwr _,zsr _, ?_,rfl⟩;try first|rfl|(fail);done))
 replace hl:=zdn hl
 rw [zp hl]
 refine aG aD Tryz.func105 (by kernel_rfl) rfl rfl rfl rfl (λst=> ?_)
 focus ((try apply wO pk;rfl);(repeat' first|show Cn _;constructor|apply wC pk;rfl;rfl|refine aA rfl ?_ ?_<;>intro h<;>(try simp at h)<;>try omega))
 refine aK (X:={x:Nat//x<=r.length/\∀j<x,sI t.cols[j]! r[j]! =0}) (λi=>(((((St.nil 30 st).pv 0 (.seq (t.cols.map Co.cells))).pv 13 (.seq (r.map Vl.cells))).pv 14 ((PV.val (Value.int .i64 ((((r.map Vl.cells)).length:Nat)))))).pv 15 ((PV.val (Value.int .i64 ((i.1:Nat))))))) (λi=>r.length-i.1) ⟨0,by omega,by omega⟩ ?_ (λi=> ?_)
 ·((repeat refine Sub.pv ?_ rfl);exact Sub.nil _ _ _ (zsr _) rfl)
 obtain ⟨i,hi,hI⟩:=i
 dsimp only
 by_cases hend:r.length<=i
 ·have e:eA (λk=>sI t.cols[k]! r[k]!) (List.range r.length)=0:=adS λj hj=>hI j (by omega)
  (try apply wO pk;rfl);(repeat' first|show Cn _;constructor|apply wC pk;rfl;rfl|refine aA rfl ?_ ?_<;>intro h<;>(try simp at h)<;>try omega|(refine aB ?_;refine ⟨_,_,_,rfl,zwr _,zsr _, ?_,rfl⟩;try first|rfl|(rw [e]);done))
 have hil:i<r.length:=by omega
 have hic:i<t.cols.length:=by omega
 have hk:=anX t.cols[i] r[i]
 have e:=auB (f:=λk=>sI t.cols[k]! r[k]!) hil hI
 have hu:sI t.cols[i] r[i]=0->∀j<i+1,sI t.cols[j]! r[j]! =0:=λh j hj=>by
  rcases zls.1 hj with q|q
  ·exact hI j q
  ·subst q;rw [getElem!_pos t.cols j hic,getElem!_pos r j hil];exact h
 simp only [getElem!_pos t.cols i hic,getElem!_pos r i hil] at e
 generalize sI t.cols[i] r[i]=E at*
 (try apply wO pk;rfl);(repeat' first|show Cn _;constructor|apply wC pk;rfl;rfl|apply wE pk;rfl;rfl|apply wD pk [] [];kernel_rfl;rfl;rfl|refine aA rfl ?_ ?_<;>intro h<;>(try simp at h)<;>try omega|(refine aB ?_;refine ⟨_,_,_,rfl,zwr _,zsr _, ?_,rfl⟩;try first|rfl|(rw [e ‹_›]);done)|(apply aH;rfl;rfl;rfl;(intro _;apply hk<;>first|assumption|omega);rotate_left;rfl;rfl)|apply aO pk;(iterate 6 rfl);rotate_left;rfl;(intro hw;rfl);(intro hw;apply aI<;>omega);(intro _;rfl);rfl|refine ⟨⟨i+1,by omega,hu ‹_›⟩, ?_,by simp only;omega⟩;((repeat refine Sub.pv ?_ rfl);exact Sub.nil _ _ _ (zsr _) rfl)|intros;(try simp only [zql]);omega)
end
section
set_option maxRecDepth 10000
set_option maxHeartbeats 4000000
def lW (n:Int):PV:=(PV.val (Value.int .i64 (n)))
def Ie (k:Int):Value:= .int .i64 k
theorem aBT {g:G} (a:Int):VR Tryz.prog g 3 [.val (Ie a)] (Ie a):=⟨λh=>absurd (h.symm.trans (show bM Tryz.prog 3=false from by kernel_rfl)) (by simp),λ_=>by simp only [RepL];exact ⟨_,[],rfl,by simp [Rep],rfl⟩⟩
theorem zG :KeyOK Tryz.prog 3 Ie (λk=> .val (Ie k)) where
 und:=rfl
 chk k b w:=gD (k:= .int .i64) (by kernel_rfl) rfl rfl b w
 now kd h a b:=by
  have hI:Tryz.prog.underlying 3=some (.int .i64):=by kernel_rfl
  have hkd:kd= .int .i64:=by
   rw [hI] at h
   injection h with h
   exact h.symm
  subst hkd
  right
  simp only [Ie,Instr.sameNow,if_true]
  congr 1
 eq a b w:=by
  have g:G:=⟨#[],λ_=>none,λ_=>0,λ_=>False⟩
  exact iI aD (g:=g) 8 Op.maxDepth (by decide) 3 _ _ _ _ _ (show peq tt 8 3 [.val (Ie a)] [.val (Ie b)]=some (decide (a=b)) from rfl) (by kernel_rfl) (aBT a) (aBT b)
 rp k g v h:=aQ h
 bits k:=abT rfl
end
end Go.Proofs.YtloecjjehapblaaGreatDoor
namespace Go.Proofs.YtloecjjehapblaaGreatDoor.X
open Go Go.Abs
set_option maxRecDepth 10000
set_option maxHeartbeats 4000000
def v0 :Vl:=⟨0,0,e0⟩
inductive Ex where
 |mk (k n:Int) (v:Vl) (of:List Ex)
def Ex.k :Ex->Int| .mk k _ _ _=>k
def Ex.n :Ex->Int| .mk _ n _ _=>n
def Ex.v :Ex->Vl| .mk _ _ v _=>v
def Ex.of :Ex->List Ex| .mk _ _ _ o=>o
mutual
def Ex.cells :Ex->List PV
 | .mk k n v o=>[(PV.val (Value.int .i64 (k))),(PV.val (Value.int .i64 (n))),(PV.val (Value.int .i64 (v.kind))),(PV.val (Value.int .i64 (v.n))),(PV.val (Value.string (v.s))), .seq (Ex.rows o)]
def Ex.rows :List Ex->List (List PV)
 |[]=>[]
 |e::es=>e.cells::Ex.rows es
end
theorem Ex.rows_map :∀l:List Ex,Ex.rows l=l.map Ex.cells
 |[]=>rfl
 |e::es=>by simp [Ex.rows,Ex.rows_map es]
theorem Ex.rows_len :∀(l:List Ex),(Ex.rows l).length=l.length
 |[]=>rfl
 |e::es=>by simp [Ex.rows,Ex.rows_len es]
theorem Ex.rows_get :∀{l:List Ex} {i:Nat} {x:Ex},l[i]?=some x->(Ex.rows l)[i]?=some x.cells
 |[],_,_,h=>by simp at h
 |e::es,0,x,h=>by simp at h;simp [Ex.rows,h]
 |e::es,i+1,x,h=>by simp at h;simpa [Ex.rows] using Ex.rows_get h
theorem Ex.cells_len :∀(x:Ex),x.cells.length=6
 | .mk _ _ _ _=>by simp [Ex.cells]
mutual
def Ex.ok :Ex->Prop
 | .mk _ _ _ o=>o.length<2^62/\Ex.oks o
def Ex.oks :List Ex->Prop
 |[]=>True
 |e::es=>e.ok/\Ex.oks es
end
mutual
theorem Ex.ok_of :∀(e:Ex),mR e.cells->e.ok
 | .mk k n v o,h=>by
  simp only [Ex.cells,mR,lens,Ex.rows_len] at h
  simp only [Ex.ok]
  exact ⟨h.2.2.2.2.2.1.1,Ex.oks_of o h.2.2.2.2.2.1.2⟩
theorem Ex.oks_of :∀(l:List Ex),qZ (Ex.rows l)->Ex.oks l
 |[],_=>by simp [Ex.oks]
 |e::es,h=>by
  simp only [Ex.rows,qZ] at h
  simp only [Ex.oks]
  exact ⟨Ex.ok_of e h.1,Ex.oks_of es h.2⟩
end
theorem Ex.oks_mem :∀{l:List Ex} {x:Ex},Ex.oks l->x∈l->x.ok
 |[],_,_,hx=>by cases hx
 |e::es,x,h,hx=>by
  simp only [Ex.oks] at h
  rcases zmc.1 hx with rfl|hx
  ·exact h.1
  ·exact Ex.oks_mem h.2 hx
def jU (l:List Int):List (List PV):=l.map I1
theorem adY {l:List Int} {i:Nat} {x:Int} (h:l[i]?=some x):(jU l)[i]?=some [(PV.val (Value.int .i64 (x)))]:=by simp [jU,h,I1]
theorem aeV (l:List Int):(jU l).length=l.length:=by simp [jU]
theorem fL {α:Type} {l:List α} {i:Nat} (h:i<l.length):∃x,l[i]?=some x:=⟨l[i],by simp [h]⟩
end Go.Proofs.YtloecjjehapblaaGreatDoor.X
