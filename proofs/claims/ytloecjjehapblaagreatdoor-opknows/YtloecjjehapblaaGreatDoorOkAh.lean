import Derived.Test.YtloecjjehapblaaGreatDoorOkAf
import Derived.Test.YtloecjjehapblaaGreatDoorOkAg
import Derived.Test.YtloecjjehapblaaGreatDoorOkAb
import Derived.Test.YtloecjjehapblaaGreatDoorAcE
set_option linter.unusedSimpArgs false
set_option linter.unusedVariables false
namespace Go.Proofs.YtloecjjehapblaaGreatDoor
open Go Go.Abs
section
set_option maxRecDepth 10000
set_option maxHeartbeats 4000000
theorem agP {α:Type} {r:α->α->Prop} (tr:∀{a b c},r a b->r b c->r a c) (irr:∀{a},¬r a a):∀{l m:List α},l.Pairwise r->m.Pairwise r->(∀x,x∈l↔x∈m)->l=m
 |[],[],_,_,_=>rfl
 |[],b::m,_,_,h=>absurd ((h b).2 (by simp)) (by simp)
 |a::l,[],_,_,h=>absurd ((h a).1 (by simp)) (by simp)
 |a::l,b::m,h1,h2,h=>by
  have h1':=List.pairwise_cons.1 h1
  have h2':=List.pairwise_cons.1 h2
  have e:a=b:=by
   rcases zmc.1 ((h a).1 (by simp)) with q|q
   ·exact q
   rcases zmc.1 ((h b).2 (by simp)) with w|w
   ·exact w.symm
   exact absurd (tr (h2'.1 a q) (h1'.1 b w)) irr
  subst e
  refine congrArg (a:: ·) (agP (r:=r) tr irr h1'.2 h2'.2 λx=> ?_)
  constructor
  ·intro q
   rcases zmc.1 ((h x).1 (List.mem_cons_of_mem _ q)) with w|w
   ·subst w;exact absurd (h1'.1 x q) irr
   ·exact w
  ·intro q
   rcases zmc.1 ((h x).2 (List.mem_cons_of_mem _ q)) with w|w
   ·subst w;exact absurd (h2'.1 x q) irr
   ·exact w
def KSort (L:List Ln):Prop:=(L.map (·.key)).Pairwise (· < ·)
theorem KSort.at {L:List Ln} (h:KSort L) {i j:Nat} (hij:i<j) (hj:j<L.length):(L[i]'(by omega)).key<L[j].key:=by
 have:=List.pairwise_iff_getElem.1 h i j (by simp;omega) (by simpa using hj) hij
 simpa using this
theorem KSort.inj {L:List Ln} (h:KSort L) {i j:Nat} (hi:i<L.length) (hj:j<L.length) (e:L[i].key=L[j].key):i=j:=by
 rcases Nat.lt_trichotomy i j with q|q|q
 ·have:=h.at q hj;omega
 ·exact q
 ·have:=h.at q hi;omega
theorem KSort.eq {L:List Ln} (h:KSort L) {x y:Ln} (hx:x∈L) (hy:y∈L) (e:x.key=y.key):x=y:=by
 obtain ⟨i,hi,rfl⟩:=zgo hx
 obtain ⟨j,hj,rfl⟩:=zgo hy
 have:=h.inj hi hj e
 subst this;rfl
theorem aqK {L:List Ln} (h:KSort L) {k:Int} {x:Ln}:eD L k=some x↔x∈L/\x.key=k:=by
 unfold eD
 constructor
 ·intro q
  exact ⟨List.mem_of_find?_eq_some q,by simpa using List.find?_some q⟩
 ·rintro ⟨hx,rfl⟩
  cases q:L.find? λy=>decide (y.key=x.key) with
  |none=>exact absurd (List.find?_eq_none.1 q x hx) (by simp)
  |some y=>rw [h.eq (List.mem_of_find?_eq_some q) hx (by simpa using List.find?_some q)]
theorem aGn {L M:List Ln} (hL:KSort L) (hM:KSort M) (h:∀x,x∈L↔x∈M):L=M:=by
 refine agP (r:=λa b:Ln=>a.key<b.key) (λh1 h2=>Int.lt_trans h1 h2) (λh=>Int.lt_irrefl _ h) ?_ ?_ h
 ·exact List.pairwise_map.1 hL
 ·exact List.pairwise_map.1 hM
def uA (L:List Ln) (key:Int):List Ln:=if (atP L key).2 then L.eraseIdx (atP L key).1.toNat else L
theorem afS {L:List Ln} (h:KSort L) (a x:Ln):x∈mC L a↔x=a\/(x∈L/\x.key≠a.key):=by
 unfold mC
 rcases sU L a.key with ⟨j,hj,e,_,hk,_⟩|⟨j,hj,e,_,hk,_,_⟩
 ·rw [e,zp rfl,Int.toNat_natCast]
  constructor
  ·intro hx
   obtain ⟨q,hq,rfl⟩:=zgo hx
   rw [List.length_set] at hq
   rw [List.getElem_set]
   split
   ·exact .inl rfl
   ·rename_i hne
    exact .inr ⟨zgm hq,λe2=>hne (h.inj hj hq (hk.trans e2.symm))⟩
  ·rintro (rfl|⟨hx,hne⟩)
   ·exact List.mem_iff_getElem.2 ⟨j,by simpa using hj,by simp⟩
   ·obtain ⟨q,hq,rfl⟩:=zgo hx
    have hqj:q≠j:=λe2=>hne (by subst e2;exact hk)
    exact List.mem_iff_getElem.2 ⟨q,by simpa using hq,by rw [List.getElem_set_ne (Ne.symm hqj)]⟩
 ·rw [e,zn (by simp),Int.toNat_natCast]
  unfold dW
  have e2:=List.take_append_drop j L
  have:x∈L↔x∈L.take j\/x∈L.drop j:=by rw [<-zma,e2]
  simp only [zma,zms]
  constructor
  ·rintro ((q|q)|q)
   ·exact .inr ⟨this.2 (.inl q),hk x (this.2 (.inl q))⟩
   ·exact .inl q
   ·exact .inr ⟨this.2 (.inr q),hk x (this.2 (.inr q))⟩
  ·rintro (q|⟨q,_⟩)
   ·exact .inl (.inr q)
   ·rcases this.1 q with q|q
    ·exact .inl (.inl q)
    ·exact .inr q
theorem KSort.put {L:List Ln} (h:KSort L) (a:Ln):KSort (mC L a):=by
 unfold mC
 rcases sU L a.key with ⟨j,hj,e,_,hk,_⟩|⟨j,hj,e,_,hk,hlo,hhi⟩
 ·rw [e,zp rfl,Int.toNat_natCast]
  unfold KSort
  rw [List.map_set,<-hk]
  have:(L.map (·.key)).set j L[j].key=L.map (·.key):=by
   have hj2:j<(L.map (·.key)).length:=by simpa using hj
   have:=List.set_getElem_self hj2
   simpa using this
  rw [this];exact h
 ·rw [e,zn (by simp),Int.toNat_natCast]
  unfold KSort dW
  have hp:=h
  unfold KSort at hp
  rw [<-List.take_append_drop j L,List.map_append,List.pairwise_append] at hp
  rw [List.map_append,List.map_append,List.pairwise_append,List.pairwise_append]
  refine ⟨⟨hp.1,List.pairwise_singleton ..,λx hx y hy=> ?_⟩,hp.2.1,λx hx y hy=> ?_⟩
  ·simp only [zmp,List.map_nil,zms] at hy
   subst hy
   obtain ⟨z,hz,rfl⟩:=List.mem_map.1 hx
   obtain ⟨q,hq,rfl⟩:=zgo hz
   rw [zlt] at hq
   rw [List.getElem_take]
   have h1:=hlo q (by omega) (by omega)
   have h2:=hk _ (zgm (show q<L.length by omega))
   omega
  ·have hyk:a.key<y:=by
    obtain ⟨z,hz,rfl⟩:=List.mem_map.1 hy
    obtain ⟨q,hq,rfl⟩:=zgo hz
    rw [zld] at hq
    rw [List.getElem_drop]
    have h1:=hhi (by omega)
    rcases Nat.eq_zero_or_pos q with rfl|hq0
    ·exact h1
    ·have:=h.at (show j<j+q by omega) (by omega);omega
   rw [zma] at hx
   rcases hx with hx|hx
   ·exact hp.2.2 x hx y hy
   ·simp only [zmp,List.map_nil,zms] at hx
    subst hx;exact hyk
theorem lU {L:List Ln} (h:KSort L) (k:Int) (x:Ln):x∈uA L k↔x∈L/\x.key≠k:=by
 unfold uA
 rcases sU L k with ⟨j,hj,e,_,hk,_⟩|⟨j,hj,e,_,hk,_,_⟩
 ·rw [e,zp rfl,Int.toNat_natCast,List.mem_eraseIdx_iff_getElem]
  constructor
  ·rintro ⟨q,hq,hne,rfl⟩
   exact ⟨zgm hq,λe2=>hne (h.inj hq hj (e2.trans hk.symm))⟩
  ·rintro ⟨hx,hne⟩
   obtain ⟨q,hq,rfl⟩:=zgo hx
   exact ⟨q,hq,λe2=>hne (by subst e2;exact hk),rfl⟩
 ·rw [e,zn (by simp)]
  exact ⟨λq=>⟨q,hk x q⟩,λq=>q.1⟩
theorem KSort.drop {L:List Ln} (h:KSort L) (k:Int):KSort (uA L k):=by
 unfold uA
 split
 ·exact h.sublist ((List.eraseIdx_sublist ..).map _)
 ·exact h
end
section
set_option maxRecDepth 10000
set_option maxHeartbeats 4000000
section
variable {L:List Ln}
theorem ahM (h:KSort L) (k:Int):eD (uA L k) k=none:=by
 cases q:eD (uA L k) k with
 |none=>rfl
 |some x=>obtain ⟨q1,q2⟩:=(aqK (h.drop k)).1 q;exact absurd q2 ((lU h k x).1 q1).2
theorem drop_drop (h:KSort L) (k:Int):uA (uA L k) k=uA L k:=
 aGn ((h.drop k).drop k) (h.drop k) λx=>by rw [lU (h.drop k),lU h];grind
end
theorem aCn (b:Bs) (k k':Int) (ls:List Ln):okT (iH b k ls) k'=okT b k':=by unfold okT;rw [kO]
theorem ajT {b:Bs} {k:Int} (h:okT b k=false):aN b k=[]:=by unfold aN;rw [h];rfl
theorem aAF {b:Bs} {k:Int} (h:okT b k=false) (ls:List Ln):iH b k ls=b:=by unfold iH;rw [h];rfl
theorem set_set (b:Bs) (k:Int) (l m:List Ln):iH (iH b k l) k m=iH b k m:=by
 cases h:okT b k with
 |false=>rw [aAF h,aAF h]
 |true=>
  rw [show iH (iH b k l) k m=(iH b k l).set k.toNat ⟨m⟩ from zp (by rw [aCn,h]),show iH b k l=b.set k.toNat ⟨l⟩ from zp h,show iH b k m=b.set k.toNat ⟨m⟩ from zp h,List.set_set]
variable {tx:Cl->Int}
theorem gA {t:Tb} {L:List Ln}:sP tx t L=true↔L.length<=2000/\(∀x∈L,jY tx t x=true)/\KSort L:=by
 unfold sP
 rw [zba,zde,pQ]
 refine and_congr Iff.rfl ?_
 constructor
 ·intro h
  have h1:∀i (hi:i<L.length),jY tx t L[i]=true/\(i=0\/L[i-1]!.key<L[i].key):=λi hi=>by
   have:=h i hi
   unfold lnR at this
   rw [getElem!_pos L i hi] at this
   simpa using this
  refine ⟨λx hx=>by obtain ⟨i,hi,rfl⟩:=zgo hx;exact (h1 i hi).1, ?_⟩
  have key:∀j (hj:j<L.length) i (hi:i<j),(L[i]'(by omega)).key<L[j].key:=by
   intro j
   induction j with
   |zero=>intro _ i hi;exact absurd hi (Nat.not_lt_zero _)
   |succ j ih=>
    intro hj i hi
    have:=(h1 (j+1) hj).2.resolve_left (Nat.succ_ne_zero j)
    rw [show j+1-1=j from rfl,getElem!_pos L j (by omega)] at this
    rcases zls.1 hi with q|q
    ·exact Int.lt_trans (ih (by omega) i q) this
    ·subst q;exact this
  unfold KSort
  exact List.pairwise_iff_getElem.2 λi j hi hj hij=>by simpa using key j (by simpa using hj) i hij
 ·rintro ⟨h1,h2⟩ i hi
  unfold lnR
  rw [getElem!_pos L i hi,h1 _ (zgm hi),Bool.true_and]
  rcases Nat.eq_zero_or_pos i with rfl|h0
  ·simp
  ·rw [getElem!_pos L (i-1) (by omega)]
   have:=h2.at (show i-1<i by omega) hi
   simp [this]
theorem bU {s:Sc} {b:Bs}:cE tx s b=true↔(cM s=0/\b.length=s.length)/\∀k<b.length,sP tx s[k]! b[k]!.lines=true:=by
 unfold cE
 rw [zba,zde,pQ]
 exact Iff.rfl
theorem alU {s:Sc} {b:Bs} (h:cE tx s b=true) (k:Int):KSort (aN b k):=by
 cases hk:okT b k with
 |false=>rw [ajT hk];simp [KSort]
 |true=>
  have e:aN b k=b[k.toNat]!.lines:=by unfold aN;rw [zp hk]
  simp only [okT,zba,zde] at hk
  rw [e]
  exact (gA.1 ((bU.1 h).2 k.toNat (by omega))).2.2
theorem abI {s:Sc} {b:Bs} (h:cE tx s b=true) {k:Int} (hk:okT b k=true):sP tx s[k.toNat]! (aN b k)=true:=by
 have e:aN b k=b[k.toNat]!.lines:=by unfold aN;rw [zp hk]
 simp only [okT,zba,zde] at hk
 rw [e]
 exact (bU.1 h).2 k.toNat (by omega)
theorem avK {s:Sc} {b:Bs} (h:cE tx s b=true) {k:Int} (hk:okT b k=true) (ls:List Ln):cE tx s (iH b k ls)=sP tx s[k.toNat]! ls:=by
 obtain ⟨h1,h2⟩:=bU.1 h
 have hk2:=hk
 simp only [okT,zba,zde] at hk2
 obtain ⟨q,rfl⟩:∃q:Nat,k=q:=⟨k.toNat,by omega⟩
 have hq:q<b.length:=by omega
 rw [Bool.eq_iff_iff,bU,kO,Int.toNat_natCast]
 constructor
 ·intro w
  have:=w.2 q hq
  rwa [getElem!_pos (iH b q ls) q (by rw [kO];exact hq),asB hq rfl] at this
 ·intro w
  refine ⟨h1,λi hi=> ?_⟩
  rw [getElem!_pos (iH b q ls) i (by rw [kO];exact hi)]
  by_cases e:(i:Int)=q
  ·rw [asB hi e,show i=q by omega];exact w
  ·rw [aDb hi e,<-getElem!_pos b i hi];exact h2 i hi
end
section
attribute [local irreducible] Ev PWp
set_option maxRecDepth 10000
set_option maxHeartbeats 4000000
theorem aqX (o:Option Ln):aFP o= .tup [.agg (o.getD Ln.zero).cells,(PV.val (Value.bool (o.isSome)))]:=by cases o<;>rfl
def ScB (s:Sc):Prop:=∀t∈s,TbB t
theorem aGO (c:Cl) (h:c.parts.length<=1000):aCP T.rightP c:=⟨by omega,λ_=>T.right_spec c (by omega)⟩
theorem BsS.da {n:Nat} {b:Bs} (h:BsS n b) (hn:n<=1000):∀d∈b,aF4 T.rightP d:=λd hd=>by
 obtain ⟨h1,h2⟩:=h.2 d hd
 refine ⟨by omega,λl hl=> ?_⟩
 obtain ⟨q1,q2,q3⟩:=h2 l hl
 exact ⟨⟨by omega,by omega⟩,λc hc=>aGO c (q3 c hc)⟩
theorem qD {n:Nat} {b:Bs} (h:BsS n b) (hn:n<=1000) {s:Sc} (hs:ScB s) (hl:s.length<=20):PF Tryz.prog 19 [.agg (scC s), .agg (bsC b)] (.val (.bool (cE T.rightP s b))):=
 aoY T.rightP s b (by omega) hs (by have:=h.1;omega) (h.da hn)
theorem vU {n:Nat} {b:Bs} (h:BsS n b) (hn:n<=1000) (k key:Int):PF Tryz.prog 24 [.agg (bsC b),(.val (.int .i64 k)),(.val (.int .i64 key))] (.tup [.agg ((eD (aN b k) key).getD Ln.zero).cells,(.val (.bool ((eD (aN b k) key).isSome)))]):=aqX _▸aaU b k key (h.l hn).2
theorem LnS.zero :LnS Ln.zero:=⟨by simp [Ln.zero],by simp [Ln.zero],λc hc=>by simp [Ln.zero] at hc⟩
theorem BsS.got {n:Nat} {b:Bs} (h:BsS n b) (k key:Int):LnS ((eD (aN b k) key).getD Ln.zero):=by
 cases q:eD (aN b k) key with
 |none=>exact LnS.zero
 |some x=>exact (h.lines k).2 x (List.mem_of_find?_eq_some q)
theorem BsS.new {s:Sc} (hl:s.length<=20):BsS 0 (aaA s):=⟨by simpa [aaA] using hl,λd hd=>by
 rw [(List.mem_replicate.1 hd).2]
 exact ⟨Nat.le_refl _,λl hl=>by simp at hl⟩⟩
end
section
set_option maxRecDepth 10000
set_option maxHeartbeats 4000000
def dT {α:Type} (f:α->Int) (l:List α):Int:=(l.find? λx=>decide (f x≠0)).elim 0 f
theorem fP {α:Type} {f:α->Int} {l:List α}:dT f l=0↔∀x∈l,f x=0:=by
 unfold dT
 cases e:l.find? λx=>decide (f x≠0) with
 |none=>
  have:=List.find?_eq_none.1 e
  simp at this
  exact ⟨λ_=>this,λ_=>rfl⟩
 |some x=>
  have h1:=List.find?_some e
  have h2:=List.mem_of_find?_eq_some e
  simp at h1
  exact ⟨λh=>absurd h h1,λh=>absurd (h x h2) h1⟩
theorem wM {α:Type} (f:α->Int) (x:α) (l:List α):dT f (x::l)=if f x=0 then dT f l else f x:=by
 unfold dT
 rw [List.find?_cons]
 by_cases h:f x=0
 ·simp [h]
 ·simp [h]
theorem xZ {α:Type} {f:α->Int}:∀{l:List α} {i:Nat} (h:i<l.length),(∀j (hj:j<i),f (l[j]'(by omega))=0)->f l[i]≠0->dT f l=f l[i]
 |x::l,0,_,_,h2=>by rw [wM];exact zn h2
 |x::l,i+1,h,h1,h2=>by
  rw [wM,zp (show f x=0 from h1 0 (by omega))]
  exact xZ (l:=l) (Nat.lt_of_succ_lt_succ h) (λj hj=>h1 (j+1) (by omega)) h2
section
variable (sh:Cl->Vl) (ex:Tb->List Vl->Int)
def aFj (l:Ln):List Vl:=l.cells_.map sh
def eP (b:Bs) (k:Int):List (List Vl):=(aN b k).map (aFj sh)
def dY (c:Co):Int:=if c.kind=0\/c.kind=1 then c.type_ else if c.kind=2\/c.kind=3 then 1 else if c.kind=4 then 2 else 0
def lC (c:Co) (v:Vl):Int:=if bB v=false then 1 else if v.kind=0/\(c.kind=0\/c.kind=1)/\c.null=false then 7 else if v.kind≠0/\v.kind≠dY c then 6 else 0
def eG (t:Tb) (r:List Vl):Int:=if t.cols.length=r.length then dT (λk=>lC t.cols[k]! r[k]!) (List.range r.length) else 1
def lO (u:Nat) (x y:List Vl):Bool:=(decide (x[u]!.kind=1)&&decide (y[u]!.kind=1))&&decide (x[u]!.n=y[u]!.n)
def jM (t:Tb) (rows:List (List Vl)):Bool:=t.unique.all λu=>decide (rows.Pairwise λx y=>lO u.toNat x y=false)
def tI (b:Bs) (t:Tb) (rows:List (List Vl)):Bool:=t.foreign.all λf=>rows.all λr=> !decide (r[f.col.toNat]!.kind=1)||(eD (aN b f.table) r[f.col.toNat]!.n).isSome
def abQ (m:Su) (g:Int) (r:List Vl):Int:=if r[m.by_.toNat]!.kind=1/\r[m.by_.toNat]!.n=g/\r[m.col.toNat]!.kind=1 then r[m.col.toNat]!.n else 0
def kL (m:Su) (g:Int) (rows:List (List Vl)):Int:=(rows.map (abQ m g)).sum
def ahD (m:Su) (r:List Vl):Bool:=decide (r[m.col.toNat]!.kind=1)&&decide (r[m.col.toNat]!.n<0)
def vA (t:Tb) (rows:List (List Vl)):Bool:=t.sums.all λm=>rows.all λr=> !ahD m r&&(!decide (r[m.by_.toNat]!.kind=1)||decide (kL m r[m.by_.toNat]!.n rows<=m.max))
def ckT (b:Bs) (t:Tb) (rows:List (List Vl)):Int:=
 if dT (eG t) rows≠0 then dT (eG t) rows else if jM t rows=false then 8 else if dT (ex t) rows≠0 then dT (ex t) rows else if tI b t rows=false then 10 else if vA t rows=false then 11 else 0
def ckW (s:Sc) (b:Bs):Int:=dT (λk:Nat=>ckT ex b s[k]! (eP sh b k)) (List.range s.length)
structure GoodT (b:Bs) (t:Tb) (rows:List (List Vl)):Prop where
 typ:∀r∈rows,eG t r=0
 uniq:∀u∈t.unique,rows.Pairwise λx y=>lO u.toNat x y=false
 chk:∀r∈rows,ex t r=0
 frn:∀f∈t.foreign,∀r∈rows,r[f.col.toNat]!.kind=1->(eD (aN b f.table) r[f.col.toNat]!.n).isSome=true
 neg:∀m∈t.sums,∀r∈rows,ahD m r=false
 max:∀m∈t.sums,∀r∈rows,r[m.by_.toNat]!.kind=1->kL m r[m.by_.toNat]!.n rows<=m.max
variable {sh} {ex}
theorem arF {m:Su} {g:Int} {r r':List (List Vl)} (h:List.Sublist r' r) (hn:∀x∈r,ahD m x=false):kL m g r'<=kL m g r:=by
 have hp:∀x∈r,0<=abQ m g x:=λx hx=>by
  have:=hn x hx
  unfold ahD at this
  unfold abQ
  split
  ·rename_i q
   rw [decide_eq_true q.2.2,Bool.true_and,decide_eq_false_iff_not] at this
   omega
  ·exact Int.le_refl _
 clear hn
 induction h with
 |slnil=>exact Int.le_refl _
 | @cons l₁ l₂ a _ ih=>
  have h1:=ih λx hx=>hp x (List.mem_cons_of_mem _ hx)
  have h2:=hp a (List.mem_cons_self ..)
  unfold kL at*
  rw [zmp,List.sum_cons];omega
 | @cons_cons l₁ l₂ a _ ih=>
  have h1:=ih λx hx=>hp x (List.mem_cons_of_mem _ hx)
  unfold kL at*
  rw [zmp,zmp,List.sum_cons,List.sum_cons];omega
theorem GoodT.less {b b':Bs} {t:Tb} {rows rows':List (List Vl)} (h:GoodT ex b t rows) (hs:List.Sublist rows' rows) (hf:∀f∈t.foreign,∀r∈rows',r[f.col.toNat]!.kind=1->(eD (aN b f.table) r[f.col.toNat]!.n).isSome=true->(eD (aN b' f.table) r[f.col.toNat]!.n).isSome=true):GoodT ex b' t rows':=
 ⟨λr hr=>h.typ r (hs.subset hr),λu hu=>(h.uniq u hu).sublist hs,λr hr=>h.chk r (hs.subset hr),λf hf' r hr hk=>hf f hf' r hr hk (h.frn f hf' r (hs.subset hr) hk),λm hm r hr=>h.neg m hm r (hs.subset hr),λm hm r hr hk=>Int.le_trans (arF hs (h.neg m hm)) (h.max m hm r (hs.subset hr) hk)⟩
end
end
section
set_option maxRecDepth 10000
set_option maxHeartbeats 4000000
structure FrOK (s:Sc) (t:Tb) (f:Fr):Prop where
 c1:1<=f.col
 c2:f.col<t.cols.length
 t1:0<=f.table
 t2:f.table<s.length
 act:f.act=0\/f.act=1\/f.act=2
 kind:t.cols[f.col.toNat]!.kind=0
 typ:t.cols[f.col.toNat]!.type_=1
theorem aaE {h b p a n z:Bool} (e:alN h b p a n z=0):h=true/\b=false/\p=false/\a=false/\n=true/\z=false:=by
 unfold alN at e
 cases h<;>cases b<;>cases p<;>cases a<;>cases n<;>cases z<;>simp at e⊢
theorem asH {s:Sc} (h:cM s=0) {k:Nat} (hk:k<s.length) {i:Nat} (hi:i<s[k].foreign.length):anY s.length s[k] i=0:=by
 have:=fM h hk (lk5 s.length s[k]!) (by simp [lks])
 rw [getElem!_pos s k hk] at this
 exact nJ this hi
theorem aAM {s:Sc} (h:cM s=0) {k:Nat} (hk:k<s.length) {f:Fr} (hf:f∈s[k].foreign):FrOK s s[k] f:=by
 obtain ⟨i,hi,rfl⟩:=zgo hf
 have e:=aaE (asH h hk hi)
 rw [getElem!_pos s[k].foreign i hi] at e
 obtain ⟨e1,e2,_,e4,e5,_⟩:=e
 unfold oN at e1
 unfold mA kQ at e5
 simp only [zba,zde,Bool.or_eq_false_iff,decide_eq_false_iff_not] at e1 e2 e4 e5
 exact ⟨by omega,e1.2,by omega,by omega,by omega,e5.1,e5.2⟩
theorem aqV {s:Sc} (h:cM s=0) {k:Nat} (hk:k<s.length):∀(j i:Nat) (hj:j<s[k].foreign.length) (hij:i<j),s[k].foreign[i].col<s[k].foreign[j].col:=by
 intro j
 induction j with
 |zero=>intro i _ h;omega
 |succ j ih=>
  intro i hj hij
  have e:=aaE (asH h hk hj)
  have e3:=e.2.2.1
  rw [show j+1-1=j from rfl,getElem!_pos s[k].foreign (j+1) hj,getElem!_pos s[k].foreign j (by omega)] at e3
  simp only [Nat.zero_lt_succ,decide_true,Bool.true_and,decide_eq_false_iff_not] at e3
  rcases zls.1 hij with q|q
  ·have:=ih i (by omega) q;omega
  ·subst q;omega
theorem aE0 {s:Sc} (h:cM s=0) {k:Nat} (hk:k<s.length) (i j:Nat) (hi:i<s[k].foreign.length) (hj:j<s[k].foreign.length) (e:s[k].foreign[i].col=s[k].foreign[j].col):i=j:=by
 rcases Nat.lt_trichotomy i j with q|q|q
 ·have:=aqV h hk j i hj q;omega
 ·exact q
 ·have:=aqV h hk i j hi q;omega
theorem axI {s:Sc} (h:cM s=0):s.length<=16:=by
 unfold cM at h
 split at h
 ·cases h
 ·omega
theorem aoW {s:Sc} (h:cM s=0) {k:Nat} (hk:k<s.length):s[k].foreign.length<=16:=by
 have:=fM h hk (lk1 s[k]!) (by simp [lks])
 rw [getElem!_pos s k hk] at this
 unfold lk1 at this
 split at this
 ·cases this
 ·omega
variable {tx:Cl->Int}
structure LineOK (tx:Cl->Int) (t:Tb) (l:Ln):Prop where
 k1:0<=l.key
 k2:l.key<1073741824
 len:l.cells_.length=t.cols.length
 kind:∀j (h:j<l.cells_.length),l.cells_[j].kind=t.cols[j]!.kind
 cell:∀c∈l.cells_,jV tx c=true
 zero:l.cells_[0]!.val=⟨1,l.key,e0⟩
 dots:wT l.by_=true
theorem yB {t:Tb} {l:Ln}:jY tx t l=true↔LineOK tx t l:=by
 unfold jY rN
 simp only [zba,zde,pQ]
 constructor
 ·rintro ⟨⟨⟨h1,h2,h3⟩,h4⟩,h5,h6⟩
  have hc:∀j (h:j<l.cells_.length),l.cells_[j].kind=t.cols[j]!.kind/\jV tx l.cells_[j]=true:=λj hj=>by
   have:=h5 j hj
   unfold xJ at this
   rw [getElem!_pos l.cells_ j hj,zba,zde] at this
   exact this
  exact ⟨h1,h2,h3,λj hj=>(hc j hj).1,λc hc'=>by obtain ⟨j,hj,rfl⟩:=zgo hc';exact (hc j hj).2,h4,h6⟩
 ·rintro ⟨h1,h2,h3,h4,h5,h6,h7⟩
  refine ⟨⟨⟨h1,h2,h3⟩,h6⟩,λj hj=> ?_,h7⟩
  unfold xJ
  rw [getElem!_pos l.cells_ j hj,h4 j hj,decide_eq_true rfl,h5 _ (zgm hj)];rfl
theorem vZ {s:Sc} {b:Bs} (h:cE tx s b=true) {k:Nat} (hk:k<b.length) {l:Ln} (hl:l∈b[k].lines):LineOK tx s[k]! l:=by
 have:=(bU.1 h).2 k hk
 rw [getElem!_pos b k hk] at this
 exact yB.1 ((gA.1 this).2.1 l hl)
end
section
set_option maxRecDepth 10000
set_option maxHeartbeats 4000000
section
variable {sh:Cl->Vl} {ex:Tb->List Vl->Int} {tx:Cl->Int}
theorem aqF {t:Tb} {r:List Vl} (h:eG t r=0):r.length=t.cols.length:=by
 unfold eG at h
 split at h
 ·omega
 ·cases h
theorem GoodT.apart {b:Bs} {t:Tb} {rows:List (List Vl)} (h:GoodT ex b t rows) {u:Int} (hu:u∈t.unique) {i j:Nat} (hij:i<j) (hj:j<rows.length) (hk:(rows[i]'(by omega))[u.toNat]!.kind=1):(rows[i]'(by omega))[u.toNat]!≠rows[j][u.toNat]!:=λe=>by
 have:=List.pairwise_iff_getElem.1 (h.uniq u hu) i j (by omega) hj hij
 unfold lO at this
 rw [<-e,hk] at this
 simp at this
theorem aFp {m:Su} {g:Int} {r:List (List Vl)} (hn:∀x∈r,ahD m x=false):0<=kL m g r:=by
 have:=arF (m:=m) (g:=g) (List.nil_sublist r) hn
 simpa [kL] using this
theorem alP {m:Su} {g:Int}:∀{r:List (List Vl)},(∀x∈r,¬(x[m.by_.toNat]!.kind=1/\x[m.by_.toNat]!.n=g))->kL m g r=0
 |[],_=>rfl
 |x::r,h=>by
  have h1:=alP (m:=m) (g:=g) λy hy=>h y (List.mem_cons_of_mem _ hy)
  have h2:abQ m g x=0:=by
   unfold abQ
   rw [zn λq=>h x (List.mem_cons_self ..) ⟨q.1,q.2.1⟩]
  unfold kL at*
  rw [zmp,List.sum_cons,h2,h1];rfl
theorem GoodT.tot {b:Bs} {t:Tb} {rows:List (List Vl)} (h:GoodT ex b t rows) {m:Su} (hm:m∈t.sums) (h0:0<=m.max) (g:Int):0<=kL m g rows/\kL m g rows<=m.max:=by
 refine ⟨aFp (h.neg m hm), ?_⟩
 by_cases hx:∃x∈rows,x[m.by_.toNat]!.kind=1/\x[m.by_.toNat]!.n=g
 ·obtain ⟨x,hx,h1,h2⟩:=hx
  rw [<-h2];exact h.max m hm x hx h1
 ·rw [alP λx hx' q=>hx ⟨x,hx',q⟩];exact h0
theorem GoodT.nil {b:Bs} {t:Tb}:GoodT ex b t []:=⟨λ_ h=>(by cases h),λ_ _=> .nil,λ_ h=>(by cases h),λ_ _ _ h=>(by cases h),λ_ _ _ h=>(by cases h),λ_ _ _ h=>(by cases h)⟩
end
end
section
set_option maxRecDepth 10000
set_option maxHeartbeats 4000000
section
variable {sh:Cl->Vl} {ex:Tb->List Vl->Int} {tx:Cl->Int}
end
end
section
set_option maxRecDepth 10000
set_option maxHeartbeats 4000000
section
variable {tx:Cl->Int} {sh:Cl->Vl}
structure SuOK (t:Tb) (m:Su):Prop where
 c1:1<=m.col
 c2:m.col<t.cols.length
 b1:1<=m.by_
 b2:m.by_<t.cols.length
 m0:0<=m.max
 m1:m.max<=1099511627776
 kc:t.cols[m.col.toNat]!.kind=0
 kb:t.cols[m.by_.toNat]!.kind=0
structure UnOK (t:Tb) (u:Int):Prop where
 c1:1<=u
 c2:u<t.cols.length
 kc:t.cols[u.toNat]!.kind=0
theorem amK {h a n p:Bool} (e:alC h a n p=0):h=true/\a=false/\n=true:=by
 unfold alC at e
 cases h<;>cases a<;>cases n<;>cases p<;>simp at e⊢
theorem apB {h p n:Bool} (e:akJ h p n=0):h=true/\n=true:=by
 unfold akJ at e
 cases h<;>cases n<;>cases p<;>simp at e⊢
theorem aFW {s:Sc} (h:cM s=0) {k:Nat} (hk:k<s.length) {m:Su} (hm:m∈s[k].sums):SuOK s[k] m:=by
 obtain ⟨i,hi,rfl⟩:=zgo hm
 have:=fM h hk (lk6 s[k]!) (by simp [lks])
 rw [getElem!_pos s k hk] at this
 have e:ajY s[k] i=0:=nJ this hi
 unfold ajY at e
 rw [getElem!_pos s[k].sums i hi] at e
 obtain ⟨e1,e2,e3⟩:=amK e
 unfold oN at e1
 unfold mA kQ at e3
 simp only [zba,zde,Bool.or_eq_false_iff,decide_eq_false_iff_not] at e1 e2 e3
 exact ⟨e1.1.1,e1.1.2,e1.2.1,e1.2.2,by omega,by omega,e3.1.1,e3.2.1⟩
theorem aFR {s:Sc} (h:cM s=0) {k:Nat} (hk:k<s.length) {u:Int} (hu:u∈s[k].unique):UnOK s[k] u:=by
 obtain ⟨i,hi,rfl⟩:=zgo hu
 have:=fM h hk (lk4 s[k]!) (by simp [lks])
 rw [getElem!_pos s k hk] at this
 have e:aiF s[k] i=0:=nJ this hi
 unfold aiF at e
 rw [getElem!_pos s[k].unique i hi] at e
 obtain ⟨e1,e2⟩:=apB e
 unfold oN at e1
 unfold mA kQ at e2
 simp only [zba,zde] at e1 e2
 exact ⟨e1.1,e1.2,e2.1⟩
theorem yJ {b:Bs} {k:Nat} (hk:k<b.length):aN b k=b[k].lines:=by
 unfold aN okT
 rw [zp (by simp;omega),Int.toNat_natCast,getElem!_pos b k hk]
structure RwOK (t:Tb) (r:List Vl):Prop where
 len:r.length=t.cols.length
 num:∀j<t.cols.length,t.cols[j]!.kind=0->bB r[j]! =true
theorem aoJ (hsh:∀c:Cl,c.kind=0->sh c=c.val) {s:Sc} {b:Bs} (hg:cE tx s b=true) {k:Nat} (hk:k<s.length) {r:List Vl} (hr:r∈eP sh b k):RwOK s[k] r:=by
 obtain ⟨⟨h1,h2⟩,_⟩:=bU.1 hg
 have hkb:k<b.length:=by omega
 obtain ⟨l,hl,rfl⟩:=List.mem_map.1 hr
 rw [yJ hkb] at hl
 have hL:=vZ hg hkb hl
 rw [getElem!_pos s k hk] at hL
 have hlen:=hL.len
 refine ⟨by unfold aFj;rw [zql];exact hlen,λj hj h0=> ?_⟩
 have hjc:j<l.cells_.length:=by omega
 have hc:=hL.cell _ (zgm hjc)
 have hkd:=hL.kind j hjc
 rw [h0] at hkd
 unfold aFj
 rw [getElem!_pos _ j (by rw [zql];exact hjc),List.getElem_map,hsh _ hkd]
 unfold jV at hc
 rw [zp hkd,zba] at hc
 exact hc.1
theorem aBG {v:Vl} (h:bB v=true):(-1099511627776<=v.n/\v.n<=1099511627776)/\(v.kind≠1->v.n=0):=by
 unfold bB at h
 split at h
 ·simp only [zba,zde] at h;omega
 ·split at h
  ·simp only [zba,zde] at h;omega
  ·split at h
   ·simp only [zba,zde] at h;omega
   ·cases h
def afP (m:Su) (es:List (Int×Int)) (r:List Vl):List (Int×Int):=if r[m.by_.toNat]!.kind=1 then cX r[m.by_.toNat]!.n ((bW r[m.by_.toNat]!.n es).getD 0+r[m.col.toNat]!.n) es else es
def mS (m:Su) (rows:List (List Vl)):List (Int×Int):=rows.foldl (afP m) []
theorem aeR {V:Type} (k k':Int) (v:V):∀(l:List (Int×V)),bW k' (cX k v l)=if k'=k then some v else bW k' l
 |[]=>by simp only [cX,bW]
 |e::l=>by
  have ih:=aeR k k' v l
  simp only [cX]
  split
  ·rename_i h;simp only [bW];split<;>simp_all
  ·rename_i h;simp only [bW,ih];split
   ·rename_i h2;rw [zn (λe=>h (by rw [<-e,h2]))]
   ·rfl
theorem aDT {V:Type} {k:Int} {v:V}:∀{l:List (Int×V)},(l.map (·.1)).Nodup->(k,v)∈l->bW k l=some v
 |e::l,hn,h=>by
  simp only [zmp,List.nodup_cons] at hn
  simp only [bW]
  rcases zmc.1 h with rfl|h
  ·rw [zp rfl]
  ·rw [zn (λq=>hn.1 (List.mem_map.2 ⟨_,h,q⟩))];exact aDT hn.2 h
theorem aAT {V:Type} {k:Int} {v:V}:∀{l:List (Int×V)},bW k l=some v->(k,v)∈l
 |[],h=>by simp [bW] at h
 |e::l,h=>by
  simp only [bW] at h
  split at h
  ·rename_i q;injection h with h;subst h;rw [q];exact List.mem_cons_self ..
  ·exact List.mem_cons_of_mem _ (aAT h)
theorem abM {V:Type} (k:Int) (v:V):∀(l:List (Int×V)),∀k',k'∈(cX k v l).map (·.1)->k'=k\/k'∈l.map (·.1)
 |[],k',h=>by simp [cX] at h;exact .inl h
 |e::l,k',h=>by
  simp only [cX] at h
  split at h
  ·rename_i q
   simp only [zmp,zmc] at h⊢
   rcases h with h|h
   ·exact .inl (h.trans (by first|rfl|exact q.symm))
   ·exact .inr (.inr h)
  ·simp only [zmp,zmc] at h⊢
   exact h.elim (λq=> .inr (.inl q)) λq=>(abM k v l k' q).elim .inl λq=> .inr (.inr q)
theorem aqW {V:Type} (k:Int) (v:V):∀(l:List (Int×V)),(l.map (·.1)).Nodup->((cX k v l).map (·.1)).Nodup
 |[],_=>by simp [cX]
 |e::l,h=>by
  simp only [zmp,List.nodup_cons] at h
  simp only [cX]
  split
  ·rename_i q
   simp only [zmp,List.nodup_cons]
   exact ⟨by first|exact h.1|(rw [q];exact h.1),h.2⟩
  ·rename_i q
   simp only [zmp,List.nodup_cons]
   exact ⟨λx=>(abM k v l _ x).elim (λy=>q y.symm) h.1,aqW k v l h.2⟩
theorem aAq (m:Su):∀(rows:List (List Vl)) (es:List (Int×Int)),(es.map (·.1)).Nodup->((rows.foldl (afP m) es).map (·.1)).Nodup
 |[],_,h=>h
 |r::rows,es,h=>aAq m rows _ (by
  unfold afP
  split
  ·exact aqW _ _ _ h
  ·exact h)
theorem ahA (m:Su) (g:Int) (r:List Vl) (rows:List (List Vl)):kL m g (r::rows)=abQ m g r+kL m g rows:=by unfold kL;rw [zmp,List.sum_cons]
def azC (m:Su) (rows:List (List Vl)):Prop:=∀r∈rows,r[m.col.toNat]!.kind≠1->r[m.col.toNat]!.n=0
theorem afT {m:Su} (g:Int):∀{rows:List (List Vl)} (es:List (Int×Int)),azC m rows->(bW g (rows.foldl (afP m) es)).getD 0=(bW g es).getD 0+kL m g rows
 |[],es,_=>by simp [kL]
 |r::rows,es,h=>by
  have ih:=afT g (rows:=rows) (afP m es r) λx hx=>h x (List.mem_cons_of_mem _ hx)
  have h0:=h r (List.mem_cons_self ..)
  rw [List.foldl_cons,ih,ahA]
  unfold afP abQ
  by_cases hk:r[m.by_.toNat]!.kind=1
  ·rw [zp hk,aeR]
   by_cases hg:r[m.by_.toNat]!.n=g
   ·rw [zp hg.symm,hg]
    by_cases hc:r[m.col.toNat]!.kind=1
    ·rw [zp ⟨hk,rfl,hc⟩];simp only [Option.getD_some];omega
    ·rw [zn λq=>hc q.2.2,h0 hc];simp only [Option.getD_some];omega
   ·rw [zn (λq=>hg q.symm),zn λq=>hg q.2.1];omega
  ·rw [zn hk,zn λq=>hk q.1];omega
theorem alA {m:Su} (g:Int):∀{rows:List (List Vl)} (es:List (Int×Int)),(bW g (rows.foldl (afP m) es)).isSome=true↔((bW g es).isSome=true\/∃r∈rows,r[m.by_.toNat]!.kind=1/\r[m.by_.toNat]!.n=g)
 |[],es=>by simp
 |r::rows,es=>by
  rw [List.foldl_cons,alA g (rows:=rows) (afP m es r)]
  unfold afP
  by_cases hk:r[m.by_.toNat]!.kind=1
  ·rw [zp hk,aeR]
   by_cases hg:g=r[m.by_.toNat]!.n
   ·rw [zp hg]
    exact ⟨λ_=> .inr ⟨r,List.mem_cons_self ..,hk,hg.symm⟩,λ_=> .inl rfl⟩
   ·rw [zn hg]
    constructor
    ·rintro (q|⟨x,hx,q⟩)
     ·exact .inl q
     ·exact .inr ⟨x,List.mem_cons_of_mem _ hx,q⟩
    ·rintro (q|⟨x,hx,q⟩)
     ·exact .inl q
     ·rcases zmc.1 hx with rfl|hx
      ·exact absurd q.2.symm hg
      ·exact .inr ⟨x,hx,q⟩
  ·rw [zn hk]
   constructor
   ·rintro (q|⟨x,hx,q⟩)
    ·exact .inl q
    ·exact .inr ⟨x,List.mem_cons_of_mem _ hx,q⟩
   ·rintro (q|⟨x,hx,q⟩)
    ·exact .inl q
    ·rcases zmc.1 hx with rfl|hx
     ·exact absurd q.1 hk
     ·exact .inr ⟨x,hx,q⟩
def sE (m:Su) (rows:List (List Vl)):Bool:=rows.all λr=>decide (r[m.col.toNat]!.n>=0)
theorem asT {m:Su} {rows:List (List Vl)} (h:azC m rows):(sE m rows&&(mS m rows).all λe=>decide (e.2<=m.max))=rows.all λr=> !ahD m r&&(!decide (r[m.by_.toNat]!.kind=1)||decide (kL m r[m.by_.toNat]!.n rows<=m.max)):=by
 have hget:=λg=>afT (m:=m) g (rows:=rows) [] h
 have hsome:=λg=>alA (m:=m) g (rows:=rows) []
 have hnd:=aAq m rows [] (by simp)
 change ∀g,(bW g (mS m rows)).getD 0=_ at hget
 change ∀g,(bW g (mS m rows)).isSome=true↔_ at hsome
 change ((mS m rows).map (·.1)).Nodup at hnd
 simp only [bW,Option.getD_none,Option.isSome_none,Bool.false_eq_true,false_or] at hget hsome
 rw [Bool.eq_iff_iff,zba]
 unfold sE
 simp only [zal,zba,Bool.or_eq_true,Bool.not_eq_true',zde,decide_eq_false_iff_not]
 have hneg:∀r∈rows,ahD m r=false↔r[m.col.toNat]!.n>=0:=λr hr=>by
  unfold ahD
  by_cases hc:r[m.col.toNat]!.kind=1
  ·rw [decide_eq_true hc,Bool.true_and,decide_eq_false_iff_not];omega
  ·rw [decide_eq_false hc,h r hr hc];simp
 constructor
 ·rintro ⟨h1,h2⟩ r hr
  refine ⟨(hneg r hr).2 (h1 r hr), ?_⟩
  by_cases hk:r[m.by_.toNat]!.kind=1
  ·right
   have hs:=(hsome r[m.by_.toNat]!.n).2 ⟨r,hr,hk,rfl⟩
   obtain ⟨v,hv⟩:=Option.isSome_iff_exists.1 hs
   have:=h2 _ (aAT hv)
   have e:=hget r[m.by_.toNat]!.n
   rw [hv] at e
   simp only [Option.getD_some] at e this
   omega
  ·exact .inl hk
 ·intro q
  refine ⟨λr hr=>(hneg r hr).1 (q r hr).1,λe he=> ?_⟩
  obtain ⟨k,v⟩:=e
  have hv:=aDT hnd he
  have e:=hget k
  rw [hv] at e
  simp only [Option.getD_some] at e⊢
  obtain ⟨r,hr,hk,rfl⟩:=(hsome k).1 (by rw [hv];rfl)
  have:=(q r hr).2.resolve_left λz=>z hk
  omega
def aEF (u:Nat) (es:List (Int×Bool)) (r:List Vl):List (Int×Bool):=if r[u]!.kind=1 then cX r[u]!.n true es else es
def anA (u:Nat) (rows:List (List Vl)):List (Int×Bool):=rows.foldl (aEF u) []
theorem aqL (u:Nat) (g:Int):∀(rows:List (List Vl)) (es:List (Int×Bool)),(bW g (rows.foldl (aEF u) es)).getD false=((bW g es).getD false||rows.any λr=>decide (r[u]!.kind=1)&&decide (r[u]!.n=g))
 |[],es=>by simp
 |r::rows,es=>by
  rw [List.foldl_cons,aqL u g rows,List.any_cons]
  unfold aEF
  by_cases hk:r[u]!.kind=1
  ·rw [zp hk,aeR]
   by_cases hg:g=r[u]!.n
   ·rw [zp hg,decide_eq_true hk,decide_eq_true hg.symm];simp
   ·rw [zn hg,decide_eq_false (show ¬r[u]!.n=g from λq=>hg q.symm)];simp
  ·rw [zn hk,decide_eq_false hk];simp
theorem ayP (u:Nat) (g:Int) (rows:List (List Vl)):(bW g (anA u rows)).getD false=rows.any λr=>decide (r[u]!.kind=1)&&decide (r[u]!.n=g):=by
 have:=aqL u g rows []
 simp only [bW,Option.getD_none,Bool.false_or] at this
 exact this
theorem aDD (u:Nat) {rows:List (List Vl)} {k:Nat} (h:k<rows.length):anA u (rows.take (k+1))=if rows[k][u]!.kind=1 then cX rows[k][u]!.n true (anA u (rows.take k)) else anA u (rows.take k):=by
 unfold anA
 rw [List.take_succ_eq_append_getElem h,List.foldl_append];rfl
theorem aCr (m:Su) {rows:List (List Vl)} {k:Nat} (h:k<rows.length):mS m (rows.take (k+1))=if rows[k][m.by_.toNat]!.kind=1 then cX rows[k][m.by_.toNat]!.n ((bW rows[k][m.by_.toNat]!.n (mS m (rows.take k))).getD 0+rows[k][m.col.toNat]!.n) (mS m (rows.take k)) else mS m (rows.take k):=by
 unfold mS
 rw [List.take_succ_eq_append_getElem h,List.foldl_append];rfl
def pwU (u:Nat) (rows:List (List Vl)):Prop:=rows.Pairwise λx y=>lO u x y=false
theorem aGr {u:Nat} {rows:List (List Vl)} {k:Nat} (h:k<rows.length):pwU u (rows.take (k+1))↔pwU u (rows.take k)/\(rows[k][u]!.kind=1->((rows.take k).any λr=>decide (r[u]!.kind=1)&&decide (r[u]!.n=rows[k][u]!.n))=false):=by
 unfold pwU
 rw [List.take_succ_eq_append_getElem h,List.pairwise_append]
 constructor
 ·rintro ⟨h1,_,h3⟩
  refine ⟨h1,λhk=> ?_⟩
  rw [List.any_eq_false]
  intro x hx q
  have:=h3 x hx rows[k] (by simp)
  unfold lO at this
  simp only [zba,zde] at q
  rw [decide_eq_true q.1,decide_eq_true hk,decide_eq_true q.2] at this
  cases this
 ·rintro ⟨h1,h2⟩
  refine ⟨h1,List.pairwise_singleton ..,λx hx y hy=> ?_⟩
  rw [zms] at hy
  subst hy
  by_cases hk:rows[k][u]!.kind=1
  ·have:=List.any_eq_false.1 (h2 hk) x hx
   unfold lO
   rw [decide_eq_true hk]
   simpa using this
  ·unfold lO
   rw [decide_eq_false hk];simp
theorem ayB {t:Tb} {rows:List (List Vl)} (h:∀j (hj:j<t.unique.length),pwU t.unique[j].toNat rows):jM t rows=true:=by
 unfold jM
 rw [zal]
 intro u hu
 obtain ⟨j,hj,rfl⟩:=zgo hu
 exact decide_eq_true (h j hj)
theorem aCF {t:Tb} {rows:List (List Vl)} {j k:Nat} (hj:j<t.unique.length) (h:¬pwU t.unique[j].toNat (rows.take k)):jM t rows=false:=by
 unfold jM
 rw [<-Bool.not_eq_true,zal]
 intro q
 exact h ((of_decide_eq_true (q _ (zgm hj))).sublist (List.take_sublist ..))
theorem asR {f:Nat->Int} {n i:Nat} (h:i<n) (h1:∀j<i,f j=0) (h2:f i≠0):dT f (List.range n)=f i:=by
 have:=xZ (f:=f) (l:=List.range n) (i:=i) (by simpa using h) (λj hj=>by rw [List.getElem_range];exact h1 j hj) (by rw [List.getElem_range];exact h2)
 rwa [List.getElem_range] at this
theorem acR {f:Nat->Int} {n:Nat} (h:∀j<n,f j=0):dT f (List.range n)=0:=fP.2 λj hj=>h j (List.mem_range.1 hj)
theorem mY {α:Type} {f:α->Int} {l:List α} (h:∀j (hj:j<l.length),f l[j]=0):dT f l=0:=fP.2 λx hx=>by
 obtain ⟨j,hj,rfl⟩:=zgo hx
 exact h j hj
theorem sN {α:Type} {f:α->Int} {l:List α} {i:Nat} (hI:∀j (h:j<l.length),j<i->f l[j]=0) (h:i<l.length) (hf:f l[i]=0):∀j (h:j<l.length),j<i+1->f l[j]=0:=λj hj hji=>by
 rcases zls.1 hji with q|q
 ·exact hI j hj q
 ·subst q;exact hf
theorem sR {α:Type} {f:α->Int} {l:List α} {i:Nat} (hI:∀j (h:j<l.length),j<i->f l[j]=0) (h:i<l.length) (hf:f l[i]≠0):dT f l=f l[i]:=xZ h (λj hj=>hI j (by omega) hj) hf
end
end
section
attribute [local irreducible] Ev PWp
set_option maxRecDepth 10000
set_option maxHeartbeats 4000000
theorem anD (c:Co):PF Tryz.prog 274 [.agg c.cells] (.val (.int .i64 (dY c))):=by
 unfold dY
 refine aG aF Tryz.func274 (by kernel_rfl) rfl rfl rfl rfl (λst=> ?_)
 (try apply wO pk;rfl);(repeat' first|show Cn _;constructor|apply wC pk;rfl;rfl|refine aB rfl ?_ ?_<;>intro h<;>(try simp at h)<;>try omega|(refine aC ?_;refine ⟨_,_,_,rfl,zwr _,zsr _, ?_,rfl⟩;try first|rfl|((simp [*];done));done))
theorem amR (c:Co) (v:Vl):PF Tryz.prog 179 [.agg c.cells, .agg v.cells] (.val (.int .i64 (lC c v))):=by
 have hv:=iX v
 have hk:=anD c
 unfold lC
 generalize bB v=A at*
 generalize dY c=K at*
 refine aG aF Tryz.func179 (by kernel_rfl) rfl rfl rfl rfl (λst=> ?_)
 (try apply wO pk;rfl);(repeat' first|show Cn _;constructor|apply wC pk;rfl;rfl|apply wE pk;rfl;rfl|apply wD pk [] [];kernel_rfl;rfl;rfl|refine aB rfl ?_ ?_<;>intro h<;>(try simp at h)<;>try omega|(refine aC ?_;refine ⟨_,_,_,rfl,zwr _,zsr _, ?_,rfl⟩;try first|rfl|(first|simp [*];done|grind);done)|(apply aH;rfl;rfl;rfl;(intro _;(first|apply hv|apply hk)<;>first|assumption|omega);rotate_left;rfl;rfl))
theorem adO (t:Tb) (r:List Vl) (hc:t.cols.length<1000000000000000) (hr:r.length<1000000000000000):PF Tryz.prog 105 [.seq (t.cols.map Co.cells), .seq (r.map Vl.cells)] (.val (.int .i64 (eG t r))):=by
 unfold eG
 by_cases hl:¬t.cols.length=r.length
 ·rw [zn hl]
  refine aG aF Tryz.func105 (by kernel_rfl) rfl rfl rfl rfl (λst=> ?_)
  (try apply wO pk;rfl);(repeat' first|show Cn _;constructor|apply wC pk;rfl;rfl|refine aB rfl ?_ ?_<;>intro h<;>(try simp at h)<;>try omega|(refine aC ?_;refine ⟨_,_,_,rfl,zwr _,zsr _, ?_,rfl⟩;try first|rfl|(fail);done))
 replace hl:=zdn hl
 rw [zp hl]
 refine aG aF Tryz.func105 (by kernel_rfl) rfl rfl rfl rfl (λst=> ?_)
 focus ((try apply wO pk;rfl);(repeat' first|show Cn _;constructor|apply wC pk;rfl;rfl|refine aB rfl ?_ ?_<;>intro h<;>(try simp at h)<;>try omega))
 refine aK (X:={x:Nat//x<=r.length/\∀j<x,lC t.cols[j]! r[j]! =0}) (λi=>(((((St.nil 30 st).pv 0 (.seq (t.cols.map Co.cells))).pv 13 (.seq (r.map Vl.cells))).pv 14 ((PV.val (Value.int .i64 ((((r.map Vl.cells)).length:Nat)))))).pv 15 ((PV.val (Value.int .i64 ((i.1:Nat))))))) (λi=>r.length-i.1) ⟨0,by omega,by omega⟩ ?_ (λi=> ?_)
 ·((repeat refine Sub.pv ?_ rfl);exact Sub.nil _ _ _ (zsr _) rfl)
 obtain ⟨i,hi,hI⟩:=i
 dsimp only
 by_cases hend:r.length<=i
 ·have e:dT (λk=>lC t.cols[k]! r[k]!) (List.range r.length)=0:=acR λj hj=>hI j (by omega)
  (try apply wO pk;rfl);(repeat' first|show Cn _;constructor|apply wC pk;rfl;rfl|refine aB rfl ?_ ?_<;>intro h<;>(try simp at h)<;>try omega|(refine aC ?_;refine ⟨_,_,_,rfl,zwr _,zsr _, ?_,rfl⟩;try first|rfl|(rw [e]);done))
 have hil:i<r.length:=by omega
 have hic:i<t.cols.length:=by omega
 have hk:=amR t.cols[i] r[i]
 have e:=asR (f:=λk=>lC t.cols[k]! r[k]!) hil hI
 have hu:lC t.cols[i] r[i]=0->∀j<i+1,lC t.cols[j]! r[j]! =0:=λh j hj=>by
  rcases zls.1 hj with q|q
  ·exact hI j q
  ·subst q;rw [getElem!_pos t.cols j hic,getElem!_pos r j hil];exact h
 simp only [getElem!_pos t.cols i hic,getElem!_pos r i hil] at e
 generalize lC t.cols[i] r[i]=E at*
 (try apply wO pk;rfl);(repeat' first|show Cn _;constructor|apply wC pk;rfl;rfl|apply wE pk;rfl;rfl|apply wD pk [] [];kernel_rfl;rfl;rfl|refine aB rfl ?_ ?_<;>intro h<;>(try simp at h)<;>try omega|(refine aC ?_;refine ⟨_,_,_,rfl,zwr _,zsr _, ?_,rfl⟩;try first|rfl|(rw [e ‹_›]);done)|(apply aH;rfl;rfl;rfl;(intro _;apply hk<;>first|assumption|omega);rotate_left;rfl;rfl)|apply aP pk;(iterate 6 rfl);rotate_left;rfl;(intro hw;rfl);(intro hw;apply aJ<;>omega);(intro _;rfl);rfl|refine ⟨⟨i+1,by omega,hu ‹_›⟩, ?_,by simp only;omega⟩;((repeat refine Sub.pv ?_ rfl);exact Sub.nil _ _ _ (zsr _) rfl)|intros;(try simp only [zql]);omega)
end
section
set_option maxRecDepth 10000
set_option maxHeartbeats 4000000
def lZ (n:Int):PV:=(PV.val (Value.int .i64 (n)))
def Ie (k:Int):Value:= .int .i64 k
theorem aBq {g:G} (a:Int):VR Tryz.prog g 3 [.val (Ie a)] (Ie a):=⟨λh=>absurd (h.symm.trans (show bK Tryz.prog 3=false from by kernel_rfl)) (by simp),λ_=>by simp only [RepL];exact ⟨_,[],rfl,by simp [Rep],rfl⟩⟩
theorem zD :KeyOK Tryz.prog 3 Ie (λk=> .val (Ie k)) where
 und:=rfl
 chk k b w:=gJ (k:= .int .i64) (by kernel_rfl) rfl rfl b w
 now kd h a b:=by
  have hI:Tryz.prog.underlying 3=some (.int .i64):=by kernel_rfl
  have hkd:kd= .int .i64:=by
   rw [hI] at h
   injection h with h
   exact h.symm
  subst hkd
  right
  simp only [Ie,Instr.sameNow,if_true]
  congr 1
 eq a b w:=by
  have g:G:=⟨#[],λ_=>none,λ_=>0,λ_=>False⟩
  exact iQ aF (g:=g) 8 Op.maxDepth (by decide) 3 _ _ _ _ _ (show peq tt 8 3 [.val (Ie a)] [.val (Ie b)]=some (decide (a=b)) from rfl) (by kernel_rfl) (aBq a) (aBq b)
 rp k g v h:=aO h
 bits k:=aaY rfl
end
end Go.Proofs.YtloecjjehapblaaGreatDoor
namespace Go.Proofs.YtloecjjehapblaaGreatDoor.X
open Go Go.Abs
set_option maxRecDepth 10000
set_option maxHeartbeats 4000000
def v0 :Vl:=⟨0,0,e0⟩
inductive Ex where
 |mk (k n:Int) (v:Vl) (of:List Ex)
def Ex.k :Ex->Int| .mk k _ _ _=>k
def Ex.n :Ex->Int| .mk _ n _ _=>n
def Ex.v :Ex->Vl| .mk _ _ v _=>v
def Ex.of :Ex->List Ex| .mk _ _ _ o=>o
mutual
def Ex.cells :Ex->List PV
 | .mk k n v o=>[(PV.val (Value.int .i64 (k))),(PV.val (Value.int .i64 (n))),(PV.val (Value.int .i64 (v.kind))),(PV.val (Value.int .i64 (v.n))),(PV.val (Value.string (v.s))), .seq (Ex.rows o)]
def Ex.rows :List Ex->List (List PV)
 |[]=>[]
 |e::es=>e.cells::Ex.rows es
end
theorem Ex.rows_len :∀(l:List Ex),(Ex.rows l).length=l.length
 |[]=>rfl
 |e::es=>by simp [Ex.rows,Ex.rows_len es]
theorem Ex.rows_get :∀{l:List Ex} {i:Nat} {x:Ex},l[i]?=some x->(Ex.rows l)[i]?=some x.cells
 |[],_,_,h=>by simp at h
 |e::es,0,x,h=>by simp at h;simp [Ex.rows,h]
 |e::es,i+1,x,h=>by simp at h;simpa [Ex.rows] using Ex.rows_get h
theorem Ex.cells_len :∀(x:Ex),x.cells.length=6
 | .mk _ _ _ _=>by simp [Ex.cells]
mutual
def Ex.ok :Ex->Prop
 | .mk _ _ _ o=>o.length<2^62/\Ex.oks o
def Ex.oks :List Ex->Prop
 |[]=>True
 |e::es=>e.ok/\Ex.oks es
end
mutual
theorem Ex.ok_of :∀(e:Ex),mT e.cells->e.ok
 | .mk k n v o,h=>by
  simp only [Ex.cells,mT,lens,Ex.rows_len] at h
  simp only [Ex.ok]
  exact ⟨h.2.2.2.2.2.1.1,Ex.oks_of o h.2.2.2.2.2.1.2⟩
theorem Ex.oks_of :∀(l:List Ex),rE (Ex.rows l)->Ex.oks l
 |[],_=>by simp [Ex.oks]
 |e::es,h=>by
  simp only [Ex.rows,rE] at h
  simp only [Ex.oks]
  exact ⟨Ex.ok_of e h.1,Ex.oks_of es h.2⟩
end
theorem Ex.oks_mem :∀{l:List Ex} {x:Ex},Ex.oks l->x∈l->x.ok
 |[],_,_,hx=>by cases hx
 |e::es,x,h,hx=>by
  simp only [Ex.oks] at h
  rcases zmc.1 hx with rfl|hx
  ·exact h.1
  ·exact Ex.oks_mem h.2 hx
def jX (l:List Int):List (List PV):=l.map I1
theorem acZ {l:List Int} {i:Nat} {x:Int} (h:l[i]?=some x):(jX l)[i]?=some [(PV.val (Value.int .i64 (x)))]:=by simp [jX,h,I1]
theorem adY (l:List Int):(jX l).length=l.length:=by simp [jX]
theorem iK {α:Type} {l:List α} {i:Nat} (h:i<l.length):∃x,l[i]?=some x:=⟨l[i],by simp [h]⟩
end Go.Proofs.YtloecjjehapblaaGreatDoor.X
