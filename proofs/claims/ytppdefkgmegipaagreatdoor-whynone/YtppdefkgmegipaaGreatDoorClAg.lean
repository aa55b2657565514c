import Derived.Test.YtppdefkgmegipaaGreatDoorClAe
import Derived.Test.YtppdefkgmegipaaGreatDoorClAf
import Derived.Test.YtppdefkgmegipaaGreatDoorClAb
import Derived.Test.YtppdefkgmegipaaGreatDoorAbsE
set_option linter.unusedSimpArgs false
set_option linter.unusedVariables false
namespace Go.Proofs.YtppdefkgmegipaaGreatDoor
open Go Go.Abs
section
set_option maxRecDepth 10000
set_option maxHeartbeats 4000000
theorem uI {α:Type} {r:α->α->Prop} (tr:∀{a b c},r a b->r b c->r a c) (irr:∀{a},¬r a a):∀{l m:List α},l.Pairwise r->m.Pairwise r->(∀x,x∈l↔x∈m)->l=m
 |[],[],_,_,_=>rfl
 |[],b::m,_,_,h=>absurd ((h b).2 (by simp)) (by simp)
 |a::l,[],_,_,h=>absurd ((h a).1 (by simp)) (by simp)
 |a::l,b::m,h1,h2,h=>by
  have h1':=List.pairwise_cons.1 h1
  have h2':=List.pairwise_cons.1 h2
  have e:a=b:=by
   rcases zmc.1 ((h a).1 (by simp)) with q|q
   ·exact q
   rcases zmc.1 ((h b).2 (by simp)) with w|w
   ·exact w.symm
   exact absurd (tr (h2'.1 a q) (h1'.1 b w)) irr
  subst e
  refine congrArg (a:: ·) (uI (r:=r) tr irr h1'.2 h2'.2 λx=> ?_)
  constructor
  ·intro q
   rcases zmc.1 ((h x).1 (List.mem_cons_of_mem _ q)) with w|w
   ·subst w;exact absurd (h1'.1 x q) irr
   ·exact w
  ·intro q
   rcases zmc.1 ((h x).2 (List.mem_cons_of_mem _ q)) with w|w
   ·subst w;exact absurd (h2'.1 x q) irr
   ·exact w
def KSort (L:List Ln):Prop:=(L.map (·.key)).Pairwise (· < ·)
theorem KSort.at {L:List Ln} (h:KSort L) {i j:Nat} (hij:i<j) (hj:j<L.length):(L[i]'(by omega)).key<L[j].key:=by
 have:=List.pairwise_iff_getElem.1 h i j (by simp;omega) (by simpa using hj) hij
 simpa using this
theorem KSort.inj {L:List Ln} (h:KSort L) {i j:Nat} (hi:i<L.length) (hj:j<L.length) (e:L[i].key=L[j].key):i=j:=by
 rcases Nat.lt_trichotomy i j with q|q|q
 ·have:=h.at q hj;omega
 ·exact q
 ·have:=h.at q hi;omega
theorem KSort.eq {L:List Ln} (h:KSort L) {x y:Ln} (hx:x∈L) (hy:y∈L) (e:x.key=y.key):x=y:=by
 obtain ⟨i,hi,rfl⟩:=zgo hx
 obtain ⟨j,hj,rfl⟩:=zgo hy
 have:=h.inj hi hj e
 subst this;rfl
theorem axT {L:List Ln} (h:KSort L) {k:Int} {x:Ln}:jD L k=some x↔x∈L/\x.key=k:=by
 unfold jD
 constructor
 ·intro q
  exact ⟨List.mem_of_find?_eq_some q,by simpa using List.find?_some q⟩
 ·rintro ⟨hx,rfl⟩
  cases q:L.find? λy=>decide (y.key=x.key) with
  |none=>exact absurd (List.find?_eq_none.1 q x hx) (by simp)
  |some y=>rw [h.eq (List.mem_of_find?_eq_some q) hx (by simpa using List.find?_some q)]
theorem aCv {L M:List Ln} (hL:KSort L) (hM:KSort M) (h:∀x,x∈L↔x∈M):L=M:=by
 refine uI (r:=λa b:Ln=>a.key<b.key) (λh1 h2=>Int.lt_trans h1 h2) (λh=>Int.lt_irrefl _ h) ?_ ?_ h
 ·exact List.pairwise_map.1 hL
 ·exact List.pairwise_map.1 hM
def qP (L:List Ln) (key:Int):List Ln:=if (atP L key).2 then L.eraseIdx (atP L key).1.toNat else L
theorem KSort.put {L:List Ln} (h:KSort L) (a:Ln):KSort (adP L a):=by
 unfold adP
 rcases adI L a.key with ⟨j,hj,e,_,hk,_⟩|⟨j,hj,e,_,hk,hlo,hhi⟩
 ·rw [e,zp rfl,Int.toNat_natCast]
  unfold KSort
  rw [List.map_set,<-hk]
  have:(L.map (·.key)).set j L[j].key=L.map (·.key):=by
   have hj2:j<(L.map (·.key)).length:=by simpa using hj
   have:=List.set_getElem_self hj2
   simpa using this
  rw [this];exact h
 ·rw [e,zn (by simp),Int.toNat_natCast]
  unfold KSort nN
  have hp:=h
  unfold KSort at hp
  rw [<-List.take_append_drop j L,List.map_append,List.pairwise_append] at hp
  rw [List.map_append,List.map_append,List.pairwise_append,List.pairwise_append]
  refine ⟨⟨hp.1,List.pairwise_singleton ..,λx hx y hy=> ?_⟩,hp.2.1,λx hx y hy=> ?_⟩
  ·simp only [zmp,List.map_nil,zms] at hy
   subst hy
   obtain ⟨z,hz,rfl⟩:=List.mem_map.1 hx
   obtain ⟨q,hq,rfl⟩:=zgo hz
   rw [zlt] at hq
   rw [List.getElem_take]
   have h1:=hlo q (by omega) (by omega)
   have h2:=hk _ (zgm (show q<L.length by omega))
   omega
  ·have hyk:a.key<y:=by
    obtain ⟨z,hz,rfl⟩:=List.mem_map.1 hy
    obtain ⟨q,hq,rfl⟩:=zgo hz
    rw [zld] at hq
    rw [List.getElem_drop]
    have h1:=hhi (by omega)
    rcases Nat.eq_zero_or_pos q with rfl|hq0
    ·exact h1
    ·have:=h.at (show j<j+q by omega) (by omega);omega
   rw [zma] at hx
   rcases hx with hx|hx
   ·exact hp.2.2 x hx y hy
   ·simp only [zmp,List.map_nil,zms] at hx
    subst hx;exact hyk
theorem jN {L:List Ln} (h:KSort L) (k:Int) (x:Ln):x∈qP L k↔x∈L/\x.key≠k:=by
 unfold qP
 rcases adI L k with ⟨j,hj,e,_,hk,_⟩|⟨j,hj,e,_,hk,_,_⟩
 ·rw [e,zp rfl,Int.toNat_natCast,List.mem_eraseIdx_iff_getElem]
  constructor
  ·rintro ⟨q,hq,hne,rfl⟩
   exact ⟨zgm hq,λe2=>hne (h.inj hq hj (e2.trans hk.symm))⟩
  ·rintro ⟨hx,hne⟩
   obtain ⟨q,hq,rfl⟩:=zgo hx
   exact ⟨q,hq,λe2=>hne (by subst e2;exact hk),rfl⟩
 ·rw [e,zn (by simp)]
  exact ⟨λq=>⟨q,hk x q⟩,λq=>q.1⟩
theorem KSort.drop {L:List Ln} (h:KSort L) (k:Int):KSort (qP L k):=by
 unfold qP
 split
 ·exact h.sublist ((List.eraseIdx_sublist ..).map _)
 ·exact h
end
section
set_option maxRecDepth 10000
set_option maxHeartbeats 4000000
section
variable {L:List Ln}
theorem adA (h:KSort L) (k:Int):jD (qP L k) k=none:=by
 cases q:jD (qP L k) k with
 |none=>rfl
 |some x=>obtain ⟨q1,q2⟩:=(axT (h.drop k)).1 q;exact absurd q2 ((jN h k x).1 q1).2
theorem drop_drop (h:KSort L) (k:Int):qP (qP L k) k=qP L k:=
 aCv ((h.drop k).drop k) (h.drop k) λx=>by rw [jN (h.drop k),jN h];grind
end
theorem ayK (b:Bs) (k k':Int) (ls:List Ln):okT (kX b k ls) k'=okT b k':=by unfold okT;rw [aeM]
theorem auI {b:Bs} {k:Int} (h:okT b k=false) (ls:List Ln):kX b k ls=b:=by unfold kX;rw [h];rfl
theorem set_set (b:Bs) (k:Int) (l m:List Ln):kX (kX b k l) k m=kX b k m:=by
 cases h:okT b k with
 |false=>rw [auI h,auI h]
 |true=>
  rw [show kX (kX b k l) k m=(kX b k l).set k.toNat ⟨m⟩ from zp (by rw [ayK,h]),show kX b k l=b.set k.toNat ⟨l⟩ from zp h,show kX b k m=b.set k.toNat ⟨m⟩ from zp h,List.set_set]
variable {tx:Cl->Int}
theorem nL {t:Tb} {L:List Ln}:acP tx t L=true↔L.length<=2000/\(∀x∈L,jU tx t x=true)/\KSort L:=by
 unfold acP
 rw [zba,zde,qJ]
 refine and_congr Iff.rfl ?_
 constructor
 ·intro h
  have h1:∀i (hi:i<L.length),jU tx t L[i]=true/\(i=0\/L[i-1]!.key<L[i].key):=λi hi=>by
   have:=h i hi
   unfold lnR at this
   rw [getElem!_pos L i hi] at this
   simpa using this
  refine ⟨λx hx=>by obtain ⟨i,hi,rfl⟩:=zgo hx;exact (h1 i hi).1, ?_⟩
  have key:∀j (hj:j<L.length) i (hi:i<j),(L[i]'(by omega)).key<L[j].key:=by
   intro j
   induction j with
   |zero=>intro _ i hi;exact absurd hi (Nat.not_lt_zero _)
   |succ j ih=>
    intro hj i hi
    have:=(h1 (j+1) hj).2.resolve_left (Nat.succ_ne_zero j)
    rw [show j+1-1=j from rfl,getElem!_pos L j (by omega)] at this
    rcases zls.1 hi with q|q
    ·exact Int.lt_trans (ih (by omega) i q) this
    ·subst q;exact this
  unfold KSort
  exact List.pairwise_iff_getElem.2 λi j hi hj hij=>by simpa using key j (by simpa using hj) i hij
 ·rintro ⟨h1,h2⟩ i hi
  unfold lnR
  rw [getElem!_pos L i hi,h1 _ (zgm hi),Bool.true_and]
  rcases Nat.eq_zero_or_pos i with rfl|h0
  ·simp
  ·rw [getElem!_pos L (i-1) (by omega)]
   have:=h2.at (show i-1<i by omega) hi
   simp [this]
theorem jW {s:Sc} {b:Bs}:dE tx s b=true↔(gP s=0/\b.length=s.length)/\∀k<b.length,acP tx s[k]! b[k]!.lines=true:=by
 unfold dE
 rw [zba,zde,qJ]
 exact Iff.rfl
end
section
attribute [local irreducible] Ev PWp
set_option maxRecDepth 10000
set_option maxHeartbeats 4000000
theorem ayJ (o:Option Ln):aB2 o= .tup [.agg (o.getD Ln.zero).cells,(vb (o.isSome))]:=by cases o<;>rfl
def ScB (s:Sc):Prop:=∀t∈s,TbB t
theorem aCX (c:Cl) (h:c.parts.length<=1000):ayX T.rightP c:=⟨by omega,λ_=>T.right_spec c (by omega)⟩
theorem BsS.da {n:Nat} {b:Bs} (h:BsS n b) (hn:n<=1000):∀d∈b,aCb T.rightP d:=λd hd=>by
 obtain ⟨h1,h2⟩:=h.2 d hd
 refine ⟨by omega,λl hl=> ?_⟩
 obtain ⟨q1,q2,q3⟩:=h2 l hl
 exact ⟨⟨by omega,by omega⟩,λc hc=>aCX c (q3 c hc)⟩
theorem tI {n:Nat} {b:Bs} (h:BsS n b) (hn:n<=1000) {s:Sc} (hs:ScB s) (hl:s.length<=20):PF Tryz.prog 44 [.agg (scC s), .agg (bsC b)] (vb (dE T.rightP s b)):=
 xB T.rightP s b (by omega) hs (by have:=h.1;omega) (h.da hn)
theorem LnS.zero :LnS Ln.zero:=⟨by simp [Ln.zero],by simp [Ln.zero],λc hc=>by simp [Ln.zero] at hc⟩
theorem BsS.got {n:Nat} {b:Bs} (h:BsS n b) (k key:Int):LnS ((jD (aU b k) key).getD Ln.zero):=by
 cases q:jD (aU b k) key with
 |none=>exact LnS.zero
 |some x=>exact (h.lines k).2 x (List.mem_of_find?_eq_some q)
theorem BsS.new {s:Sc} (hl:s.length<=20):BsS 0 (aCj s):=⟨by simpa [aCj] using hl,λd hd=>by
 rw [(List.mem_replicate.1 hd).2]
 exact ⟨Nat.le_refl _,λl hl=>by simp at hl⟩⟩
end
section
set_option maxRecDepth 10000
set_option maxHeartbeats 4000000
def nU {α:Type} (f:α->Int) (l:List α):Int:=(l.find? λx=>decide (f x≠0)).elim 0 f
theorem aaJ {α:Type} {f:α->Int} {l:List α}:nU f l=0↔∀x∈l,f x=0:=by
 unfold nU
 cases e:l.find? λx=>decide (f x≠0) with
 |none=>
  have:=List.find?_eq_none.1 e
  simp at this
  exact ⟨λ_=>this,λ_=>rfl⟩
 |some x=>
  have h1:=List.find?_some e
  have h2:=List.mem_of_find?_eq_some e
  simp at h1
  exact ⟨λh=>absurd h h1,λh=>absurd (h x h2) h1⟩
theorem aaK {α:Type} (f:α->Int) (x:α) (l:List α):nU f (x::l)=if f x=0 then nU f l else f x:=by
 unfold nU
 rw [List.find?_cons]
 by_cases h:f x=0
 ·simp [h]
 ·simp [h]
theorem tX {α:Type} {f:α->Int}:∀{l:List α} {i:Nat} (h:i<l.length),(∀j (hj:j<i),f (l[j]'(by omega))=0)->f l[i]≠0->nU f l=f l[i]
 |x::l,0,_,_,h2=>by rw [aaK];exact zn h2
 |x::l,i+1,h,h1,h2=>by
  rw [aaK,zp (show f x=0 from h1 0 (by omega))]
  exact tX (l:=l) (Nat.lt_of_succ_lt_succ h) (λj hj=>h1 (j+1) (by omega)) h2
section
variable (sh:Cl->Vl) (ex:Tb->List Vl->Int)
def aDm (l:Ln):List Vl:=l.cells_.map sh
def aAs (b:Bs) (k:Int):List (List Vl):=(aU b k).map (aDm sh)
def vY (c:Co):Int:=if c.kind=0\/c.kind=1 then c.type_ else if c.kind=2\/c.kind=3 then 1 else if c.kind=4 then 2 else 0
def aDq (c:Co) (v:Vl):Int:=if jP v=false then 1 else if v.kind=0/\(c.kind=0\/c.kind=1)/\c.null=false then 7 else if v.kind≠0/\v.kind≠vY c then 6 else 0
def aBV (t:Tb) (r:List Vl):Int:=if t.cols.length=r.length then nU (λk=>aDq t.cols[k]! r[k]!) (List.range r.length) else 1
def qN (u:Nat) (x y:List Vl):Bool:=(decide (x[u]!.kind=1)&&decide (y[u]!.kind=1))&&decide (x[u]!.n=y[u]!.n)
def arC (m:Su) (g:Int) (r:List Vl):Int:=if r[m.by_.toNat]!.kind=1/\r[m.by_.toNat]!.n=g/\r[m.col.toNat]!.kind=1 then r[m.col.toNat]!.n else 0
def vT (m:Su) (g:Int) (rows:List (List Vl)):Int:=(rows.map (arC m g)).sum
def axM (m:Su) (r:List Vl):Bool:=decide (r[m.col.toNat]!.kind=1)&&decide (r[m.col.toNat]!.n<0)
structure GoodT (b:Bs) (t:Tb) (rows:List (List Vl)):Prop where
 typ:∀r∈rows,aBV t r=0
 uniq:∀u∈t.unique,rows.Pairwise λx y=>qN u.toNat x y=false
 chk:∀r∈rows,ex t r=0
 frn:∀f∈t.foreign,∀r∈rows,r[f.col.toNat]!.kind=1->(jD (aU b f.table) r[f.col.toNat]!.n).isSome=true
 neg:∀m∈t.sums,∀r∈rows,axM m r=false
 max:∀m∈t.sums,∀r∈rows,r[m.by_.toNat]!.kind=1->vT m r[m.by_.toNat]!.n rows<=m.max
variable {sh} {ex}
theorem alC {m:Su} {g:Int} {r r':List (List Vl)} (h:List.Sublist r' r) (hn:∀x∈r,axM m x=false):vT m g r'<=vT m g r:=by
 have hp:∀x∈r,0<=arC m g x:=λx hx=>by
  have:=hn x hx
  unfold axM at this
  unfold arC
  split
  ·rename_i q
   rw [decide_eq_true q.2.2,Bool.true_and,decide_eq_false_iff_not] at this
   omega
  ·exact Int.le_refl _
 clear hn
 induction h with
 |slnil=>exact Int.le_refl _
 | @cons l₁ l₂ a _ ih=>
  have h1:=ih λx hx=>hp x (List.mem_cons_of_mem _ hx)
  have h2:=hp a (List.mem_cons_self ..)
  unfold vT at*
  rw [zmp,List.sum_cons];omega
 | @cons_cons l₁ l₂ a _ ih=>
  have h1:=ih λx hx=>hp x (List.mem_cons_of_mem _ hx)
  unfold vT at*
  rw [zmp,zmp,List.sum_cons,List.sum_cons];omega
theorem GoodT.less {b b':Bs} {t:Tb} {rows rows':List (List Vl)} (h:GoodT ex b t rows) (hs:List.Sublist rows' rows) (hf:∀f∈t.foreign,∀r∈rows',r[f.col.toNat]!.kind=1->(jD (aU b f.table) r[f.col.toNat]!.n).isSome=true->(jD (aU b' f.table) r[f.col.toNat]!.n).isSome=true):GoodT ex b' t rows':=
 ⟨λr hr=>h.typ r (hs.subset hr),λu hu=>(h.uniq u hu).sublist hs,λr hr=>h.chk r (hs.subset hr),λf hf' r hr hk=>hf f hf' r hr hk (h.frn f hf' r (hs.subset hr) hk),λm hm r hr=>h.neg m hm r (hs.subset hr),λm hm r hr hk=>Int.le_trans (alC hs (h.neg m hm)) (h.max m hm r (hs.subset hr) hk)⟩
end
end
section
set_option maxRecDepth 10000
set_option maxHeartbeats 4000000
variable {tx:Cl->Int}
end
section
set_option maxRecDepth 10000
set_option maxHeartbeats 4000000
section
variable {sh:Cl->Vl} {ex:Tb->List Vl->Int} {tx:Cl->Int}
theorem GoodT.apart {b:Bs} {t:Tb} {rows:List (List Vl)} (h:GoodT ex b t rows) {u:Int} (hu:u∈t.unique) {i j:Nat} (hij:i<j) (hj:j<rows.length) (hk:(rows[i]'(by omega))[u.toNat]!.kind=1):(rows[i]'(by omega))[u.toNat]!≠rows[j][u.toNat]!:=λe=>by
 have:=List.pairwise_iff_getElem.1 (h.uniq u hu) i j (by omega) hj hij
 unfold qN at this
 rw [<-e,hk] at this
 simp at this
theorem aBA {m:Su} {g:Int} {r:List (List Vl)} (hn:∀x∈r,axM m x=false):0<=vT m g r:=by
 have:=alC (m:=m) (g:=g) (List.nil_sublist r) hn
 simpa [vT] using this
theorem agK {m:Su} {g:Int}:∀{r:List (List Vl)},(∀x∈r,¬(x[m.by_.toNat]!.kind=1/\x[m.by_.toNat]!.n=g))->vT m g r=0
 |[],_=>rfl
 |x::r,h=>by
  have h1:=agK (m:=m) (g:=g) λy hy=>h y (List.mem_cons_of_mem _ hy)
  have h2:arC m g x=0:=by
   unfold arC
   rw [zn λq=>h x (List.mem_cons_self ..) ⟨q.1,q.2.1⟩]
  unfold vT at*
  rw [zmp,List.sum_cons,h2,h1];rfl
theorem GoodT.tot {b:Bs} {t:Tb} {rows:List (List Vl)} (h:GoodT ex b t rows) {m:Su} (hm:m∈t.sums) (h0:0<=m.max) (g:Int):0<=vT m g rows/\vT m g rows<=m.max:=by
 refine ⟨aBA (h.neg m hm), ?_⟩
 by_cases hx:∃x∈rows,x[m.by_.toNat]!.kind=1/\x[m.by_.toNat]!.n=g
 ·obtain ⟨x,hx,h1,h2⟩:=hx
  rw [<-h2];exact h.max m hm x hx h1
 ·rw [agK λx hx' q=>hx ⟨x,hx',q⟩];exact h0
theorem GoodT.nil {b:Bs} {t:Tb}:GoodT ex b t []:=⟨λ_ h=>(by cases h),λ_ _=> .nil,λ_ h=>(by cases h),λ_ _ _ h=>(by cases h),λ_ _ _ h=>(by cases h),λ_ _ _ h=>(by cases h)⟩
end
end
section
set_option maxRecDepth 10000
set_option maxHeartbeats 4000000
section
variable {sh:Cl->Vl} {ex:Tb->List Vl->Int} {tx:Cl->Int}
end
end
section
set_option maxRecDepth 10000
set_option maxHeartbeats 4000000
section
variable {tx:Cl->Int} {sh:Cl->Vl}
theorem lU {b:Bs} {k:Nat} (hk:k<b.length):aU b k=b[k].lines:=by
 unfold aU okT
 rw [zp (by simp;omega),Int.toNat_natCast,getElem!_pos b k hk]
theorem aBI {v:Vl} (h:jP v=true):(-1099511627776<=v.n/\v.n<=1099511627776)/\(v.kind≠1->v.n=0):=by
 unfold jP at h
 split at h
 ·simp only [zba,zde] at h;omega
 ·split at h
  ·simp only [zba,zde] at h;omega
  ·split at h
   ·simp only [zba,zde] at h;omega
   ·cases h
def aC7 (m:Su) (rows:List (List Vl)):Prop:=∀r∈rows,r[m.col.toNat]!.kind≠1->r[m.col.toNat]!.n=0
end
end
section
attribute [local irreducible] Ev PWp
set_option maxRecDepth 10000
set_option maxHeartbeats 4000000
end
section
set_option maxRecDepth 10000
set_option maxHeartbeats 4000000
def amQ (n:Int):PV:=(vi (n))
end
end Go.Proofs.YtppdefkgmegipaaGreatDoor
