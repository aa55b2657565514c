import Derived.Test.YtfablfldonhkiaaGreatDoorClAf
import Derived.Test.YtfablfldonhkiaaGreatDoorAbsE
import Derived.Test.YtfablfldonhkiaaGreatDoorClAe
set_option linter.unusedSimpArgs false
set_option linter.unusedVariables false
namespace Go.Proofs.YtfablfldonhkiaaGreatDoor.T
open Go Go.Abs
attribute [local irreducible] Ev PWp
set_option maxRecDepth 10000
set_option maxHeartbeats 4000000
theorem aiR {l m:List Pt} {i:Nat} (h:l.take i=m.take i) (h1:i<l.length) (h2:i<m.length) (e:l[i]=m[i]):l.take (i+1)=m.take (i+1):=by
 rw [List.take_succ_eq_append_getElem h1,List.take_succ_eq_append_getElem h2,h,e]
theorem aAc {l m:List Pt} {i:Nat} (h1:i<l.length) (h2:i<m.length) (e:l[i]≠m[i]):decide (l=m)=false:=decide_eq_false λh=>by subst h;exact e rfl
theorem apB {l m:List Pt} {i:Nat} (h:l.take i=m.take i) (h1:l.length<=i) (h2:m.length<=i):decide (l=m)=true:=by
 rw [ztl h1,ztl h2] at h;exact decide_eq_true h
theorem equal_spec (l m:List Pt) (hl:l.length<4611686018427387904):PF Tryz.prog 95 [.seq (l.map Pt.cells), .seq (m.map Pt.cells)] (vb (decide (l=m))):=by
 refine pF Tryz.func95 rfl (λst=> ?_)
 (repeat' first|apply wZ;rfl|show Cn _;constructor|exact rfl|show (_:PV)=_;(rw [decide_eq_false (λe:l=m=>by subst e;simp at*)]);done|(intro h;simp at h))
 refine aC (X:={x:Nat//x<=l.length/\l.take x=m.take x}) (λi=>(((((St.nil 26 st).pv 0 (.seq (l.map Pt.cells))).pv 1 (.seq (m.map Pt.cells))).pv 12 ((vi ((((l.map Pt.cells)).length:Nat))))).pv 13 ((vi ((i.1:Nat)))))) (λi=>l.length-i.1) ⟨0,by omega,rfl⟩ ?_ (λi=> ?_)
 ·(repeat' first|show Cn _;constructor|exact rfl)
 obtain ⟨i,hi,hinv⟩:=i
 dsimp only
 have hlm:l.length=m.length:=by omega
 (repeat' first|(refine ⟨⟨i+1,by omega,aiR hinv (by omega) (by omega) (by rw [Pt.ext_iff,Vl.ext_iff,Dt.ext_iff,Dt.ext_iff];simpa [and_assoc] using h)⟩, ?_, ?_⟩)|apply wZ;rfl|show Cn _;constructor|exact rfl|apply KR.mk;kernel_rfl|show (_:PV)=_;(first|rw [aAc (i:=i) (by omega) (by omega) (λe=>by simp [e] at h)];done|rw [apB hinv (by omega) (by omega)]);done|apply wI;rfl|apply gE;omega|omega|simp only [zql];omega|(intro h;simp at h))
def rightP (c:Cl):Int:=if c.kind≠4 then 6 else if c.val≠Vl.zero\/fX c.parts=false then 1 else if 2000<c.parts.length then 2 else if dE c.parts≠c.parts then 3 else 0
theorem afH (l:List Pt):(dE l).length<=l.length:=by
 by_cases h:Whole l/\l.length<=2000
 ·exact Nat.le_of_eq (gN h.1 h.2).1.length_eq
 ·rw [kL h];simp
theorem right_spec (c:Cl) (hl:c.parts.length<4611686018427387904):PF Tryz.prog 124 [.agg c.cells] (vi (rightP c)):=by
 have:=afH c.parts
 have hc:(2000<((c.parts.length:Nat):Int))↔2000<c.parts.length:=by omega
 have hc2:(((c.parts.length:Nat):Int)<=2000)↔¬2000<c.parts.length:=by omega
 refine pF Tryz.func124 rfl (λst=> ?_)
 (repeat' first|apply wZ;rfl|show Cn _;constructor|exact rfl|apply KR.mk;kernel_rfl|((first|apply (zJ c.parts hl)|apply (acC c.parts hl)|apply (equal_spec (dE c.parts) c.parts))<;>(omega))|show (_:PV)=_;(first|(simp only [rightP,Vl.ext_iff,Vl.zero,e0];grind)|(obtain ⟨⟨q1,q2,q3⟩,q4⟩:=‹(_/\_/\_)/\_›;have e1:c.val=Vl.zero:=(Vl.ext_iff _ _).2 ⟨q1,q2,q3⟩;simp only [rightP,e1,q4];grind));done|apply wY;rfl|(intro h;simp at h)|intro h)
end Go.Proofs.YtfablfldonhkiaaGreatDoor.T
namespace Go.Proofs.YtfablfldonhkiaaGreatDoor
open Go Go.Abs
section
set_option maxRecDepth 10000
set_option maxHeartbeats 4000000
theorem awC {α:Type} {r:α->α->Prop} (tr:∀{a b c},r a b->r b c->r a c) (irr:∀{a},¬r a a):∀{l m:List α},l.Pairwise r->m.Pairwise r->(∀x,x∈l↔x∈m)->l=m
 |[],[],_,_,_=>rfl
 |[],b::m,_,_,h=>absurd ((h b).2 (by simp)) (by simp)
 |a::l,[],_,_,h=>absurd ((h a).1 (by simp)) (by simp)
 |a::l,b::m,h1,h2,h=>by
  have h1':=List.pairwise_cons.1 h1
  have h2':=List.pairwise_cons.1 h2
  have e:a=b:=by
   rcases zmc.1 ((h a).1 (by simp)) with q|q
   ·exact q
   rcases zmc.1 ((h b).2 (by simp)) with w|w
   ·exact w.symm
   exact absurd (tr (h2'.1 a q) (h1'.1 b w)) irr
  subst e
  refine congrArg (a:: ·) (awC (r:=r) tr irr h1'.2 h2'.2 λx=> ?_)
  constructor
  ·intro q
   rcases zmc.1 ((h x).1 (List.mem_cons_of_mem _ q)) with w|w
   ·subst w;exact absurd (h1'.1 x q) irr
   ·exact w
  ·intro q
   rcases zmc.1 ((h x).2 (List.mem_cons_of_mem _ q)) with w|w
   ·subst w;exact absurd (h2'.1 x q) irr
   ·exact w
def KSort (L:List Ln):Prop:=(L.map (·.key)).Pairwise (· < ·)
theorem KSort.at {L:List Ln} (h:KSort L) {i j:Nat} (hij:i<j) (hj:j<L.length):(L[i]'(by omega)).key<L[j].key:=by
 have:=List.pairwise_iff_getElem.1 h i j (by simp;omega) (by simpa using hj) hij
 simpa using this
theorem KSort.inj {L:List Ln} (h:KSort L) {i j:Nat} (hi:i<L.length) (hj:j<L.length) (e:L[i].key=L[j].key):i=j:=by
 rcases Nat.lt_trichotomy i j with q|q|q
 ·have:=h.at q hj;omega
 ·exact q
 ·have:=h.at q hi;omega
theorem KSort.eq {L:List Ln} (h:KSort L) {x y:Ln} (hx:x∈L) (hy:y∈L) (e:x.key=y.key):x=y:=by
 obtain ⟨i,hi,rfl⟩:=zgo hx
 obtain ⟨j,hj,rfl⟩:=zgo hy
 have:=h.inj hi hj e
 subst this;rfl
theorem iP {L:List Ln} (h:KSort L) {k:Int} {x:Ln}:bE L k=some x↔x∈L/\x.key=k:=by
 unfold bE
 constructor
 ·intro q
  exact ⟨List.mem_of_find?_eq_some q,by simpa using List.find?_some q⟩
 ·rintro ⟨hx,rfl⟩
  cases q:L.find? λy=>decide (y.key=x.key) with
  |none=>exact absurd (List.find?_eq_none.1 q x hx) (by simp)
  |some y=>rw [h.eq (List.mem_of_find?_eq_some q) hx (by simpa using List.find?_some q)]
theorem ahP {L:List Ln} (h:KSort L) (a x:Ln):x∈pJ L a↔x=a\/(x∈L/\x.key≠a.key):=by
 unfold pJ
 rcases aaC L a.key with ⟨j,hj,e,_,hk,_⟩|⟨j,hj,e,_,hk,_,_⟩
 ·rw [e,zp rfl,Int.toNat_natCast]
  constructor
  ·intro hx
   obtain ⟨q,hq,rfl⟩:=zgo hx
   rw [List.length_set] at hq
   rw [List.getElem_set]
   split
   ·exact .inl rfl
   ·rename_i hne
    exact .inr ⟨zgm hq,λe2=>hne (h.inj hj hq (hk.trans e2.symm))⟩
  ·rintro (rfl|⟨hx,hne⟩)
   ·exact List.mem_iff_getElem.2 ⟨j,by simpa using hj,by simp⟩
   ·obtain ⟨q,hq,rfl⟩:=zgo hx
    have hqj:q≠j:=λe2=>hne (by subst e2;exact hk)
    exact List.mem_iff_getElem.2 ⟨q,by simpa using hq,by rw [List.getElem_set_ne (Ne.symm hqj)]⟩
 ·rw [e,zn (by simp),Int.toNat_natCast]
  unfold dV
  have e2:=List.take_append_drop j L
  have:x∈L↔x∈L.take j\/x∈L.drop j:=by rw [<-zma,e2]
  simp only [zma,zms]
  constructor
  ·rintro ((q|q)|q)
   ·exact .inr ⟨this.2 (.inl q),hk x (this.2 (.inl q))⟩
   ·exact .inl q
   ·exact .inr ⟨this.2 (.inr q),hk x (this.2 (.inr q))⟩
  ·rintro (q|⟨q,_⟩)
   ·exact .inl (.inr q)
   ·rcases this.1 q with q|q
    ·exact .inl (.inl q)
    ·exact .inr q
theorem KSort.put {L:List Ln} (h:KSort L) (a:Ln):KSort (pJ L a):=by
 unfold pJ
 rcases aaC L a.key with ⟨j,hj,e,_,hk,_⟩|⟨j,hj,e,_,hk,hlo,hhi⟩
 ·rw [e,zp rfl,Int.toNat_natCast]
  unfold KSort
  rw [List.map_set,<-hk]
  have:(L.map (·.key)).set j L[j].key=L.map (·.key):=by
   have hj2:j<(L.map (·.key)).length:=by simpa using hj
   have:=List.set_getElem_self hj2
   simpa using this
  rw [this];exact h
 ·rw [e,zn (by simp),Int.toNat_natCast]
  unfold KSort dV
  have hp:=h
  unfold KSort at hp
  rw [<-List.take_append_drop j L,List.map_append,List.pairwise_append] at hp
  rw [List.map_append,List.map_append,List.pairwise_append,List.pairwise_append]
  refine ⟨⟨hp.1,List.pairwise_singleton ..,λx hx y hy=> ?_⟩,hp.2.1,λx hx y hy=> ?_⟩
  ·simp only [zmp,List.map_nil,zms] at hy
   subst hy
   obtain ⟨z,hz,rfl⟩:=List.mem_map.1 hx
   obtain ⟨q,hq,rfl⟩:=zgo hz
   rw [zlt] at hq
   rw [List.getElem_take]
   have h1:=hlo q (by omega) (by omega)
   have h2:=hk _ (zgm (show q<L.length by omega))
   omega
  ·have hyk:a.key<y:=by
    obtain ⟨z,hz,rfl⟩:=List.mem_map.1 hy
    obtain ⟨q,hq,rfl⟩:=zgo hz
    rw [zld] at hq
    rw [List.getElem_drop]
    have h1:=hhi (by omega)
    rcases Nat.eq_zero_or_pos q with rfl|hq0
    ·exact h1
    ·have:=h.at (show j<j+q by omega) (by omega);omega
   rw [zma] at hx
   rcases hx with hx|hx
   ·exact hp.2.2 x hx y hy
   ·simp only [zmp,List.map_nil,zms] at hx
    subst hx;exact hyk
end
section
set_option maxRecDepth 10000
set_option maxHeartbeats 4000000
section
variable {L:List Ln}
end
theorem alK {b:Bs} {k:Int} (h:okT b k=false):aF b k=[]:=by unfold aF;rw [h];rfl
variable {tx:Cl->Int}
theorem fZ {t:Tb} {L:List Ln}:tD tx t L=true↔L.length<=2000/\(∀x∈L,kE tx t x=true)/\KSort L:=by
 unfold tD
 rw [zba,zde,pZ]
 refine and_congr Iff.rfl ?_
 constructor
 ·intro h
  have h1:∀i (hi:i<L.length),kE tx t L[i]=true/\(i=0\/L[i-1]!.key<L[i].key):=λi hi=>by
   have:=h i hi
   unfold lnR at this
   rw [getElem!_pos L i hi] at this
   simpa using this
  refine ⟨λx hx=>by obtain ⟨i,hi,rfl⟩:=zgo hx;exact (h1 i hi).1, ?_⟩
  have key:∀j (hj:j<L.length) i (hi:i<j),(L[i]'(by omega)).key<L[j].key:=by
   intro j
   induction j with
   |zero=>intro _ i hi;exact absurd hi (Nat.not_lt_zero _)
   |succ j ih=>
    intro hj i hi
    have:=(h1 (j+1) hj).2.resolve_left (Nat.succ_ne_zero j)
    rw [show j+1-1=j from rfl,getElem!_pos L j (by omega)] at this
    rcases zls.1 hi with q|q
    ·exact Int.lt_trans (ih (by omega) i q) this
    ·subst q;exact this
  unfold KSort
  exact List.pairwise_iff_getElem.2 λi j hi hj hij=>by simpa using key j (by simpa using hj) i hij
 ·rintro ⟨h1,h2⟩ i hi
  unfold lnR
  rw [getElem!_pos L i hi,h1 _ (zgm hi),Bool.true_and]
  rcases Nat.eq_zero_or_pos i with rfl|h0
  ·simp
  ·rw [getElem!_pos L (i-1) (by omega)]
   have:=h2.at (show i-1<i by omega) hi
   simp [this]
theorem aU {s:Sc} {b:Bs}:bH tx s b=true↔(cB s=0/\b.length=s.length)/\∀k<b.length,tD tx s[k]! b[k]!.lines=true:=by
 unfold bH
 rw [zba,zde,pZ]
 exact Iff.rfl
theorem eO {s:Sc} {b:Bs} (h:bH tx s b=true) (k:Int):KSort (aF b k):=by
 cases hk:okT b k with
 |false=>rw [alK hk];simp [KSort]
 |true=>
  have e:aF b k=b[k.toNat]!.lines:=by unfold aF;rw [zp hk]
  simp only [okT,zba,zde] at hk
  rw [e]
  exact (fZ.1 ((aU.1 h).2 k.toNat (by omega))).2.2
theorem acN {s:Sc} {b:Bs} (h:bH tx s b=true) {k:Int} (hk:okT b k=true):tD tx s[k.toNat]! (aF b k)=true:=by
 have e:aF b k=b[k.toNat]!.lines:=by unfold aF;rw [zp hk]
 simp only [okT,zba,zde] at hk
 rw [e]
 exact (aU.1 h).2 k.toNat (by omega)
theorem azM {s:Sc} {b:Bs} (h:bH tx s b=true) {k:Int} (hk:okT b k=true) (ls:List Ln):bH tx s (adE b k ls)=tD tx s[k.toNat]! ls:=by
 obtain ⟨h1,h2⟩:=aU.1 h
 have hk2:=hk
 simp only [okT,zba,zde] at hk2
 obtain ⟨q,rfl⟩:∃q:Nat,k=q:=⟨k.toNat,by omega⟩
 have hq:q<b.length:=by omega
 rw [Bool.eq_iff_iff,aU,pR,Int.toNat_natCast]
 constructor
 ·intro w
  have:=w.2 q hq
  rwa [getElem!_pos (adE b q ls) q (by rw [pR];exact hq),avW hq rfl] at this
 ·intro w
  refine ⟨h1,λi hi=> ?_⟩
  rw [getElem!_pos (adE b q ls) i (by rw [pR];exact hi)]
  by_cases e:(i:Int)=q
  ·rw [avW hi e,show i=q by omega];exact w
  ·rw [aFK hi e,<-getElem!_pos b i hi];exact h2 i hi
end
section
attribute [local irreducible] Ev PWp
set_option maxRecDepth 10000
set_option maxHeartbeats 4000000
theorem nT (o:Option Ln):aH3 o= .tup [.agg (o.getD Ln.zero).cells,(vb (o.isSome))]:=by cases o<;>rfl
def ScB (s:Sc):Prop:=∀t∈s,TbB t
theorem aIQ (c:Cl) (h:c.parts.length<=1000):aFm T.rightP c:=⟨by omega,λ_=>T.right_spec c (by omega)⟩
theorem BsS.da {n:Nat} {b:Bs} (h:BsS n b) (hn:n<=1000):∀d∈b,aIc T.rightP d:=λd hd=>by
 obtain ⟨h1,h2⟩:=h.2 d hd
 refine ⟨by omega,λl hl=> ?_⟩
 obtain ⟨q1,q2,q3⟩:=h2 l hl
 exact ⟨⟨by omega,by omega⟩,λc hc=>aIQ c (q3 c hc)⟩
theorem fJ {n:Nat} {b:Bs} (h:BsS n b) (hn:n<=1000) {s:Sc} (hs:ScB s) (hl:s.length<=20):PF Tryz.prog 19 [.agg (scC s), .agg (bsC b)] (vb (bH T.rightP s b)):=
 arX T.rightP s b (by omega) hs (by have:=h.1;omega) (h.da hn)
theorem wR {n:Nat} {b:Bs} (h:BsS n b) (hn:n<=1000) (k key:Int):PF Tryz.prog 10 [.agg (bsC b),(vi (k)),(vi (key))] (.tup [.agg ((bE (aF b k) key).getD Ln.zero).cells,(vb ((bE (aF b k) key).isSome))]):=nT _▸kY b k key (h.l hn).2
theorem LnS.zero :LnS Ln.zero:=⟨by simp [Ln.zero],by simp [Ln.zero],λc hc=>by simp [Ln.zero] at hc⟩
theorem BsS.got {n:Nat} {b:Bs} (h:BsS n b) (k key:Int):LnS ((bE (aF b k) key).getD Ln.zero):=by
 cases q:bE (aF b k) key with
 |none=>exact LnS.zero
 |some x=>exact (h.lines k).2 x (List.mem_of_find?_eq_some q)
end
section
set_option maxRecDepth 10000
set_option maxHeartbeats 4000000
def dZ {α:Type} (f:α->Int) (l:List α):Int:=(l.find? λx=>decide (f x≠0)).elim 0 f
theorem gG {α:Type} {f:α->Int} {l:List α}:dZ f l=0↔∀x∈l,f x=0:=by
 unfold dZ
 cases e:l.find? λx=>decide (f x≠0) with
 |none=>
  have:=List.find?_eq_none.1 e
  simp at this
  exact ⟨λ_=>this,λ_=>rfl⟩
 |some x=>
  have h1:=List.find?_some e
  have h2:=List.mem_of_find?_eq_some e
  simp at h1
  exact ⟨λh=>absurd h h1,λh=>absurd (h x h2) h1⟩
theorem rI {α:Type} (f:α->Int) (x:α) (l:List α):dZ f (x::l)=if f x=0 then dZ f l else f x:=by
 unfold dZ
 rw [List.find?_cons]
 by_cases h:f x=0
 ·simp [h]
 ·simp [h]
theorem yW {α:Type} {f:α->Int}:∀{l:List α} {i:Nat} (h:i<l.length),(∀j (hj:j<i),f (l[j]'(by omega))=0)->f l[i]≠0->dZ f l=f l[i]
 |x::l,0,_,_,h2=>by rw [rI];exact zn h2
 |x::l,i+1,h,h1,h2=>by
  rw [rI,zp (show f x=0 from h1 0 (by omega))]
  exact yW (l:=l) (Nat.lt_of_succ_lt_succ h) (λj hj=>h1 (j+1) (by omega)) h2
section
variable (sh:Cl->Vl) (ex:Tb->List Vl->Int)
def aHL (l:Ln):List Vl:=l.cells_.map sh
def dT (b:Bs) (k:Int):List (List Vl):=(aF b k).map (aHL sh)
def dQ (c:Co):Int:=if c.kind=0\/c.kind=1 then c.type_ else if c.kind=2\/c.kind=3 then 1 else if c.kind=4 then 2 else 0
def sW (c:Co) (v:Vl):Int:=if bX v=false then 1 else if v.kind=0/\(c.kind=0\/c.kind=1)/\c.null=false then 7 else if v.kind≠0/\v.kind≠dQ c then 6 else 0
def eH (t:Tb) (r:List Vl):Int:=if t.cols.length=r.length then dZ (λk=>sW t.cols[k]! r[k]!) (List.range r.length) else 1
def mW (u:Nat) (x y:List Vl):Bool:=(decide (x[u]!.kind=1)&&decide (y[u]!.kind=1))&&decide (x[u]!.n=y[u]!.n)
def lL (t:Tb) (rows:List (List Vl)):Bool:=t.unique.all λu=>decide (rows.Pairwise λx y=>mW u.toNat x y=false)
def yQ (b:Bs) (t:Tb) (rows:List (List Vl)):Bool:=t.foreign.all λf=>rows.all λr=> !decide (r[f.col.toNat]!.kind=1)||(bE (aF b f.table) r[f.col.toNat]!.n).isSome
def axH (m:Su) (g:Int) (r:List Vl):Int:=if r[m.by_.toNat]!.kind=1/\r[m.by_.toNat]!.n=g/\r[m.col.toNat]!.kind=1 then r[m.col.toNat]!.n else 0
def nW (m:Su) (g:Int) (rows:List (List Vl)):Int:=(rows.map (axH m g)).sum
def aAT (m:Su) (r:List Vl):Bool:=decide (r[m.col.toNat]!.kind=1)&&decide (r[m.col.toNat]!.n<0)
def aaH (t:Tb) (rows:List (List Vl)):Bool:=t.sums.all λm=>rows.all λr=> !aAT m r&&(!decide (r[m.by_.toNat]!.kind=1)||decide (nW m r[m.by_.toNat]!.n rows<=m.max))
def ckT (b:Bs) (t:Tb) (rows:List (List Vl)):Int:=
 if dZ (eH t) rows≠0 then dZ (eH t) rows else if lL t rows=false then 8 else if dZ (ex t) rows≠0 then dZ (ex t) rows else if yQ b t rows=false then 10 else if aaH t rows=false then 11 else 0
def ckW (s:Sc) (b:Bs):Int:=dZ (λk:Nat=>ckT ex b s[k]! (dT sh b k)) (List.range s.length)
structure GoodT (b:Bs) (t:Tb) (rows:List (List Vl)):Prop where
 typ:∀r∈rows,eH t r=0
 aFs:∀u∈t.unique,rows.Pairwise λx y=>mW u.toNat x y=false
 chk:∀r∈rows,ex t r=0
 frn:∀f∈t.foreign,∀r∈rows,r[f.col.toNat]!.kind=1->(bE (aF b f.table) r[f.col.toNat]!.n).isSome=true
 neg:∀m∈t.sums,∀r∈rows,aAT m r=false
 max:∀m∈t.sums,∀r∈rows,r[m.by_.toNat]!.kind=1->nW m r[m.by_.toNat]!.n rows<=m.max
variable {sh} {ex}
end
end
section
set_option maxRecDepth 10000
set_option maxHeartbeats 4000000
structure FrOK (s:Sc) (t:Tb) (f:Fr):Prop where
 c1:1<=f.col
 c2:f.col<t.cols.length
 t1:0<=f.table
 t2:f.table<s.length
 act:f.act=0\/f.act=1\/f.act=2
 kind:t.cols[f.col.toNat]!.kind=0
 typ:t.cols[f.col.toNat]!.type_=1
theorem aaZ {h b p a n z:Bool} (e:anM h b p a n z=0):h=true/\b=false/\p=false/\a=false/\n=true/\z=false:=by
 unfold anM at e
 cases h<;>cases b<;>cases p<;>cases a<;>cases n<;>cases z<;>simp at e⊢
theorem awD {s:Sc} (h:cB s=0) {k:Nat} (hk:k<s.length) {i:Nat} (hi:i<s[k].foreign.length):aqS s.length s[k] i=0:=by
 have:=fH h hk (lk5 s.length s[k]!) (by simp [lks])
 rw [getElem!_pos s k hk] at this
 exact nP this hi
theorem avP {s:Sc} (h:cB s=0) {k:Nat} (hk:k<s.length) {f:Fr} (hf:f∈s[k].foreign):FrOK s s[k] f:=by
 obtain ⟨i,hi,rfl⟩:=zgo hf
 have e:=aaZ (awD h hk hi)
 rw [getElem!_pos s[k].foreign i hi] at e
 obtain ⟨e1,e2,_,e4,e5,_⟩:=e
 unfold oX at e1
 unfold mF kR at e5
 simp only [zba,zde,Bool.or_eq_false_iff,decide_eq_false_iff_not] at e1 e2 e4 e5
 exact ⟨by omega,e1.2,by omega,by omega,by omega,e5.1,e5.2⟩
theorem auL {s:Sc} (h:cB s=0) {k:Nat} (hk:k<s.length):∀(j i:Nat) (hj:j<s[k].foreign.length) (hij:i<j),s[k].foreign[i].col<s[k].foreign[j].col:=by
 intro j
 induction j with
 |zero=>intro i _ h;omega
 |succ j ih=>
  intro i hj hij
  have e:=aaZ (awD h hk hj)
  have e3:=e.2.2.1
  rw [show j+1-1=j from rfl,getElem!_pos s[k].foreign (j+1) hj,getElem!_pos s[k].foreign j (by omega)] at e3
  simp only [Nat.zero_lt_succ,decide_true,Bool.true_and,decide_eq_false_iff_not] at e3
  rcases zls.1 hij with q|q
  ·have:=ih i (by omega) q;omega
  ·subst q;omega
theorem aHz {s:Sc} (h:cB s=0) {k:Nat} (hk:k<s.length) (i j:Nat) (hi:i<s[k].foreign.length) (hj:j<s[k].foreign.length) (e:s[k].foreign[i].col=s[k].foreign[j].col):i=j:=by
 rcases Nat.lt_trichotomy i j with q|q|q
 ·have:=auL h hk j i hj q;omega
 ·exact q
 ·have:=auL h hk i j hi q;omega
theorem jZ {s:Sc} (h:cB s=0):s.length<=16:=by
 unfold cB at h
 split at h
 ·cases h
 ·omega
theorem arV {s:Sc} (h:cB s=0) {k:Nat} (hk:k<s.length):s[k].foreign.length<=16:=by
 have:=fH h hk (lk1 s[k]!) (by simp [lks])
 rw [getElem!_pos s k hk] at this
 unfold lk1 at this
 split at this
 ·cases this
 ·omega
variable {tx:Cl->Int}
structure LineOK (tx:Cl->Int) (t:Tb) (l:Ln):Prop where
 k1:0<=l.key
 k2:l.key<1073741824
 len:l.cells_.length=t.cols.length
 kind:∀j (h:j<l.cells_.length),l.cells_[j].kind=t.cols[j]!.kind
 cell:∀c∈l.cells_,iU tx c=true
 zero:l.cells_[0]!.val=⟨1,l.key,e0⟩
 dots:xN l.by_=true
theorem yZ {t:Tb} {l:Ln}:kE tx t l=true↔LineOK tx t l:=by
 unfold kE rY
 simp only [zba,zde,pZ]
 constructor
 ·rintro ⟨⟨⟨h1,h2,h3⟩,h4⟩,h5,h6⟩
  have hc:∀j (h:j<l.cells_.length),l.cells_[j].kind=t.cols[j]!.kind/\iU tx l.cells_[j]=true:=λj hj=>by
   have:=h5 j hj
   unfold yH at this
   rw [getElem!_pos l.cells_ j hj,zba,zde] at this
   exact this
  exact ⟨h1,h2,h3,λj hj=>(hc j hj).1,λc hc'=>by obtain ⟨j,hj,rfl⟩:=zgo hc';exact (hc j hj).2,h4,h6⟩
 ·rintro ⟨h1,h2,h3,h4,h5,h6,h7⟩
  refine ⟨⟨⟨h1,h2,h3⟩,h6⟩,λj hj=> ?_,h7⟩
  unfold yH
  rw [getElem!_pos l.cells_ j hj,h4 j hj,decide_eq_true rfl,h5 _ (zgm hj)];rfl
theorem rE {s:Sc} {b:Bs} (h:bH tx s b=true) {k:Nat} (hk:k<b.length) {l:Ln} (hl:l∈b[k].lines):LineOK tx s[k]! l:=by
 have:=(aU.1 h).2 k hk
 rw [getElem!_pos b k hk] at this
 exact yZ.1 ((fZ.1 this).2.1 l hl)
end
section
set_option maxRecDepth 10000
set_option maxHeartbeats 4000000
section
variable {sh:Cl->Vl} {ex:Tb->List Vl->Int} {tx:Cl->Int}
theorem atM {t:Tb} {r:List Vl} (h:eH t r=0):r.length=t.cols.length:=by
 unfold eH at h
 split at h
 ·omega
 ·cases h
theorem GoodT.nil {b:Bs} {t:Tb}:GoodT ex b t []:=⟨λ_ h=>(by cases h),λ_ _=> .nil,λ_ h=>(by cases h),λ_ _ _ h=>(by cases h),λ_ _ _ h=>(by cases h),λ_ _ _ h=>(by cases h)⟩
end
end
section
set_option maxRecDepth 10000
set_option maxHeartbeats 4000000
section
variable {sh:Cl->Vl} {ex:Tb->List Vl->Int} {tx:Cl->Int}
end
end
end Go.Proofs.YtfablfldonhkiaaGreatDoor
