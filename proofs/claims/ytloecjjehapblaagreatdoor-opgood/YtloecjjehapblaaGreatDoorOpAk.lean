import Derived.Test.YtloecjjehapblaaGreatDoorOpAj
import Derived.Test.YtloecjjehapblaaGreatDoorAbsE
import Derived.Test.YtloecjjehapblaaGreatDoorOpAh
set_option linter.unusedSimpArgs false
set_option linter.unusedVariables false
namespace Go.Proofs.YtloecjjehapblaaGreatDoor.T
open Go Go.Abs
set_option maxRecDepth 10000
set_option maxHeartbeats 4000000
inductive Anc (l:List Pt):Pt->List Pt->Prop
 |root {p:Pt} (hp:p∈l) (h0:bE p=Nm.zero):Anc l p [p]
 |step {p u:Pt} {s:List Pt} (hp:p∈l) (hu:u∈l) (e:aM u=bE p) (h0:bE p≠Nm.zero) (h:Anc l u s):Anc l p (s++[p])
theorem Anc.all {l:List Pt} {p:Pt} {s:List Pt} (h:Anc l p s):∀q∈s,q∈l:=by
 induction h with
 |root hp _=>intro q hq;rw [List.mem_singleton.1 hq];exact hp
 |step hp _ _ _ _ ih=>
  intro q hq
  rcases zma.1 hq with hq|hq
  ·exact ih q hq
  ·rw [List.mem_singleton.1 hq];exact hp
theorem Anc.fn {l:List Pt} (hn:named l) {p:Pt} {s:List Pt} (h:Anc l p s):∀{t:List Pt},Anc l p t->s=t:=by
 induction h with
 |root hp h0=>intro t ht;cases ht with
  |root=>rfl
  |step _ _ _ h0' _=>exact absurd h0 h0'
 |step hp hu e h0 _ ih=>intro t ht;cases ht with
  |root _ h0'=>exact absurd h0' h0
  |step _ hu' e' _ h'=>
   have:=hn _ hu _ hu' (by rw [e,e'])
   subst this
   rw [ih h']
theorem Anc.ex {l:List Pt} (hW:Whole l):∀(n:Nat) (p:Pt),p∈l->(l.filter λq=>eN q p).length<=n->∃s,Anc l p s
 |n,p,hp,hn=>by
  by_cases h0:bE p=Nm.zero
  ·exact ⟨_, .root hp h0⟩
  ·obtain ⟨u,hu,e,ha⟩:=(hW.up p hp).resolve_left h0
   have hlt:(l.filter λq=>eN q u).length<(l.filter λq=>eN q p).length:=uQ (a:=u) hu ha (by rw [<-Bool.not_eq_true,mB];omega) λq _ hq=>by
    rw [mB] at ha hq⊢;omega
   cases n with
   |zero=>omega
   |succ n=>
    obtain ⟨s,hs⟩:=Anc.ex hW n u hu (by omega)
    exact ⟨_, .step hp hu e h0 hs⟩
def pZ :List Pt->List Pt->Prop
 |_,[]=>False
 |[],_::_=>True
 |a::s,b::t=>a=b/\pZ s t\/fP a b
theorem auW (a:Pt):¬fP a a:=by rw [fB];omega
theorem ayX {a b c:Pt} (h1:fP a b) (h2:fP b c):fP a c:=by rw [fB] at h1 h2⊢;omega
theorem uW :∀(s:List Pt),¬pZ s s
 |[],h=>h
 |a::s,h=>by rcases h with ⟨_,h⟩|h;exact uW s h;exact auW a h
theorem ahN :∀{s t u:List Pt},pZ s t->pZ t u->pZ s u
 |_,_,[],_,h=>(by cases ‹List Pt› <;>exact h.elim)
 |s,[],_::_,h,_=>(by cases s<;>simp [pZ] at h)
 |[],_::_,_::_,_,_=>trivial
 |a::s,b::t,c::u,h1,h2=>by
  rcases h1 with ⟨rfl,h1⟩|h1<;>rcases h2 with ⟨rfl,h2⟩|h2
  ·exact .inl ⟨rfl,ahN h1 h2⟩
  ·exact .inr h2
  ·exact .inr h1
  ·exact .inr (ayX h1 h2)
theorem uR :∀(P:List Pt) {s t:List Pt},pZ s t->pZ (P++s) (P++t)
 |[],_,_,h=>h
 |a::P,_,_,h=> .inl ⟨rfl,uR P h⟩
def ltP (l:List Pt) (p q:Pt):Prop:=∃s t,Anc l p s/\Anc l q t/\pZ s t
theorem aCh {l:List Pt} (hn:named l) (p:Pt):¬ltP l p p:=λ⟨s,t,h1,h2,h⟩=>by rw [h1.fn hn h2] at h;exact uW _ h
theorem aAW {l:List Pt} (hn:named l) {p q:Pt} (h:ltP l p q) (h':ltP l q p):False:=by
 obtain ⟨s,t,h1,h2,h3⟩:=h
 obtain ⟨t',s',h4,h5,h6⟩:=h'
 rw [<-h1.fn hn h5,<-h2.fn hn h4] at h6
 exact uW _ (ahN h3 h6)
theorem tF {l:List Pt} (h:(l.map aM).Nodup):l.Nodup:=by
 induction l with
 |nil=>exact List.nodup_nil
 |cons a l ih=>
  simp only [List.map_cons,List.nodup_cons] at h
  exact List.nodup_cons.2 ⟨λhm=>h.1 (List.mem_map.2 ⟨a,hm,rfl⟩),ih h.2⟩
theorem pP {l:List Pt} (hW:Whole l):∀(n:Nat) (k:Nm) (P:List Pt),(∀p∈fN l k,Anc l p (P++[p]))->
  (∀x∈eJ l n k,∃q s,q∈cN l k/\Anc l x (P++q::s))/\(eJ l n k).Pairwise (ltP l)
 |0,_,_,_=>⟨λx h=>(by cases h),List.Pairwise.nil⟩
 |n+1,k,P,hP=>by
  have hq:∀q∈cN l k,Anc l q (P++[q]):=λq hq=>hP q (gW hq).2
  have hc:∀q∈cN l k,∀p∈fN l (aM q),Anc l p ((P++[q])++[p]):=λq hq' p hp=>by
   obtain ⟨h1,h2⟩:=List.mem_filter.1 hp
   have h2:bE p=aM q:=by simpa using h2
   have hql:=(gW hq').1
   exact .step h1 hql h2.symm (by rw [h2];exact xM (hW.formed q hql)) (hq q hq')
  have key:∀q∈cN l k,∀x∈q::eJ l n (aM q),∃s,Anc l x (P++q::s):=λq hq' x hx=>by
   rcases zmc.1 hx with rfl|hx
   ·exact ⟨[],hq x hq'⟩
   ·obtain ⟨r,s,_,h⟩:=(pP hW n (aM q) (P++[q]) (hc q hq')).1 x hx
    exact ⟨r::s,by simpa using h⟩
  constructor
  ·intro x hx
   obtain ⟨q,hq',hx⟩:=List.mem_flatMap.1 hx
   obtain ⟨s,h⟩:=key q hq' x hx
   exact ⟨q,s,hq',h⟩
  ·rw [eJ,List.pairwise_flatMap]
   refine ⟨λq hq'=> ?_, ?_⟩
   ·have ih:=pP hW n (aM q) (P++[q]) (hc q hq')
    rw [List.pairwise_cons]
    refine ⟨λx hx=> ?_,ih.2⟩
    obtain ⟨r,s,_,h⟩:=ih.1 x hx
    refine ⟨_,_,hq q hq',h, ?_⟩
    have:=uR (P++[q]) (s:=[]) (t:=r::s) trivial
    simpa using this
   ·have hs:=sW l k
    have hnd:(cN l k).Nodup:=by
     have:=hW.nodup
     have h1:(fN l k).Nodup:=(List.Pairwise.filter _ (tF this))
     exact (iF l k).nodup_iff.2 h1
    refine (hs.and hnd).imp_of_mem fun {a b} ha hb hab x hx y hy=> ?_
    obtain ⟨s,h1⟩:=key a ha x hx
    obtain ⟨t,h2⟩:=key b hb y hy
    refine ⟨_,_,h1,h2,uR P (.inr ?_)⟩
    by_cases hk:fP a b
    ·exact hk
    ·exact absurd (arI hW.named (gW ha).1 (gW hb).1 hk hab.1) hab.2
theorem asN {l:List Pt} {n:Nat} {k:Nm} {p:Pt} (hd:aoM l n k) (hp:p∈fN l k):p∈eJ l n k:=by
 cases n with
 |zero=>rw [show fN l k=[] from hd] at hp;cases hp
 |succ n=>exact List.mem_flatMap.2 ⟨p,(iF l k).symm.subset hp,by simp⟩
theorem akS {l:List Pt} {p u:Pt} (hp:p∈fN l (aM u)):∀{n:Nat} {k:Nm},aoM l n k->u∈eJ l n k->p∈eJ l n k
 |0,_,_,hu=>(by cases hu)
 |n+1,k,hd,hu=>by
  obtain ⟨q,hq,hu⟩:=List.mem_flatMap.1 hu
  have hdq:=hd q (gW hq).2
  refine List.mem_flatMap.2 ⟨q,hq, ?_⟩
  rcases zmc.1 hu with rfl|hu
  ·exact List.mem_cons_of_mem _ (asN hdq hp)
  ·exact List.mem_cons_of_mem _ (akS hp hdq hu)
theorem ahZ {l:List Pt}:∀{n:Nat} {k:Nm} {p:Pt},p∈eJ l n k->p∈l
 |0,_,_,h=>(by cases h)
 |n+1,k,p,h=>by
  obtain ⟨q,hq,h⟩:=List.mem_flatMap.1 h
  rcases zmc.1 h with rfl|h
  ·exact (gW hq).1
  ·exact ahZ h
theorem aFs {l:List Pt} (hW:Whole l) {p:Pt} {s:List Pt} (h:Anc l p s):p∈eJ l l.length Nm.zero:=by
 have hd:=ajE hW
 induction h with
 |root hp h0=>exact asN hd (List.mem_filter.2 ⟨hp,by simpa using h0⟩)
 |step hp hu e h0 _ ih=>exact akS (List.mem_filter.2 ⟨hp,by simpa using e.symm⟩) hd ih
theorem acF {l m:List Pt} (h1:l.Nodup) (h2:m.Nodup) (h:∀a,a∈l↔a∈m):l.Perm m:=by
 rw [List.perm_iff_count]
 intro a
 rw [h1.count,h2.count]
 simp [h a]
theorem aiQ {l:List Pt} (hW:Whole l):(eJ l l.length Nm.zero).Perm l/\(eJ l l.length Nm.zero).Pairwise (ltP l):=by
 have hs:=(pP hW l.length Nm.zero [] λp hp=>by
  obtain ⟨h1,h2⟩:=List.mem_filter.1 hp
  exact .root h1 (by simpa using h2)).2
 refine ⟨acF ?_ (tF hW.nodup) λa=>⟨ahZ,λha=> ?_⟩,hs⟩
 ·exact hs.imp fun {a b} h e=>by subst e;exact aCh hW.named _ h
 ·obtain ⟨s,hs⟩:=Anc.ex hW _ a ha (Nat.le_refl _)
  exact aFs hW hs
theorem abC (l:List Pt) (hl:l.length<4611686018427387904):PF Tryz.prog 187 [.seq (l.map Pt.cells)] (.seq ((dH l).map Pt.cells)):=
 ahB l hl λh=>(aiQ ((fV l).1 h)).1.length_eq
theorem gM {l:List Pt} (hW:Whole l) (hl:l.length<=2000):(dH l).Perm l/\(dH l).Pairwise (ltP l):=by
 unfold dH
 rw [if_pos ⟨(fV l).2 hW,hl⟩]
 exact aiQ hW
theorem kF {l:List Pt} (h:¬(Whole l/\l.length<=2000)):dH l=[]:=by
 unfold dH
 rw [if_neg λ⟨a,b⟩=>h ⟨(fV l).1 a,b⟩]
theorem xA {l m:List Pt} (hW:Whole l) (hl:l.length<=2000) (hp:m.Perm l) (hs:m.Pairwise (ltP l)):dH l=m:=by
 obtain ⟨h1,h2⟩:=gM hW hl
 exact uniq (h1.trans hp.symm) h2 hs λa _ b _ h h'=>(aAW hW.named h h').elim
theorem Inv.perm {l m:List Pt} (hp:l.Perm m) (h:Inv l):Inv m:=
 ⟨λp hm=>h.formed p (hp.symm.subset hm),(hp.map aM).nodup_iff.1 h.nodup,λa ha b hb=>h.times a (hp.symm.subset ha) b (hp.symm.subset hb)⟩
theorem Whole.perm {l m:List Pt} (hp:l.Perm m) (h:Whole l):Whole m where
 toInv:=h.toInv.perm hp
 up p hm:=by
  rcases h.up p (hp.symm.subset hm) with e|⟨u,hu,e⟩
  ·exact .inl e
  ·exact .inr ⟨u,hp.subset hu,e⟩
theorem Anc.perm {l m:List Pt} (hp:∀a,a∈l->a∈m) {p:Pt} {s:List Pt} (h:Anc l p s):Anc m p s:=by
 induction h with
 |root h h0=>exact .root (hp _ h) h0
 |step h hu e h0 _ ih=>exact .step (hp _ h) (hp _ hu) e h0 ih
theorem ltP.perm {l m:List Pt} (hp:∀a,a∈l->a∈m) {p q:Pt} (h:ltP l p q):ltP m p q:=by
 obtain ⟨s,t,h1,h2,h3⟩:=h
 exact ⟨s,t,h1.perm hp,h2.perm hp,h3⟩
theorem wT {l m:List Pt} (hp:l.Perm m):dH l=dH m:=by
 by_cases h:Whole l/\l.length<=2000
 ·have hm:Whole m:=h.1.perm hp
  have hml:m.length<=2000:=by rw [<-hp.length_eq];exact h.2
  obtain ⟨h1,h2⟩:=gM hm hml
  exact xA h.1 h.2 (h1.trans hp.symm) (h2.imp λk=>k.perm λa ha=>hp.symm.subset ha)
 ·rw [kF h,kF λk=>h ⟨k.1.perm hp.symm,by rw [hp.length_eq];exact k.2⟩]
end Go.Proofs.YtloecjjehapblaaGreatDoor.T
namespace Go.Proofs.YtloecjjehapblaaGreatDoor.T
open Go Go.Abs
attribute [local irreducible] Ev PWp
set_option maxRecDepth 10000
set_option maxHeartbeats 4000000
theorem agW {l m:List Pt} {i:Nat} (h:l.take i=m.take i) (h1:i<l.length) (h2:i<m.length) (e:l[i]=m[i]):l.take (i+1)=m.take (i+1):=by
 rw [List.take_succ_eq_append_getElem h1,List.take_succ_eq_append_getElem h2,h,e]
theorem awE {l m:List Pt} {i:Nat} (h1:i<l.length) (h2:i<m.length) (e:l[i]≠m[i]):decide (l=m)=false:=decide_eq_false λh=>by subst h;exact e rfl
theorem amT {l m:List Pt} {i:Nat} (h:l.take i=m.take i) (h1:l.length<=i) (h2:m.length<=i):decide (l=m)=true:=by
 rw [List.take_of_length_le h1,List.take_of_length_le h2] at h;exact decide_eq_true h
theorem anC (l m:List Pt) (hl:l.length<4611686018427387904):PF Tryz.prog 186 [.seq (l.map Pt.cells), .seq (m.map Pt.cells)] (PV.val (Value.bool (decide (l=m)))):=by
 refine aG aF Tryz.func186 (by kernel_rfl) rfl rfl rfl rfl (λst=> ?_)
 (try apply wO pk;rfl);(repeat' first|show All _;constructor|apply wC pk;rfl;rfl|refine aA rfl ?_ ?_<;>intro h<;>(try simp at h)<;>try omega|(refine aC ?_;refine ⟨_,_,_,rfl,zwr _,zsr _, ?_,rfl⟩;try first|rfl|(rw [decide_eq_false (λe:l=m=>by subst e;simp at*)]);done))
 refine aK (X:={x:Nat//x<=l.length/\l.take x=m.take x}) (λi=>(((((St.nil 26 st).pv 0 (.seq (l.map Pt.cells))).pv 1 (.seq (m.map Pt.cells))).pv 12 ((PV.val (Value.int .i64 ((((l.map Pt.cells)).length:Nat)))))).pv 13 ((PV.val (Value.int .i64 ((i.1:Nat))))))) (λi=>l.length-i.1) ⟨0,by omega,rfl⟩ ?_ (λi=> ?_)
 ·((repeat refine Sub.pv ?_ rfl);exact Sub.nil _ _ _ (zsr _) rfl)
 obtain ⟨i,hi,hinv⟩:=i
 dsimp only
 have hlm:l.length=m.length:=by omega
 (try apply wO pk;rfl);(repeat' first|show All _;constructor|show Imp _ _;constructor|apply wC pk;rfl;rfl|apply wE pk;rfl;rfl|apply wD pk [] [];kernel_rfl;rfl;rfl|refine aA rfl ?_ ?_<;>intro h<;>(try simp at h)<;>try omega|(refine aC ?_;refine ⟨_,_,_,rfl,zwr _,zsr _, ?_,rfl⟩;try first|rfl|(first|rw [awE (i:=i) (by omega) (by omega) (λe=>by simp [e] at h)];done|rw [amT hinv (by omega) (by omega)]);done)|apply aN pk;(iterate 6 rfl);rotate_left;rfl;(intro hw;rfl);(intro hw;apply aI<;>omega);(intro _;rfl);rfl|refine ⟨⟨i+1,by omega,agW hinv (by omega) (by omega) (by rw [Pt.ext_iff,Vl.ext_iff,Dt.ext_iff,Dt.ext_iff];simpa [and_assoc] using h)⟩, ?_,by simp only;omega⟩;((repeat refine Sub.pv ?_ rfl);exact Sub.nil _ _ _ (zsr _) rfl)|intros;(try simp only [zql]);omega)
def rightP (c:Cl):Int:=if c.kind≠4 then 6 else if c.val≠Vl.zero\/fW c.parts=false then 1 else if 2000<c.parts.length then 2 else if dH c.parts≠c.parts then 3 else 0
theorem aeA (l:List Pt):(dH l).length<=l.length:=by
 by_cases h:Whole l/\l.length<=2000
 ·exact Nat.le_of_eq (gM h.1 h.2).1.length_eq
 ·rw [kF h];simp
theorem right_spec (c:Cl) (hl:c.parts.length<4611686018427387904):PF Tryz.prog 114 [.agg c.cells] (PV.val (Value.int .i64 (rightP c))):=by
 have:=aeA c.parts
 have hc:(2000<((c.parts.length:Nat):Int))↔2000<c.parts.length:=by omega
 have hc2:(((c.parts.length:Nat):Int)<=2000)↔¬2000<c.parts.length:=by omega
 refine aG aF Tryz.func114 (by kernel_rfl) rfl rfl rfl rfl (λst=> ?_)
 (try apply wO pk;rfl);(repeat' first|show All _;constructor|show Imp _ _;constructor|show ImpX _ _ _ _;constructor|apply wC pk;rfl;rfl|apply wE pk;rfl;rfl|apply wD pk [] [];kernel_rfl;rfl;rfl|refine aA rfl ?_ ?_<;>intro h<;>(try simp at h)<;>try omega|(refine aC ?_;refine ⟨_,_,_,rfl,zwr _,zsr _, ?_,rfl⟩;try first|rfl|(first|(simp only [rightP,Vl.ext_iff,Vl.zero,e0];grind)|(obtain ⟨⟨q1,q2,q3⟩,q4⟩:=‹(_/\_/\_)/\_›;have e1:c.val=Vl.zero:=(Vl.ext_iff _ _).2 ⟨q1,q2,q3⟩;simp only [rightP,e1,q4];grind));done)|(apply aH;rfl;rfl;rfl;(intro _;(first|apply (yM c.parts hl)|apply (abC c.parts hl)|apply (anC (dH c.parts) c.parts))<;>first|assumption|omega);rotate_left;rfl;rfl))
end Go.Proofs.YtloecjjehapblaaGreatDoor.T
namespace Go.Proofs.YtloecjjehapblaaGreatDoor
open Go Go.Abs
set_option maxRecDepth 10000
set_option maxHeartbeats 4000000
theorem agT {α:Type} {r:α->α->Prop} (tr:∀{a b c},r a b->r b c->r a c) (irr:∀{a},¬r a a):∀{l m:List α},l.Pairwise r->m.Pairwise r->(∀x,x∈l↔x∈m)->l=m
 |[],[],_,_,_=>rfl
 |[],b::m,_,_,h=>absurd ((h b).2 (by simp)) (by simp)
 |a::l,[],_,_,h=>absurd ((h a).1 (by simp)) (by simp)
 |a::l,b::m,h1,h2,h=>by
  have h1':=List.pairwise_cons.1 h1
  have h2':=List.pairwise_cons.1 h2
  have e:a=b:=by
   rcases zmc.1 ((h a).1 (by simp)) with q|q
   ·exact q
   rcases zmc.1 ((h b).2 (by simp)) with w|w
   ·exact w.symm
   exact absurd (tr (h2'.1 a q) (h1'.1 b w)) irr
  subst e
  refine congrArg (a:: ·) (agT (r:=r) tr irr h1'.2 h2'.2 λx=> ?_)
  constructor
  ·intro q
   rcases zmc.1 ((h x).1 (List.mem_cons_of_mem _ q)) with w|w
   ·subst w;exact absurd (h1'.1 x q) irr
   ·exact w
  ·intro q
   rcases zmc.1 ((h x).2 (List.mem_cons_of_mem _ q)) with w|w
   ·subst w;exact absurd (h2'.1 x q) irr
   ·exact w
def KSort (L:List Ln):Prop:=(L.map (·.key)).Pairwise (· < ·)
theorem KSort.at {L:List Ln} (h:KSort L) {i j:Nat} (hij:i<j) (hj:j<L.length):(L[i]'(by omega)).key<L[j].key:=by
 have:=List.pairwise_iff_getElem.1 h i j (by simp;omega) (by simpa using hj) hij
 simpa using this
theorem KSort.inj {L:List Ln} (h:KSort L) {i j:Nat} (hi:i<L.length) (hj:j<L.length) (e:L[i].key=L[j].key):i=j:=by
 rcases Nat.lt_trichotomy i j with q|q|q
 ·have:=h.at q hj;omega
 ·exact q
 ·have:=h.at q hi;omega
theorem KSort.eq {L:List Ln} (h:KSort L) {x y:Ln} (hx:x∈L) (hy:y∈L) (e:x.key=y.key):x=y:=by
 obtain ⟨i,hi,rfl⟩:=List.getElem_of_mem hx
 obtain ⟨j,hj,rfl⟩:=List.getElem_of_mem hy
 have:=h.inj hi hj e
 subst this;rfl
theorem aB8 {L:List Ln} (h:KSort L) {k:Int} {x:Ln}:eH L k=some x↔x∈L/\x.key=k:=by
 unfold eH
 constructor
 ·intro q
  exact ⟨List.mem_of_find?_eq_some q,by simpa using List.find?_some q⟩
 ·rintro ⟨hx,rfl⟩
  cases q:L.find? λy=>decide (y.key=x.key) with
  |none=>exact absurd (List.find?_eq_none.1 q x hx) (by simp)
  |some y=>rw [h.eq (List.mem_of_find?_eq_some q) hx (by simpa using List.find?_some q)]
theorem aGp {L M:List Ln} (hL:KSort L) (hM:KSort M) (h:∀x,x∈L↔x∈M):L=M:=by
 refine agT (r:=λa b:Ln=>a.key<b.key) (λh1 h2=>Int.lt_trans h1 h2) (λh=>Int.lt_irrefl _ h) ?_ ?_ h
 ·exact List.pairwise_map.1 hL
 ·exact List.pairwise_map.1 hM
def aaX (L:List Ln) (key:Int):List Ln:=if (atP L key).2 then L.eraseIdx (atP L key).1.toNat else L
theorem afX {L:List Ln} (h:KSort L) (a x:Ln):x∈oR L a↔x=a\/(x∈L/\x.key≠a.key):=by
 unfold oR
 rcases sM L a.key with ⟨j,hj,e,_,hk,_⟩|⟨j,hj,e,_,hk,_,_⟩
 ·rw [e,if_pos rfl,Int.toNat_natCast]
  constructor
  ·intro hx
   obtain ⟨q,hq,rfl⟩:=List.getElem_of_mem hx
   rw [List.length_set] at hq
   rw [List.getElem_set]
   split
   ·exact .inl rfl
   ·rename_i hne
    exact .inr ⟨zgm hq,λe2=>hne (h.inj hj hq (hk.trans e2.symm))⟩
  ·rintro (rfl|⟨hx,hne⟩)
   ·exact List.mem_iff_getElem.2 ⟨j,by simpa using hj,by simp⟩
   ·obtain ⟨q,hq,rfl⟩:=List.getElem_of_mem hx
    have hqj:q≠j:=λe2=>hne (by subst e2;exact hk)
    exact List.mem_iff_getElem.2 ⟨q,by simpa using hq,by rw [List.getElem_set_ne (Ne.symm hqj)]⟩
 ·rw [e,if_neg (by simp),Int.toNat_natCast]
  unfold eF
  have e2:=List.take_append_drop j L
  have:x∈L↔x∈L.take j\/x∈L.drop j:=by rw [<-zma,e2]
  simp only [zma,List.mem_singleton]
  constructor
  ·rintro ((q|q)|q)
   ·exact .inr ⟨this.2 (.inl q),hk x (this.2 (.inl q))⟩
   ·exact .inl q
   ·exact .inr ⟨this.2 (.inr q),hk x (this.2 (.inr q))⟩
  ·rintro (q|⟨q,_⟩)
   ·exact .inl (.inr q)
   ·rcases this.1 q with q|q
    ·exact .inl (.inl q)
    ·exact .inr q
theorem KSort.put {L:List Ln} (h:KSort L) (a:Ln):KSort (oR L a):=by
 unfold oR
 rcases sM L a.key with ⟨j,hj,e,_,hk,_⟩|⟨j,hj,e,_,hk,hlo,hhi⟩
 ·rw [e,if_pos rfl,Int.toNat_natCast]
  unfold KSort
  rw [List.map_set,<-hk]
  have:(L.map (·.key)).set j L[j].key=L.map (·.key):=by
   have hj2:j<(L.map (·.key)).length:=by simpa using hj
   have:=List.set_getElem_self hj2
   simpa using this
  rw [this];exact h
 ·rw [e,if_neg (by simp),Int.toNat_natCast]
  unfold KSort eF
  have hp:=h
  unfold KSort at hp
  rw [<-List.take_append_drop j L,List.map_append,List.pairwise_append] at hp
  rw [List.map_append,List.map_append,List.pairwise_append,List.pairwise_append]
  refine ⟨⟨hp.1,List.pairwise_singleton ..,λx hx y hy=> ?_⟩,hp.2.1,λx hx y hy=> ?_⟩
  ·simp only [List.map_cons,List.map_nil,List.mem_singleton] at hy
   subst hy
   obtain ⟨z,hz,rfl⟩:=List.mem_map.1 hx
   obtain ⟨q,hq,rfl⟩:=List.getElem_of_mem hz
   rw [zlt] at hq
   rw [List.getElem_take]
   have h1:=hlo q (by omega) (by omega)
   have h2:=hk _ (zgm (show q<L.length by omega))
   omega
  ·have hyk:a.key<y:=by
    obtain ⟨z,hz,rfl⟩:=List.mem_map.1 hy
    obtain ⟨q,hq,rfl⟩:=List.getElem_of_mem hz
    rw [zld] at hq
    rw [List.getElem_drop]
    have h1:=hhi (by omega)
    rcases Nat.eq_zero_or_pos q with rfl|hq0
    ·exact h1
    ·have:=h.at (show j<j+q by omega) (by omega);omega
   rw [zma] at hx
   rcases hx with hx|hx
   ·exact hp.2.2 x hx y hy
   ·simp only [List.map_cons,List.map_nil,List.mem_singleton] at hx
    subst hx;exact hyk
theorem qT {L:List Ln} (h:KSort L) (k:Int) (x:Ln):x∈aaX L k↔x∈L/\x.key≠k:=by
 unfold aaX
 rcases sM L k with ⟨j,hj,e,_,hk,_⟩|⟨j,hj,e,_,hk,_,_⟩
 ·rw [e,if_pos rfl,Int.toNat_natCast,List.mem_eraseIdx_iff_getElem]
  constructor
  ·rintro ⟨q,hq,hne,rfl⟩
   exact ⟨zgm hq,λe2=>hne (h.inj hq hj (e2.trans hk.symm))⟩
  ·rintro ⟨hx,hne⟩
   obtain ⟨q,hq,rfl⟩:=List.getElem_of_mem hx
   exact ⟨q,hq,λe2=>hne (by subst e2;exact hk),rfl⟩
 ·rw [e,if_neg (by simp)]
  exact ⟨λq=>⟨q,hk x q⟩,λq=>q.1⟩
theorem KSort.drop {L:List Ln} (h:KSort L) (k:Int):KSort (aaX L k):=by
 unfold aaX
 split
 ·exact h.sublist ((List.eraseIdx_sublist ..).map _)
 ·exact h
end Go.Proofs.YtloecjjehapblaaGreatDoor
namespace Go.Proofs.YtloecjjehapblaaGreatDoor
open Go Go.Abs
set_option maxRecDepth 10000
set_option maxHeartbeats 4000000
section
variable {L:List Ln}
theorem drop_drop (h:KSort L) (k:Int):aaX (aaX L k) k=aaX L k:=
 aGp ((h.drop k).drop k) (h.drop k) λx=>by rw [qT (h.drop k),qT h];grind
end
theorem aCq (b:Bs) (k k':Int) (ls:List Ln):okT (jH b k ls) k'=okT b k':=by unfold okT;rw [kM]
theorem ajU {b:Bs} {k:Int} (h:okT b k=false):aO b k=[]:=by unfold aO;rw [h];rfl
theorem aAJ {b:Bs} {k:Int} (h:okT b k=false) (ls:List Ln):jH b k ls=b:=by unfold jH;rw [h];rfl
theorem set_set (b:Bs) (k:Int) (l m:List Ln):jH (jH b k l) k m=jH b k m:=by
 cases h:okT b k with
 |false=>rw [aAJ h,aAJ h]
 |true=>
  rw [show jH (jH b k l) k m=(jH b k l).set k.toNat ⟨m⟩ from if_pos (by rw [aCq,h]),show jH b k l=b.set k.toNat ⟨l⟩ from if_pos h,show jH b k m=b.set k.toNat ⟨m⟩ from if_pos h,List.set_set]
variable {tx:Cl->Int}
theorem fY {t:Tb} {L:List Ln}:sG tx t L=true↔L.length<=2000/\(∀x∈L,jX tx t x=true)/\KSort L:=by
 unfold sG
 rw [zba,zde,pI]
 refine and_congr Iff.rfl ?_
 constructor
 ·intro h
  have h1:∀i (hi:i<L.length),jX tx t L[i]=true/\(i=0\/L[i-1]!.key<L[i].key):=λi hi=>by
   have:=h i hi
   unfold lnR at this
   rw [getElem!_pos L i hi] at this
   simpa using this
  refine ⟨λx hx=>by obtain ⟨i,hi,rfl⟩:=List.getElem_of_mem hx;exact (h1 i hi).1, ?_⟩
  have key:∀j (hj:j<L.length) i (hi:i<j),(L[i]'(by omega)).key<L[j].key:=by
   intro j
   induction j with
   |zero=>intro _ i hi;exact absurd hi (Nat.not_lt_zero _)
   |succ j ih=>
    intro hj i hi
    have:=(h1 (j+1) hj).2.resolve_left (Nat.succ_ne_zero j)
    rw [show j+1-1=j from rfl,getElem!_pos L j (by omega)] at this
    rcases Nat.lt_succ_iff_lt_or_eq.1 hi with q|q
    ·exact Int.lt_trans (ih (by omega) i q) this
    ·subst q;exact this
  unfold KSort
  exact List.pairwise_iff_getElem.2 λi j hi hj hij=>by simpa using key j (by simpa using hj) i hij
 ·rintro ⟨h1,h2⟩ i hi
  unfold lnR
  rw [getElem!_pos L i hi,h1 _ (zgm hi),Bool.true_and]
  rcases Nat.eq_zero_or_pos i with rfl|h0
  ·simp
  ·rw [getElem!_pos L (i-1) (by omega)]
   have:=h2.at (show i-1<i by omega) hi
   simp [this]
theorem bV {s:Sc} {b:Bs}:cP tx s b=true↔(cL s=0/\b.length=s.length)/\∀k<b.length,sG tx s[k]! b[k]!.lines=true:=by
 unfold cP
 rw [zba,zde,pI]
 exact Iff.rfl
theorem alT {s:Sc} {b:Bs} (h:cP tx s b=true) (k:Int):KSort (aO b k):=by
 cases hk:okT b k with
 |false=>rw [ajU hk];simp [KSort]
 |true=>
  have e:aO b k=b[k.toNat]!.lines:=by unfold aO;rw [if_pos hk]
  simp only [okT,zba,zde] at hk
  rw [e]
  exact (fY.1 ((bV.1 h).2 k.toNat (by omega))).2.2
theorem abM {s:Sc} {b:Bs} (h:cP tx s b=true) {k:Int} (hk:okT b k=true):sG tx s[k.toNat]! (aO b k)=true:=by
 have e:aO b k=b[k.toNat]!.lines:=by unfold aO;rw [if_pos hk]
 simp only [okT,zba,zde] at hk
 rw [e]
 exact (bV.1 h).2 k.toNat (by omega)
theorem avK {s:Sc} {b:Bs} (h:cP tx s b=true) {k:Int} (hk:okT b k=true) (ls:List Ln):cP tx s (jH b k ls)=sG tx s[k.toNat]! ls:=by
 obtain ⟨h1,h2⟩:=bV.1 h
 have hk2:=hk
 simp only [okT,zba,zde] at hk2
 obtain ⟨q,rfl⟩:∃q:Nat,k=q:=⟨k.toNat,by omega⟩
 have hq:q<b.length:=by omega
 rw [Bool.eq_iff_iff,bV,kM,Int.toNat_natCast]
 constructor
 ·intro w
  have:=w.2 q hq
  rwa [getElem!_pos (jH b q ls) q (by rw [kM];exact hq),asB hq rfl] at this
 ·intro w
  refine ⟨h1,λi hi=> ?_⟩
  rw [getElem!_pos (jH b q ls) i (by rw [kM];exact hi)]
  by_cases e:(i:Int)=q
  ·rw [asB hi e,show i=q by omega];exact w
  ·rw [aDf hi e,<-getElem!_pos b i hi];exact h2 i hi
end Go.Proofs.YtloecjjehapblaaGreatDoor
namespace Go.Proofs.YtloecjjehapblaaGreatDoor
open Go Go.Abs
attribute [local irreducible] Ev PWp
set_option maxRecDepth 10000
set_option maxHeartbeats 4000000
theorem aqY (o:Option Ln):aFN o= .tup [.agg (o.getD Ln.zero).cells,(PV.val (Value.bool (o.isSome)))]:=by cases o<;>rfl
def ScB (s:Sc):Prop:=∀t∈s,TbB t
theorem aGU (c:Cl) (h:c.parts.length<=1000):aCS T.rightP c:=⟨by omega,λ_=>T.right_spec c (by omega)⟩
theorem BsS.da {n:Nat} {b:Bs} (h:BsS n b) (hn:n<=1000):∀d∈b,aF2 T.rightP d:=λd hd=>by
 obtain ⟨h1,h2⟩:=h.2 d hd
 refine ⟨by omega,λl hl=> ?_⟩
 obtain ⟨q1,q2,q3⟩:=h2 l hl
 exact ⟨⟨by omega,by omega⟩,λc hc=>aGU c (q3 c hc)⟩
theorem iZ {n:Nat} {b:Bs} (h:BsS n b) (hn:n<=1000) {s:Sc} (hs:ScB s) (hl:s.length<=20):PF Tryz.prog 19 [.agg (scC s), .agg (bsC b)] (PV.val (Value.bool (cP T.rightP s b))):=
 aoV T.rightP s b (by omega) hs (by have:=h.1;omega) (h.da hn)
theorem vM {n:Nat} {b:Bs} (h:BsS n b) (hn:n<=1000) (k key:Int):PF Tryz.prog 24 [.agg (bsC b),(PV.val (Value.int .i64 (k))),(PV.val (Value.int .i64 (key)))] (.tup [.agg ((eH (aO b k) key).getD Ln.zero).cells,(PV.val (Value.bool ((eH (aO b k) key).isSome)))]):=aqY _▸akM b k key (h.l hn).2
theorem BsS.new {s:Sc} (hl:s.length<=20):BsS 0 (aiW s):=⟨by simpa [aiW] using hl,λd hd=>by
 rw [(List.mem_replicate.1 hd).2]
 exact ⟨Nat.le_refl _,λl hl=>by simp at hl⟩⟩
end Go.Proofs.YtloecjjehapblaaGreatDoor
