import Derived.Test.YtloecjjehapblaaGreatDoorOpAy
import Derived.Test.YtloecjjehapblaaGreatDoorOpBa
import Derived.Test.YtloecjjehapblaaGreatDoorOpAz
import Derived.Test.YtloecjjehapblaaGreatDoorOpAt
set_option linter.unusedSimpArgs false
set_option linter.unusedVariables false
namespace Go.Proofs.YtloecjjehapblaaGreatDoor
open Go Go.Abs
set_option maxRecDepth 10000
set_option maxHeartbeats 4000000
theorem qB {α:Type} (f:α->Bool) (a:α) (l:List α):acA f (a::l)=if f a=true then 0 else acA f l+1:=by
 unfold acA
 rw [List.findIdx?_cons]
 by_cases h:f a=true
 ·rw [if_pos h,if_pos h];rfl
 ·rw [if_neg h,if_neg (by simpa using h)]
  cases List.findIdx? f l<;>simp
theorem agZ {α:Type} {l:List α} {k:Nat} {x y:α}:y∈l.take k++[x]++l.drop k↔y=x\/y∈l:=by
 rw [zma,zma,List.mem_singleton]
 have h:y∈l↔y∈l.take k\/y∈l.drop k:=by rw [<-zma,List.take_append_drop]
 rw [h]
 constructor
 ·rintro ((q|q)|q)
  ·exact .inr (.inl q)
  ·exact .inl q
  ·exact .inr (.inr q)
 ·rintro (q|q|q)
  ·exact .inl (.inr q)
  ·exact .inl (.inl q)
  ·exact .inr q
theorem amX {α:Type} {r:α->α->Prop} (tr:∀a b c,r a b->r b c->r a c) {x:α} {f:α->Bool}:∀{l:List α},l.Pairwise r->(∀p∈l,f p=false->r p x)->(∀p∈l,f p=true->r x p)->(l.take (acA f l)++[x]++l.drop (acA f l)).Pairwise r
 |[],_,_,_=>by simp
 |a::l,h,h1,h2=>by
  obtain ⟨ha,hl⟩:=List.pairwise_cons.1 h
  rw [qB]
  by_cases hf:f a=true
  ·rw [if_pos hf]
   have hxa:=h2 a (by simp) hf
   show (x::a::l).Pairwise r
   refine List.pairwise_cons.2 ⟨λy hy=> ?_,h⟩
   rcases zmc.1 hy with rfl|hy
   ·exact hxa
   ·exact tr _ _ _ hxa (ha y hy)
  ·rw [if_neg hf,List.take_succ_cons,List.drop_succ_cons,List.cons_append,List.cons_append]
   refine List.pairwise_cons.2 ⟨λy hy=> ?_,amX tr hl (λp hp=>h1 p (List.mem_cons_of_mem _ hp)) (λp hp=>h2 p (List.mem_cons_of_mem _ hp))⟩
   rcases agZ.1 hy with rfl|hy
   ·exact h1 a (by simp) (by simpa using hf)
   ·exact ha y hy
theorem adS {l:List Pt} {k:Nat} {x y:Pt}:y∈dJ l k [x]↔y=x\/y∈l:=agZ
theorem aqG {ok:Pt->Bool} {bh:Pt->Pt->Bool} (tr:∀{a b c},bh b a=true->bh c b=true->bh c a=true) {l:List Pt}:xU ok bh l=true↔(∀p∈l,ok p=true)/\l.Pairwise λa b=>bh b a=true:=by
 constructor
 ·intro h
  have hj:∀j (hj:j<l.length),ok l[j]=true/\(j=0\/bh l[j] (l[j-1]'(by omega))=true):=λj hj=>by
   unfold xU at h
   rw [zal] at h
   have:=h j (List.mem_range.2 hj)
   rw [getElem!_pos l j hj,getElem!_pos l (j-1) (by omega),zba,Bool.or_eq_true,zde] at this
   exact this
  refine ⟨λp hp=>by obtain ⟨j,hj',rfl⟩:=List.getElem_of_mem hp;exact (hj j hj').1,List.pairwise_iff_getElem.2 λi j hi hj' hij=> ?_⟩
  have key:∀d,∀h:i+d+1<l.length,bh l[i+d+1] l[i]=true:=λd=>by
   induction d with
   |zero=>intro h;exact (hj (i+1) h).2.resolve_left (by omega)
   |succ d ih=>
    intro h
    have h1:=ih (by omega)
    have h2:=(hj (i+(d+1)+1) h).2.resolve_left (by omega)
    exact tr h1 h2
  have:=key (j-i-1) (by omega)
  simp only [show i+(j-i-1)+1=j by omega] at this
  exact this
 ·rintro ⟨h1,h2⟩
  refine agD λj hj=> ?_
  rw [h1 _ (zgm hj),Bool.true_and]
  rcases Nat.eq_zero_or_pos j with rfl|h0
  ·rfl
  ·rw [List.pairwise_iff_getElem.1 h2 (j-1) j (by omega) hj (by omega),Bool.or_true]
theorem rW {c:Cl}:lR c=true↔(c.kind=1/\c.val=Vl.zero)/\(∀p∈c.parts,jD p=true)/\c.parts.Pairwise λa b=>bG b.dot a.dot=true:=by
 unfold lR
 rw [zba,zde,aqG (bh:=λp q=>bG p.dot q.dot) λh1 h2=>pJ h1 h2]
theorem agE {p q:Pt}:dP p q=true↔p.val.n>q.val.n\/p.val.n=q.val.n/\bG p.dot q.dot=true:=by
 unfold dP
 rw [Bool.or_eq_true,zba,zde,zde]
theorem axO {a b c:Pt} (h1:dP b a=true) (h2:dP c b=true):dP c a=true:=by
 rw [agE] at*
 rcases h1 with h1|⟨e1,h1⟩<;>rcases h2 with h2|⟨e2,h2⟩
 ·exact .inl (by omega)
 ·exact .inl (by omega)
 ·exact .inl (by omega)
 ·exact .inr ⟨by omega,pJ h1 h2⟩
theorem aCM {a b:Pt} (h:dP a b=false) (hne:¬(a.val.n=b.val.n/\a.dot=b.dot)):dP b a=true:=by
 rw [<-Bool.not_eq_true,agE] at h
 rw [agE]
 rcases Int.lt_trichotomy a.val.n b.val.n with q|q|q
 ·exact .inl q
 ·refine .inr ⟨q.symm, ?_⟩
  refine vZ ?_ λe=>hne ⟨q,e⟩
  rw [<-Bool.not_eq_true]
  exact λw=>h (.inr ⟨q,w⟩)
 ·exact absurd (.inl q) h
theorem jV {c:Cl}:jI c=true↔(c.kind=3/\c.val=Vl.zero)/\(∀p∈c.parts,jE p=true)/\c.parts.Pairwise λa b=>dP b a=true:=by
 unfold jI
 rw [zba,zde,aqG (bh:=dP) λh1 h2=>axO h1 h2]
theorem avO {v:Vl} {d:Dt} (hv:cJ v=true) (hd:fI d=true):jD (ptN v d)=true:=by
 unfold jD
 rw [show (ptN v d).val=v from rfl,show (ptN v d).dot=d from rfl,hv,hd]
 have:lL (ptN v d):=⟨rfl,rfl,rfl,rfl,rfl⟩
 simp only [decide_eq_true this];rfl
theorem awQ {n:Int} {d:Dt} (hv:cJ (nV n)=true) (hd:fI d=true):jE (ptN (nV n) d)=true:=by
 unfold jE
 rw [show (ptN (nV n) d).val=nV n from rfl,show (ptN (nV n) d).dot=d from rfl,hv,hd]
 have:lL (ptN (nV n) d):=⟨rfl,rfl,rfl,rfl,rfl⟩
 simp only [decide_eq_true this];rfl
theorem tY {c:Cl} {v:Vl} {d:Dt} {kn:List Int} (h:lR c=true) (hv:cJ v=true) (hd:fI d=true):lR (gV c v d kn)=true:=by
 obtain ⟨h0,h1,h2⟩:=rW.1 h
 refine rW.2 ⟨h0,λp hp=> ?_,amX (r:=λa b:Pt=>bG b.dot a.dot=true) (λ_ _ _ h1 h2=>pJ h1 h2) (h2.filter _) (λp hp hf=> ?_) λp hp hf=> ?_⟩
 ·rcases adS.1 hp with rfl|hp
  ·exact avO hv hd
  ·exact h1 p ((List.mem_filter.1 hp).1)
 ·have hk:=(List.mem_filter.1 hp).2
  unfold qW at hk
  rw [zba,zde] at hk
  exact vZ hf hk.1
 ·exact hf
theorem zL {c:Cl} {n:Int} {d:Dt} (h:jI c=true) (hv:cJ (nV n)=true) (hd:fI d=true):jI (nA c n d)=true:=by
 unfold nA
 split
 ·exact h
 ·rename_i hs
  obtain ⟨h0,h1,h2⟩:=jV.1 h
  refine jV.2 ⟨h0,λp hp=> ?_,amX (r:=λa b:Pt=>dP b a=true) (λ_ _ _ h1 h2=>axO h1 h2) h2 (λp hp hf=>aCM hf ?_) λp hp hf=>hf⟩
  ·rcases adS.1 hp with rfl|hp
   ·exact awQ hv hd
   ·exact h1 p hp
  ·rintro ⟨q1,q2⟩
   apply hs
   rw [List.any_eq_true]
   refine ⟨p,hp, ?_⟩
   unfold qV
   rw [decide_eq_true (show p.val.n=n from q1),decide_eq_true (show p.dot=d from q2)];rfl
theorem ahH {c:Cl} {n:Int} {d:Dt} {kn:List Int} (h:jI c=true):jI (rA c n d kn)=true:=by
 obtain ⟨h0,h1,h2⟩:=jV.1 h
 exact jV.2 ⟨h0,λp hp=>h1 p ((List.mem_filter.1 hp).1),h2.filter _⟩
theorem aaW {c:Cl} {n:Int} (h:(sP c n).2=0):(sP c n).1.kind=2/\cI (sP c n).1=0/\(sP c n).1.parts=[]:=by
 unfold sP at*
 split at h
 ·rename_i q;exact absurd h q
 ·rename_i q;rw [if_neg q]
  split at h
  ·rename_i q2;exact absurd h q2
  ·rename_i q2;rw [if_neg q2]
   split at h
   ·rename_i q3;exact absurd h q3
   ·rename_i q3;rw [if_neg q3]
    exact ⟨rfl,Decidable.of_not_not q3,rfl⟩
theorem yS {c:Cl} {s:ByteArray} {w:T.Sp} {up:T.Nm} (h:T.rightP c=0) (h0:(T.typeP c s w up).2=0):T.rightP (T.typeP c s w up).1=0:=by
 have hl:c.parts.length+s.size<=2000:=by
  apply Classical.byContradiction
  intro q
  unfold T.typeP at h0
  rw [if_neg (by simp [h])] at h0
  split at h0
  ·simp at h0
  ·rw [if_pos (.inr (.inl (by omega)))] at h0
   simp at h0
 rcases (T.Is.of h).type s w up hl with ⟨_,q⟩|⟨_,_,q⟩
 ·exact absurd h0 q
 ·exact q.right
theorem jC {c:Cl} (h:T.rightP c=0):c.kind=4:=by
 unfold T.rightP at h
 split at h
 ·cases h
 ·rename_i q;exact Decidable.of_not_not q
theorem cG {c:Cl}:jU T.rightP c=true↔(c.kind=0/\cJ c.val=true/\c.parts=[])\/(c.kind=1/\lR c=true)\/(c.kind=2/\cI c=0)\/(c.kind=3/\jI c=true)\/(c.kind=4/\T.rightP c=0):=by
 unfold jU
 by_cases h0:c.kind=0
 ·rw [if_pos h0,zba,zde]
  constructor
  ·rintro ⟨a,b⟩;exact .inl ⟨h0,a,List.eq_nil_of_length_eq_zero b⟩
  ·rintro (⟨_,a,b⟩|⟨k,_⟩|⟨k,_⟩|⟨k,_⟩|⟨k,_⟩)
   ·exact ⟨a,by rw [b];rfl⟩
   all_goals omega
 rw [if_neg h0]
 by_cases h1:c.kind=1
 ·rw [if_pos h1]
  constructor
  ·exact λa=> .inr (.inl ⟨h1,a⟩)
  ·rintro (⟨k,_⟩|⟨_,a⟩|⟨k,_⟩|⟨k,_⟩|⟨k,_⟩)
   ·omega
   ·exact a
   all_goals omega
 rw [if_neg h1]
 by_cases h2:c.kind=2
 ·rw [if_pos h2,zde]
  constructor
  ·exact λa=> .inr (.inr (.inl ⟨h2,a⟩))
  ·rintro (⟨k,_⟩|⟨k,_⟩|⟨_,a⟩|⟨k,_⟩|⟨k,_⟩)
   ·omega
   ·omega
   ·exact a
   all_goals omega
 rw [if_neg h2]
 by_cases h3:c.kind=3
 ·rw [if_pos h3]
  constructor
  ·exact λa=> .inr (.inr (.inr (.inl ⟨h3,a⟩)))
  ·rintro (⟨k,_⟩|⟨k,_⟩|⟨k,_⟩|⟨_,a⟩|⟨k,_⟩)
   ·omega
   ·omega
   ·omega
   ·exact a
   ·omega
 rw [if_neg h3]
 by_cases h4:c.kind=4
 ·rw [if_pos h4,zde]
  constructor
  ·exact λa=> .inr (.inr (.inr (.inr ⟨h4,a⟩)))
  ·rintro (⟨k,_⟩|⟨k,_⟩|⟨k,_⟩|⟨k,_⟩|⟨_,a⟩)
   ·omega
   ·omega
   ·omega
   ·omega
   ·exact a
 ·rw [if_neg h4]
  simp [h0,h1,h2,h3,h4]
theorem alE {v:Vl} (h:cJ v=true) (hk:v.kind=1):cJ (nV v.n)=true:=by
 unfold cJ at*
 rw [if_neg (by omega),if_pos hk] at h
 rw [if_neg (by simp [nV]),if_pos (show (nV v.n).kind=1 from rfl)]
 simp only [zba,zde] at*
 exact ⟨⟨rfl,h.1.2⟩,h.2⟩
theorem pL {w:Wr} (h:uO w=true):fI w.dot=true:=by
 unfold uO T.withinB at h
 unfold fI Wr.dot
 simp only [zba,zde] at*
 omega
theorem aDE {w:Wr} {c:Cl} {o:Ot} {co:Co} (hw:uO w=true) (hc:jU T.rightP c=true) (hf:aeI o.kind c.kind=true) (hv:qO co o=0) (h0:(eW w c o).2=0):jU T.rightP (eW w c o).1=true/\(eW w c o).1.kind=c.kind:=by
 have hd:=pL hw
 have hvr:cJ o.val=true:=by
  unfold qO at hv
  split at hv
  ·cases hv
  ·rename_i q
   cases e:cJ o.val with
   |true=>rfl
   |false=>exact absurd (.inr e) q
 have hn:o.kind≠2->o.kind≠6->o.kind≠7->cJ (nV o.val.n)=true:=λa b e=>by
  apply alE hvr
  unfold qO at hv
  split at hv
  ·cases hv
  ·split at hv
   ·rename_i q;exact absurd q.1 a
   split at hv
   ·cases hv
   split at hv
   ·cases hv
   ·rename_i q;exact Classical.byContradiction λz=>q ⟨a,b,z⟩
 unfold eW at*
 unfold aeI at hf
 by_cases k2:o.kind=2
 ·rw [if_pos k2] at hf h0⊢
  rw [zde] at hf
  by_cases c0:c.kind=0
  ·rw [if_pos c0]
   exact ⟨cG.2 (.inl ⟨rfl,hvr,rfl⟩),c0.symm⟩
  ·rw [if_neg c0]
   have c1:c.kind=1:=hf.resolve_left c0
   rcases cG.1 hc with q|q|q|q|q
   ·exact absurd q.1 c0
   ·exact ⟨cG.2 (.inr (.inl ⟨c1,tY q.2 hvr hd⟩)),rfl⟩
   all_goals omega
 rw [if_neg k2] at hf h0⊢
 by_cases k3:o.kind=3
 ·rw [if_pos k3] at hf h0⊢
  rw [zde] at hf
  obtain ⟨a1,a2,a3⟩:=aaW h0
  exact ⟨cG.2 (.inr (.inr (.inl ⟨a1,a2⟩))),by rw [a1,hf]⟩
 rw [if_neg k3] at hf h0⊢
 by_cases k4:o.kind=4
 ·rw [if_pos (.inl k4),zde] at hf
  rw [if_pos k4] at h0⊢
  rcases cG.1 hc with q|q|q|q|q
  ·omega
  ·omega
  ·omega
  ·have hk:(nA c o.val.n w.dot).kind=c.kind:=by unfold nA;split<;>rfl
   exact ⟨cG.2 (.inr (.inr (.inr (.inl ⟨by rw [hk,hf],zL q.2 (hn k2 (by omega) (by omega)) hd⟩)))),hk⟩
  ·omega
 rw [if_neg k4] at h0⊢
 by_cases k5:o.kind=5
 ·rw [if_pos (.inr k5),zde] at hf
  rw [if_pos k5] at h0⊢
  rcases cG.1 hc with q|q|q|q|q
  ·omega
  ·omega
  ·omega
  ·exact ⟨cG.2 (.inr (.inr (.inr (.inl ⟨hf,ahH q.2⟩)))),rfl⟩
  ·omega
 rw [if_neg (by omega)] at hf
 rw [if_neg k5] at h0⊢
 have hf4:(o.kind=6\/o.kind=7)/\c.kind=4:=by
  split at hf
  ·rename_i q;exact ⟨q,by simpa using hf⟩
  ·cases hf
 have hr:T.rightP c=0:=by
  rcases cG.1 hc with q|q|q|q|q
  ·omega
  ·omega
  ·omega
  ·omega
  ·exact q.2
 by_cases k6:o.kind=6
 ·rw [if_pos k6] at h0⊢
  have:=yS hr h0
  exact ⟨cG.2 (.inr (.inr (.inr (.inr ⟨jC this,this⟩)))),by rw [jC this,hf4.2]⟩
 ·rw [if_neg k6]
  have:=T.right_erase ⟨o.after,o.at_⟩ hr
  exact ⟨cG.2 (.inr (.inr (.inr (.inr ⟨jC this,this⟩)))),rfl⟩
theorem aBh :T.rightP ⟨4,Vl.zero,[]⟩=0:=by kernel_rfl
theorem ayF {w:Wr} {c:Co} {v:Vl} (hw:uO w=true) (hk:0<=c.kind/\c.kind<=4) (hv:sC c v=0) (h0:(kE w c.kind v).2=0):jU T.rightP (kE w c.kind v).1=true/\(kE w c.kind v).1.kind=c.kind:=by
 have hd:=pL hw
 unfold sC at hv
 split at hv
 ·cases hv
 rename_i q0
 have hvr:cJ v=true:=by simpa using q0
 split at hv
 ·cases hv
 rename_i q1
 split at hv
 ·cases hv
 rename_i q2
 unfold kE at*
 by_cases c0:c.kind=0
 ·rw [if_pos c0]
  exact ⟨cG.2 (.inl ⟨rfl,hvr,rfl⟩),c0.symm⟩
 rw [if_neg c0] at h0⊢
 by_cases c2:c.kind=2
 ·rw [if_pos c2] at h0⊢
  obtain ⟨a1,a2,a3⟩:=aaW h0
  exact ⟨cG.2 (.inr (.inr (.inl ⟨a1,a2⟩))),by rw [a1,c2]⟩
 rw [if_neg c2] at h0⊢
 by_cases c4:c.kind=4
 ·rw [if_pos c4] at h0⊢
  have:=yS aBh h0
  exact ⟨cG.2 (.inr (.inr (.inr (.inr ⟨jC this,this⟩)))),by rw [jC this,c4]⟩
 rw [if_neg c4] at h0⊢
 have h13:c.kind=1\/c.kind=3:=by omega
 have hM:c.kind=1->lR ⟨c.kind,Vl.zero,[]⟩=true:=λe=>rW.2 ⟨⟨e,rfl⟩,by simp,List.Pairwise.nil⟩
 have hB:c.kind=3->jI ⟨c.kind,Vl.zero,[]⟩=true:=λe=>jV.2 ⟨⟨e,rfl⟩,by simp,List.Pairwise.nil⟩
 by_cases v0:v.kind=0
 ·rw [if_pos v0]
  rcases h13 with e|e
  ·exact ⟨cG.2 (.inr (.inl ⟨e,hM e⟩)),rfl⟩
  ·exact ⟨cG.2 (.inr (.inr (.inr (.inl ⟨e,hB e⟩)))),rfl⟩
 rw [if_neg v0] at h0⊢
 by_cases c3:c.kind=3
 ·rw [if_pos c3]
  have hk1:v.kind=1:=by
   have:v.kind=dW c:=Classical.byContradiction λz=>q2 ⟨v0,z⟩
   rw [this];unfold dW;rw [if_neg (by omega),if_pos (.inr c3)]
  have hk:(nA ⟨c.kind,Vl.zero,[]⟩ v.n w.dot).kind=c.kind:=by unfold nA;split<;>rfl
  exact ⟨cG.2 (.inr (.inr (.inr (.inl ⟨by rw [hk,c3],zL (hB c3) (alE hvr hk1) hd⟩)))),hk⟩
 ·rw [if_neg c3]
  have c1:c.kind=1:=by omega
  exact ⟨cG.2 (.inr (.inl ⟨c1,tY (hM c1) hvr hd⟩)),rfl⟩
end Go.Proofs.YtloecjjehapblaaGreatDoor
namespace Go.Proofs.YtloecjjehapblaaGreatDoor
open Go Go.Abs
attribute [local irreducible] Ev PWp
set_option maxRecDepth 10000
set_option maxHeartbeats 4000000
theorem apI {α:Type} {f:α->Bool}:∀{l:List α} {i:Nat} (h:i<l.length),f l[i]=true->(∀j (hj:j<l.length),j<i->f l[j]=false)->acA f l=i
 |[],_,h,_,_=>by simp at h
 |a::l,0,_,hf,_=>by rw [qB,if_pos (show f a=true from hf)]
 |a::l,i+1,h,hf,hn=>by
  rw [qB,if_neg (by rw [show f a=false from hn 0 (by simp) (by omega)];simp),apI (l:=l) (i:=i) (by simpa using h) hf λj hj hji=>hn (j+1) (by simp;omega) (by omega)]
theorem amU {α:Type} {f:α->Bool}:∀{l:List α},(∀j (hj:j<l.length),f l[j]=false)->acA f l=l.length
 |[],_=>rfl
 |a::l,hn=>by
  rw [qB,if_neg (by rw [show f a=false from hn 0 (by simp)];simp),amU (l:=l) λj hj=>hn (j+1) (by simp;omega)];rfl
def atZ (st:aJ) (c:Cl) (r:PV) (S:aJ):Prop:=∃id,r= .agg [(PV.val (Value.int .i64 (c.kind))),(PV.val (Value.int .i64 (c.val.kind))),(PV.val (Value.int .i64 (c.val.n))),(PV.val (Value.string (c.val.s))), .vec id 11 0 c.parts.length]/\st id=none/\S=upd st id (some (.arr 190 (c.parts.map Pt.cells)))
theorem aqS {f:FuncId} {args:List PV} {c:Cl} (h:∀st,PC Tryz.prog f args st (atZ st c)):PF Tryz.prog f args (.agg c.cells):=λst=>
 gL (sz:=11) (h st) λp st' h=>by
  obtain ⟨id,rfl,h3,rfl⟩:=h
  exact .inl ⟨id,190,c.parts.map Pt.cells,_,st,aB _ _ _,qM, .agg (.cons .refl (.cons .refl (.cons .refl (.cons .refl (.cons (gJ (by simp)) .nil))))),cX h3,rfl,rfl⟩
theorem aDi (l:List Pt) (fid:FuncId) (caps:List PV) (f:Pt->Bool) (hl:l.length<1000000000) (hf:∀p,PF Tryz.prog fid ([.agg p.cells]++caps) (PV.val (Value.bool (f p)))) (st:aJ):PC Tryz.prog 312 [.seq (l.map Pt.cells), .fn fid caps] st λr S=>∃id,r= .vec id 11 0 (l.filter f).length/\st id=none/\S=upd st id (some (.arr 190 ((l.filter f).map Pt.cells))):=by
 refine bZ aF Tryz.func312 (by kernel_rfl) rfl rfl rfl rfl ?_
 (try apply wO pk;rfl);(repeat' (show All _;constructor))
 refine mV 5 190 11 rfl rfl rfl (λid hid=> ?_)
 refine aK (X:={x:Nat×Nat//x.1<=l.length/\st x.2=none}) (λi=>((((((St.nil 23 (upd st i.1.2 (some (.arr 190 (((l.take i.1.1).filter f).map Pt.cells))))).pv 1 (.fn fid caps)).pv 5 (.vec i.1.2 11 0 ((l.take i.1.1).filter f).length)).pv 8 (.seq (l.map Pt.cells))).pv 9 ((PV.val (Value.int .i64 ((((l.map Pt.cells)).length:Nat)))))).pv 10 ((PV.val (Value.int .i64 ((i.1.1:Nat))))))) (λi=>l.length-i.1.1) ⟨(0,id),by simp,hid⟩ ?_ (λi=> ?_)
 ·dsimp only
  (((repeat refine Sub.pv ?_ rfl);(exact Sub.nil _ _ _ (zsr _) rfl)))
 obtain ⟨⟨i,id⟩,hi,hid⟩:=i
 simp only at hi hid
 dsimp only
 by_cases hend:l.length<=i
 ·have e:l.take i=l:=List.take_of_length_le hend
  rw [e]
  (try apply wO pk;rfl);(repeat' first|show All _;constructor|apply wC pk;rfl;rfl|refine aA rfl ?_ ?_<;>intro h<;>(try simp at h)<;>try omega|(try refine aC ?_);((refine ⟨_,_,_,rfl,zwr _,zsr _, ?_⟩;(exact ⟨id,rfl,hid,rfl⟩);done)))
 have h1:i<l.length:=by omega
 have hfi:=hf l[i]
 have hle:((l.take i).filter f).length<=l.length:=Nat.le_trans (List.length_filter_le ..) (by simp;omega)
 cases hb:f l[i] with
 |false=>
  have e:(l.take (i+1)).filter f=(l.take i).filter f:=by rw [List.take_succ_eq_append_getElem h1,List.filter_append];simp [hb]
  rw [hb] at hfi
  (try apply wO pk;rfl);(repeat' first|show All _;constructor|show Imp _ _;constructor|apply wC pk;rfl;rfl|apply wE pk;rfl;rfl|refine aA rfl ?_ ?_<;>intro h<;>(try simp at h)<;>try omega|(apply aH;rfl;rfl;rfl;(intro _;apply hfi<;>first|assumption|omega);rotate_left;rfl;rfl)|apply aN pk;(iterate 6 rfl);rotate_left;rfl;(intro hw;rfl);(intro hw;apply aI<;>omega);(intro _;rfl);rfl|refine ⟨⟨(i+1,id),by simp only;omega,hid⟩, ?_,by simp only;omega⟩;((dsimp only;rw [e]));((repeat refine Sub.pv ?_ rfl);exact Sub.nil _ _ _ (zsr _) rfl)|intros;(try simp only [zql]);omega)
 |true=>
  have e:(l.take (i+1)).filter f=(l.take i).filter f++[l[i]]:=by rw [List.take_succ_eq_append_getElem h1,List.filter_append];simp [hb]
  rw [hb] at hfi
  generalize (l.take i).filter f=K at*
  (try apply wO pk;rfl);(repeat' first|show All _;constructor|show Imp _ _;constructor|apply wC pk;rfl;rfl|apply wE pk;rfl;rfl|refine aA rfl ?_ ?_<;>intro h<;>(try simp at h)<;>try omega|(apply aH;rfl;rfl;rfl;(intro _;apply hfi<;>first|assumption|omega);rotate_left;rfl;rfl)|apply aN pk;(iterate 6 rfl);rotate_left;rfl;(intro hw;rfl);(intro hw;apply aI<;>omega);(intro _;rfl);rfl|(apply apV pk (f:=Pt.cells) [l[i]] 96;(iterate 9 rfl);(exact aB _ _ _);(omega);exact λ_=>rfl;exact λ_=>rfl;exact tV;((focus (simp;omega)));((focus (simp;omega)));rfl;intro id' hid')|(refine ⟨⟨(i+1,id'),by simp only;omega,iH hid'⟩, ?_,by simp only;omega⟩;((dsimp only;rw [e]));(((repeat (first|refine Sub.pv ?_ rfl|refine Sub.pv' ?_ rfl (by (first|rfl|simp))));(exact Sub.nil _ _ _ (cQ ‹_›) rfl))))|intros;(try simp only [zql]);omega)
theorem aGg (a b:Dt):(decide (a.dev=b.dev)&&decide (a.seq=b.seq))=decide (a=b):=by
 rw [Bool.eq_iff_iff];simp [Dt.ext_iff]
theorem aoH (d:Dt) (kn:List Int) (hk:kn.length<1000000000000) (p:Pt):PF Tryz.prog 313 ([.agg p.cells]++[.rp d.cells, .rp [.seq (kn.map I1)]]) (PV.val (Value.bool (qW d kn p))):=by
 have h:=aeJ kn p.dot hk
 have e:qW d kn p=(!(decide (p.dot.dev=d.dev)&&decide (p.dot.seq=d.seq))&& !alN kn p.dot):=by unfold qW;rw [aGg];simp
 rw [e]
 generalize alN kn p.dot=H at*
 refine aG aF Tryz.func313 (by kernel_rfl) rfl rfl rfl rfl (λst=> ?_)
 (try apply wO pk;rfl);(repeat' first|show All _;constructor|show Imp _ _;constructor|show ImpX _ _ _ _;constructor|apply wE pk;rfl;rfl|(refine aC ?_;refine ⟨_,_,_,rfl,zwr _,zsr _, ?_,rfl⟩;try rfl)|(apply aH;rfl;rfl;rfl;(intro _;apply h<;>first|assumption|omega);rotate_left;rfl;rfl))
theorem awB (c:Cl) (v:Vl) (d:Dt) (kn:List Int) (hl:c.parts.length<1000000000) (hk:kn.length<1000000000000) (st:aJ):PC Tryz.prog 242 [.agg c.cells, .agg v.cells, .agg d.cells, .seq (kn.map I1)] st (atZ st (gV c v d kn)):=by
 have hkp:=aDi c.parts 313 [.rp d.cells, .rp [.seq (kn.map I1)]] (qW d kn) hl (aoH d kn hk)
 have hKl:=List.length_filter_le (qW d kn) c.parts
 unfold atZ gV
 dsimp only
 generalize c.parts.filter (qW d kn)=K at*
 refine bZ aF Tryz.func242 (by kernel_rfl) rfl rfl rfl rfl ?_
 focus ((try apply wO pk;rfl);(repeat' first|show All _;constructor|apply wE pk;rfl;rfl|(apply cB;rfl;rfl;(apply (hkp _)<;>first|exact aB _ _ _|assumption|omega|(fail));rfl;rfl;rfl;intro _ st' hR;obtain ⟨id,rfl,hid,rfl⟩:=hR)|apply bC 6;rfl;rfl|apply bC 7;rfl;rfl))
 have hid:st id=none:=hid
 refine aK (X:={x:Nat//x<=K.length/\∀j (h:j<K.length),j<x->bG K[j].dot d=false}) (λi=>((((((((((St.nil 42 (upd st id (some (.arr 190 (K.map Pt.cells))))).var 4 80 (c.cells)).var 5 57 (v.cells)).pv 6 (.rp d.cells)).var 8 80 ([(PV.val (Value.int .i64 (0))),(PV.val (Value.int .i64 (0))),(PV.val (Value.int .i64 (0))),(PV.val (Value.string (e0))), .val (.slice none 0 0)])).pv 9 (.vec id 11 0 K.length)).pv 10 ((PV.val (Value.int .i64 ((K.length:Nat)))))).pv 19 (.vec id 11 0 K.length)).pv 20 ((PV.val (Value.int .i64 ((K.length:Nat)))))).pv 21 ((PV.val (Value.int .i64 ((i.1:Nat))))))) (λi=>K.length-i.1) ⟨0,by omega,by omega⟩ ?_ (λi=> ?_)
 ·(((repeat (first|refine Sub.pv ?_ rfl|refine Sub.var ?_ rfl rfl));(exact Sub.nil _ _ _ (zsr _) rfl)))
 obtain ⟨i,hi,hI⟩:=i
 dsimp only
 have hins:=λ(k:Nat) (hk:k<=K.length) (st2:aJ) (hst:st2 id=some (.arr 190 (K.map Pt.cells)))=>ahM K [ptN v d] k id K.length st2 hst rfl hk (by simp) (by simp;omega)
 by_cases hend:K.length<=i
 ·have e:=amU (f:=λp:Pt=>bG p.dot d) λj hj=>hI j hj (by omega)
  rw [e]
  (try apply wO pk;rfl);(repeat' first|refine aC ?_;exact ⟨_,_,upd st id2 (some (.arr 190 ((dJ K K.length [ptN v d]).map Pt.cells))),rfl,zwr _,mC hid,id2,rfl,gQ hid hid2,rfl⟩|show All _;constructor|apply wC pk;rfl;rfl|apply wE pk;rfl;rfl|refine aA rfl ?_ ?_<;>intro h<;>(try simp at h)<;>try omega|(apply cB;rfl;rfl;(apply (hins K.length (Nat.le_refl _) _ (aB _ _ _))<;>first|exact aB _ _ _|assumption|omega|(fail));rfl;rfl;rfl;intro _ st' hR;obtain ⟨id2,rfl,hid2,rfl⟩:=hR))
 have hil:i<K.length:=by omega
 have hby:=adZ K[i].dot d
 have hpos:=aqF K[i].dot d
 cases hb:bG K[i].dot d with
 |true=>
  have e:=apI (f:=λp:Pt=>bG p.dot d) hil hb hI
  rw [e]
  rw [hb] at hpos
  have hpos:byD K[i].dot d>0:=by simpa using hpos
  generalize byD K[i].dot d=B at*
  (try apply wO pk;rfl);(repeat' first|refine aC ?_;exact ⟨_,_,upd st id2 (some (.arr 190 ((dJ K i [ptN v d]).map Pt.cells))),rfl,zwr _,mC hid,id2,rfl,gQ hid hid2,rfl⟩|show All _;constructor|show Imp _ _;constructor|apply wC pk;rfl;rfl|apply wE pk;rfl;rfl|refine aA rfl ?_ ?_<;>intro h<;>(try simp at h)<;>try omega|(apply aH;rfl;rfl;rfl;(intro _;apply hby<;>first|assumption|omega);rotate_left;rfl;rfl)|apply ldL pk Pt.elem (a:=K[i]);rfl;rfl;rotate_left;rfl;(exact aB _ _ _);(intro _;exact (List.getElem?_eq_getElem hil));rfl|apply ixA pk;(iterate 5 rfl);rotate_left;rfl;(intro hw;(exact (show _=((i:Nat):Int) from by omega)));(intro hw;(omega));rfl;(exact Nat.zero_add _)|(apply cB;rfl;rfl;(apply (hins i hi _ (aB _ _ _))<;>first|exact aB _ _ _|assumption|omega|(fail));rfl;rfl;rfl;intro _ st' hR;obtain ⟨id2,rfl,hid2,rfl⟩:=hR))
 |false=>
  rw [hb] at hpos
  have hpos:¬byD K[i].dot d>0:=by simpa using hpos
  have hI2:∀j (h:j<K.length),j<i+1->bG K[j].dot d=false:=λj hj hji=>by
   rcases Nat.lt_succ_iff_lt_or_eq.1 hji with q|q
   ·exact hI j hj q
   ·subst q;exact hb
  generalize byD K[i].dot d=B at*
  (try apply wO pk;rfl);(repeat' first|show All _;constructor|show Imp _ _;constructor|apply wC pk;rfl;rfl|apply wE pk;rfl;rfl|refine aA rfl ?_ ?_<;>intro h<;>(try simp at h)<;>try omega|(apply aH;rfl;rfl;rfl;(intro _;apply hby<;>first|assumption|omega);rotate_left;rfl;rfl)|apply ldL pk Pt.elem (a:=K[i]);rfl;rfl;rotate_left;rfl;(exact aB _ _ _);(intro _;exact (List.getElem?_eq_getElem hil));rfl|apply ixA pk;(iterate 5 rfl);rotate_left;rfl;(intro hw;(exact (show _=((i:Nat):Int) from by omega)));(intro hw;(omega));rfl;(exact Nat.zero_add _)|(refine ⟨⟨i+1,by omega,hI2⟩, ?_,by simp only;omega⟩;(((repeat (first|refine Sub.pv ?_ rfl|refine Sub.var ?_ rfl rfl));(exact Sub.nil _ _ _ (zsr _) rfl))))|intros;(try simp only [zql]);omega)
theorem xO (c:Cl) (v:Vl) (d:Dt) (kn:List Int) (hl:c.parts.length<1000000000) (hk:kn.length<1000000000000):PF Tryz.prog 242 [.agg c.cells, .agg v.cells, .agg d.cells, .seq (kn.map I1)] (.agg (gV c v d kn).cells):=aqS (awB c v d kn hl hk)
def atS (n:Int) (d:Dt):List Value:=[.int .i64 n, .int .i64 d.dev, .int .i64 d.seq]
theorem aB6 (n:Int) (d:Dt) (p:Pt):decide (ahI (ptN (nV n) d) p=0)=qV n d p:=by
 unfold ahI qV gZ ptN nV
 simp only [orI]
 rw [Bool.eq_iff_iff]
 simp only [zde,zba,Dt.ext_iff]
 grind
theorem aCv (c:Cl) (n:Int) (d:Dt) (hl:c.parts.length<1000000000) (st:aJ):PC Tryz.prog 246 [.agg c.cells,(PV.val (Value.int .i64 (n))), .agg d.cells] st (atZ st (nA c n d)):=by
 have hcl:=vD c.parts
 have hah:=λp=>aqI (ptN (nV n) d) p
 have hz:=aB6 n d
 have hng:=λp=>aBF (ptN (nV n) d) p
 refine bZ aF Tryz.func246 (by kernel_rfl) rfl rfl rfl rfl ?_
 focus ((try apply wO pk;rfl);(repeat' first|show All _;constructor|apply wE pk;rfl;rfl|apply mkB (xs:=atS n d);iterate 4 rfl))
 refine aK (X:={x:Nat×Nat//x.1<=c.parts.length/\(∀j (h:j<c.parts.length),j<x.1->qV n d c.parts[j]=false)/\((x.2=c.parts.length/\∀j (h:j<c.parts.length),j<x.1->dP c.parts[j] (ptN (nV n) d)=false)\/(∃h:x.2<c.parts.length,dP c.parts[x.2] (ptN (nV n) d)=true/\∀j (h:j<c.parts.length),j<x.2->dP c.parts[j] (ptN (nV n) d)=false))}) (λi=>((((((((((St.nil 65 st).pv 1 ((PV.val (Value.int .i64 (n))))).var 3 80 (c.cells)).var 5 59 (d.cells)).var 6 80 ([(PV.val (Value.int .i64 (0))),(PV.val (Value.int .i64 (0))),(PV.val (Value.int .i64 (0))),(PV.val (Value.string (e0))), .val (.slice none 0 0)])).pv 8 (.val (aiA 273 (atS n d)))).pv 9 ((PV.val (Value.int .i64 ((i.1.2:Nat)))))).pv 22 (.seq (c.parts.map Pt.cells))).pv 23 ((PV.val (Value.int .i64 (((c.parts.map Pt.cells).length:Nat)))))).pv 24 ((PV.val (Value.int .i64 ((i.1.1:Nat))))))) (λi=>c.parts.length-i.1.1) ⟨(0,c.parts.length),by simp,by simp, .inl ⟨rfl,by simp⟩⟩ ?_ (λi=> ?_)
 ·((repeat (first|refine Sub.pv ?_ rfl|refine Sub.var ?_ rfl rfl|refine Sub.pv' ?_ rfl (by first|rfl|simp)));exact Sub.nil _ _ _ (zsr _) rfl)
 obtain ⟨⟨i,a⟩,hi,hs,ha⟩:=i
 simp only at hi hs ha
 dsimp only
 by_cases hend:c.parts.length<=i
 ·have hno:¬c.parts.any (qV n d)=true:=by
   rw [List.any_eq_true]
   rintro ⟨p,hp,q⟩
   obtain ⟨j,hj,rfl⟩:=List.getElem_of_mem hp
   rw [hs j hj (by omega)] at q;cases q
  have hal:a<=c.parts.length/\acA (λp=>dP p (ptN (nV n) d)) c.parts=a:=by
   rcases ha with ⟨q1,q2⟩|⟨q1,q2,q3⟩
   ·subst q1;exact ⟨Nat.le_refl _,amU λj hj=>q2 j hj (by omega)⟩
   ·exact ⟨by omega,apI q1 q2 q3⟩
  unfold atZ nA
  rw [if_neg hno,hal.2]
  have hal:=hal.1
  dsimp only
  have hins:=λ(id:Nat) (st2:aJ) (hst:st2 id=some (.arr 190 (c.parts.map Pt.cells)))=>ahM c.parts [ptN (nV n) d] a id c.parts.length st2 hst rfl hal (by simp) (by simp;omega)
  (try apply wO pk;rfl);(repeat' first|refine aC ?_;exact ⟨_,_,upd st id2 (some (.arr 190 ((dJ c.parts a [ptN (nV n) d]).map Pt.cells))),rfl,zwr _,mC hid,id2,rfl,gQ hid hid2,rfl⟩|apply wDO pk [0,1,3,4,5,6,7,8,2,9,10,11] [2,9] [] [8,9] [];rfl;rfl;kernel_rfl;rfl;rfl|show All _;constructor|apply wC pk;rfl;rfl|apply wE pk;rfl;rfl|refine aA rfl ?_ ?_<;>intro h<;>(try simp at h)<;>try omega|(apply cB;rfl;rfl;(apply (hcl _ (by omega))<;>first|exact aB _ _ _|assumption|omega|(fail));rfl;rfl;rfl;intro _ st' hR;obtain ⟨id,rfl,hid,rfl⟩:=hR)|(apply cB;rfl;rfl;(apply (hins id _ (aB _ _ _))<;>first|exact aB _ _ _|assumption|omega|(fail));rfl;rfl;rfl;intro _ st' hR;obtain ⟨id2,rfl,hid2,rfl⟩:=hR))
 have hil:i<c.parts.length:=by omega
 have hah:=hah c.parts[i]
 have hz:=hz c.parts[i]
 have hng:=hng c.parts[i]
 have hof:=uE c.parts[i]
 by_cases hsm:qV n d c.parts[i]=true
 ·rw [hsm] at hz
  have hz:ahI (ptN (nV n) d) c.parts[i]=0:=by simpa using hz
  rw [hz] at hah
  have hyes:c.parts.any (qV n d)=true:=List.any_eq_true.2 ⟨_,zgm hil,hsm⟩
  unfold atZ nA
  rw [if_pos hyes]
  (try apply wO pk;rfl);(repeat' first|show All _;constructor|show Imp _ _;constructor|apply wC pk;rfl;rfl|apply wE pk;rfl;rfl|refine aA rfl ?_ ?_<;>intro h<;>(try simp at h)<;>try omega|(try refine aC ?_);((refine ⟨_,_,_,rfl,zwr _,zsr _, ?_⟩;(exact ⟨id,rfl,hid,rfl⟩);done))|(apply aH;rfl;rfl;rfl;(intro _;apply hof<;>first|assumption|omega);rotate_left;rfl;rfl)|apply aN pk;(iterate 6 rfl);rotate_left;rfl;(intro hw;rfl);(intro hw;apply aI<;>omega);(intro _;rfl);rfl|(apply cB;rfl;rfl;(apply (hcl _ (by omega))<;>first|exact aB _ _ _|assumption|omega|(fail));rfl;rfl;rfl;intro _ st' hR;obtain ⟨id,rfl,hid,rfl⟩:=hR)|apply aqQ (xs:=atS n d);rfl;rfl;exact hah;rfl;rfl;rfl)
 have hsm0:qV n d c.parts[i]=false:=by simpa using hsm
 have hs2:∀j (h:j<c.parts.length),j<i+1->qV n d c.parts[j]=false:=λj hj hji=>by
  rcases Nat.lt_succ_iff_lt_or_eq.1 hji with q|q
  ·exact hs j hj q
  ·subst q;exact hsm0
 rw [hsm0] at hz
 have hz:¬ahI (ptN (nV n) d) c.parts[i]=0:=by simpa using hz
 have hbeh:dP c.parts[i] (ptN (nV n) d)=decide (ahI (ptN (nV n) d) c.parts[i]<0):=by
  cases hB:dP c.parts[i] (ptN (nV n) d) with
  |true=>
   rw [hB] at hng
   have:=of_decide_eq_false hng
   exact (decide_eq_true (by omega)).symm
  |false=>
   rw [hB] at hng
   have:=of_decide_eq_true hng
   exact (decide_eq_false (by omega)).symm
 clear hng
 generalize ahI (ptN (nV n) d) c.parts[i]=O at*
 by_cases hneg:O<0
 ·rw [decide_eq_true hneg] at hbeh
  by_cases hae:a=c.parts.length
  ·have ha2:∀j (h:j<c.parts.length),j<i->dP c.parts[j] (ptN (nV n) d)=false:=by
    rcases ha with ⟨_,q⟩|⟨q,_⟩
    ·exact q
    ·omega
   (try apply wO pk;rfl);(repeat' first|show All _;constructor|show Imp _ _;constructor|show ImpX _ _ _ _;constructor|apply wC pk;rfl;rfl|apply wE pk;rfl;rfl|refine aA rfl ?_ ?_<;>intro h<;>(try simp at h)<;>try omega|(apply aH;rfl;rfl;rfl;(intro _;apply hof<;>first|assumption|omega);rotate_left;rfl;rfl)|apply aN pk;(iterate 6 rfl);rotate_left;rfl;(intro hw;rfl);(intro hw;apply aI<;>omega);(intro _;rfl);rfl|apply aqQ (xs:=atS n d);rfl;rfl;exact hah;rfl;rfl;rfl|(refine ⟨⟨(i+1,i),by simp only;omega,hs2, .inr ⟨hil,hbeh,ha2⟩⟩, ?_,by simp only;omega⟩;((repeat (first|refine Sub.pv ?_ rfl|refine Sub.var ?_ rfl rfl));exact Sub.nil _ _ _ (zsr _) rfl))|intros;(try simp only [zql]);omega)
  ·have ha2:∃h:a<c.parts.length,dP c.parts[a] (ptN (nV n) d)=true/\∀j (h:j<c.parts.length),j<a->dP c.parts[j] (ptN (nV n) d)=false:=by
    rcases ha with ⟨q,_⟩|q
    ·exact absurd q hae
    ·exact q
   (try apply wO pk;rfl);(repeat' first|show All _;constructor|show Imp _ _;constructor|show ImpX _ _ _ _;constructor|apply wC pk;rfl;rfl|apply wE pk;rfl;rfl|refine aA rfl ?_ ?_<;>intro h<;>(try simp at h)<;>try omega|(apply aH;rfl;rfl;rfl;(intro _;apply hof<;>first|assumption|omega);rotate_left;rfl;rfl)|apply aN pk;(iterate 6 rfl);rotate_left;rfl;(intro hw;rfl);(intro hw;apply aI<;>omega);(intro _;rfl);rfl|apply aqQ (xs:=atS n d);rfl;rfl;exact hah;rfl;rfl;rfl|(refine ⟨⟨(i+1,a),by simp only;omega,hs2, .inr ha2⟩, ?_,by simp only;omega⟩;((repeat (first|refine Sub.pv ?_ rfl|refine Sub.var ?_ rfl rfl));exact Sub.nil _ _ _ (zsr _) rfl))|intros;(try simp only [zql]);omega)
 ·rw [decide_eq_false hneg] at hbeh
  have ha2:(a=c.parts.length/\∀j (h:j<c.parts.length),j<i+1->dP c.parts[j] (ptN (nV n) d)=false)\/∃h:a<c.parts.length,dP c.parts[a] (ptN (nV n) d)=true/\∀j (h:j<c.parts.length),j<a->dP c.parts[j] (ptN (nV n) d)=false:=by
   rcases ha with ⟨q1,q2⟩|q
   ·refine .inl ⟨q1,λj hj hji=> ?_⟩
    rcases Nat.lt_succ_iff_lt_or_eq.1 hji with q|q
    ·exact q2 j hj q
    ·subst q;exact hbeh
   ·exact .inr q
  (try apply wO pk;rfl);(repeat' first|show All _;constructor|show Imp _ _;constructor|show ImpX _ _ _ _;constructor|apply wC pk;rfl;rfl|apply wE pk;rfl;rfl|refine aA rfl ?_ ?_<;>intro h<;>(try simp at h)<;>try omega|(apply aH;rfl;rfl;rfl;(intro _;apply hof<;>first|assumption|omega);rotate_left;rfl;rfl)|apply aN pk;(iterate 6 rfl);rotate_left;rfl;(intro hw;rfl);(intro hw;apply aI<;>omega);(intro _;rfl);rfl|apply aqQ (xs:=atS n d);rfl;rfl;exact hah;rfl;rfl;rfl|(refine ⟨⟨(i+1,a),by simp only;omega,hs2,ha2⟩, ?_,by simp only;omega⟩;((repeat (first|refine Sub.pv ?_ rfl|refine Sub.var ?_ rfl rfl));exact Sub.nil _ _ _ (zsr _) rfl))|intros;(try simp only [zql]);omega)
theorem aaI (c:Cl) (n:Int) (d:Dt) (hl:c.parts.length<1000000000):PF Tryz.prog 246 [.agg c.cells,(PV.val (Value.int .i64 (n))), .agg d.cells] (.agg (nA c n d).cells):=aqS (aCv c n d hl)
end Go.Proofs.YtloecjjehapblaaGreatDoor
