import Derived.Test.YtnogfoojjaainaaGreatDoorClAc
import Derived.Test.YtnogfoojjaainaaGreatDoorAbsE
import Derived.Test.YtnogfoojjaainaaGreatDoorClAa
set_option linter.unusedSimpArgs false
set_option linter.unusedVariables false
namespace Go.Proofs.YtnogfoojjaainaaGreatDoor.T
open Go Go.Abs
section
attribute [local irreducible] Ev PWp
set_option maxRecDepth 10000
set_option maxHeartbeats 4000000
theorem FamB.toHS {st S:aD} {l:List Pt} {idm id5 id8 id9:Nat} {K:List (Nm×(Nat×Nat))} (h:FamB st l idm K S) {c5 c8 c9 i:AObj} (h5:S id5=none) (h8:upd S id5 (some c5) id8=none) (h9:upd (upd S id5 (some c5)) id8 (some c8) id9=none)
  (s:c5= .cells 328 [.mref idm]) (t:c8= .cells 114 [.val (.slice none 0 0)]) (u:i= .cells 329 [.fn 292 [.ref id5 0, .ref id8 0, .ref id9 0]]):
  HS st l id5 id8 id9 idm K (upd (upd (upd (upd S id5 (some c5)) id8 (some c8)) id9 (some c9)) id9 (some i)) (fX l) []:=by
 subst s t u
 have m:id8≠id5:=λe=>by rw [e,aA] at h8;cases h8
 rw [aB m] at h8
 have f:id9≠id8:=λe=>by rw [e,aA] at h9;cases h9
 rw [aB f] at h9
 have d:id9≠id5:=λe=>by rw [e,aA] at h9;cases h9
 rw [aB d] at h9
 have g:∀j,S j≠none->j≠id5/\j≠id8/\j≠id9:=λj hj=>⟨λe=>hj (e▸h5),λe=>hj (e▸h8),λe=>hj (e▸h9)⟩
 have o:∀j,S j≠none->(upd (upd (upd (upd S id5 (some (.cells 328 [.mref idm]))) id8 (some (.cells 114 [.val (.slice none 0 0)]))) id9 (some c9)) id9 (some (.cells 329 [.fn 292 [.ref id5 0, .ref id8 0, .ref id9 0]]))) j=S j:=λj hj=>by
  obtain ⟨a,b,c⟩:=g j hj
  rw [aB c,aB c,aB b,aB a]
 refine ⟨λj hj=> ?_,(h.fresh h5).1,(h.fresh h8).1,(h.fresh h9).1,h.mf, ?_,aA _ _ _,(o idm (by rw [h.hm];simp)).trans h.hm,λk id n hk=> ?_,h.ids,h.keys,h.non,λk=> .refl _, .inl ⟨?_,rfl⟩⟩
 ·have:=h.old j hj
  rw [o j (by rw [this];exact hj)];exact this
 ·rw [aB (Ne.symm d),aB (Ne.symm d),aB (Ne.symm m),aA]
 ·obtain ⟨p,q,r⟩:=h.arr k id n hk
  exact ⟨(o id (by rw [p];simp)).trans p,q,r⟩
 ·rw [aB (Ne.symm f),aB (Ne.symm f),aA]
def cR (l:List Pt):List Pt:=if eX l=true/\l.length<=2000 then eN l l.length Nm.zero else []
theorem aCQ (l:List Pt) (st:aD) (hl:l.length<4611686018427387904) (n:eX l=true->(eN l l.length Nm.zero).length=l.length):PC Tryz.prog 229 [.seq (l.map Pt.cells)] st (LR 177 11 st ((cR l).map Pt.cells)):=by
 refine pC Tryz.func229 rfl ?_
 (repeat' first|(apply Cn.cf;focus ((apply (abR l hl));done))|show Cn (.r _ _ _);refine .rr ?_;((have e:cR l=[]:=(by unfold cR;rw [zn];rintro ⟨O,U⟩;rcases ‹_\/_›with q|q;(rw [O] at q;cases q);omega);exact .inr ⟨rfl,by rw [e];rfl,zsr _⟩));done|apply wZ;rfl|show Cn _;constructor|apply wY;rfl|(intro h;simp at h))
 have F:eX l=true/\l.length<=2000:=⟨h.1,by omega⟩;have u:=(eA l).1 F.1;have n:=n F.1;have o:cR l=eN l l.length Nm.zero:=by unfold cR;rw [zp F]
 refine mkM (enc:=Nm.enc) (f:=adC) rfl (λidm g=> ?_);have g:st idm=none:=g
 (repeat' first|apply wZ;rfl|show Cn _;constructor)
 refine aC (X:={x:Nat×aD×List (Nm×(Nat×Nat))//x.1<=l.length/\FamB st (l.take x.1) idm x.2.2 x.2.1}) (λi=>(((((St.nil 45 (i.1.2.1)).var 5 328 ([.mref idm])).pv 23 (.seq (l.map Pt.cells))).pv 24 ((vi ((((l.map Pt.cells)).length:Nat))))).pv 25 ((vi ((i.1.1:Nat)))))) (λi=>l.length-i.1.1) ⟨(0,upd st idm (some (.map (aU Nm.enc adC []))),[]),by simp,FamB.nil g⟩ ?_ (λi=> ?_)
 ·(repeat' first|show Cn (.t _ _);exact Cn.t0|show Cn _;constructor|exact rfl)
 obtain ⟨⟨i,S,K⟩,hi,d⟩:=i;simp only at hi d;dsimp only;have hm:=d.hm;have w:=λh:i<l.length=>aqE (l.take i) (aH (l[i]'h));have G:(l.take i).length<=l.length:=by rw [zlt];omega
 (repeat' first|apply wDm pk;rfl;kernel_rfl;rfl;rfl|(apply Cn.cf;focus ((apply qU);done))|apply wZ;rfl|show Cn _;constructor|exact rfl|(apply aDV pk Nm.key (f:=adC);(iterate 5 rfl);rotate_left;rfl;(assumption);rfl;intro v hv;rotate_left;intro hv;rotate_left)|apply wY;rfl|apply wI;rfl|apply gE;omega|(intro h;simp at h))
 ·skip
  obtain ⟨P,Q,R⟩:=d.arr _ _ _ (rB hv);have w:=w h
  (repeat' ((apply apV pk (f:=Pt.cells) [l[i]'‹_›] 96;(iterate 9 rfl);(assumption);(omega);exact λ_=>rfl;exact λ_=>rfl;exact xS;((focus (simp;omega)));((focus (simp;omega)));rfl;intro b a)))
  have a:S b=none:=a;obtain ⟨J,E,M⟩:=d.fresh a;have s:=Ne.symm E;have N:=Ne.symm (d.notm (rB hv));apply muA pk Nm.key (f:=adC) (k:=aH (l[i]'h)) (v:=(b,v.2+1));exact .inr rfl;rfl;rfl;rfl;rfl;rfl;exact (aB s).trans ((aB N).trans hm);rfl
  (repeat' first|(refine ⟨⟨(i+1,_,_),by simp only;omega,d.step (S1:=upd S v.1 none) (m:=v.2+1) h a (by omega) (λj hj=>aB λe=>hj v.2 (by subst e;exact rB hv))⟩, ?_, ?_⟩)|show Cn (.t _ _);exact Cn.t0|apply wZ;rfl|show Cn _;constructor|exact rfl|omega|simp only [zql];omega)
 ·skip
  have C:=d.non _ hv
  (repeat' ((apply ap0 pk (f:=Pt.cells) [l[i]'‹_›] 96;(iterate 10 rfl);exact λ_=>rfl;exact λ_=>rfl;exact xS;((focus (simp;done)));((focus (simp;done)));rfl;intro b a)))
  have a:S b=none:=a;obtain ⟨J,E,M⟩:=d.fresh a;have s:=Ne.symm E;apply muA pk Nm.key (f:=adC) (k:=aH (l[i]'h)) (v:=(b,1));exact .inr rfl;rfl;rfl;rfl;rfl;rfl;exact (aB s).trans hm;rfl
  (repeat' first|(refine ⟨⟨(i+1,upd (upd S b (some (.arr 177 ([l[i]'h].map Pt.cells)))) idm (some (.map (aU Nm.enc adC (cJ (aH (l[i]'h)) (b,1) K)))),cJ (aH (l[i]'h)) (b,1) K),by simp only;omega,by have q:=d.step (S1:=S) (m:=1) h a (by rw [C];rfl) (λj hj=>rfl);rw [C] at q;exact q⟩, ?_, ?_⟩)|show Cn (.t _ _);exact Cn.t0|apply wZ;rfl|show Cn _;constructor|exact rfl|omega|simp only [zql];omega)
 have H:l.take i=l:=ztl (by omega);rw [H] at d;clear w G
 (repeat' first|apply wZ;rfl|show Cn _;constructor|apply ldR pk;rfl;rfl;rotate_left;rfl;(exact aA _ _ _);rfl;rfl|apply stR pk;rfl;rfl;(exact aA _ _ _);rfl;rfl|(apply fQ 5;rfl;rfl;intro id5 z)|(apply fQ 8;rfl;rfl;intro id8 A)|(apply fQ 9;rfl;rfl;intro id9 B))
 have q:=d.toHS (c8:= .cells 114 [.val (.slice none 0 0)]) (c5:= .cells 328 [.mref idm]) (c9:= .cells 329 [.val .nilFunc]) z A B rfl rfl rfl
 (repeat' first|(apply cP;rfl;(apply (aAn u.named u.formed hl l.length Nm.zero _ _ _ (aoL u) (by rw [n];simp;omega) q));rintro _ st' (⟨A2,hA3,hA4⟩))|apply wZ;rfl|show Cn _;constructor|apply wY;rfl)
 rw [List.nil_append] at hA3;have p:=hA3.old;have D:∀c,st c=none->StSub st (upd st' c none):=λc hn j=>by
  by_cases hj:st j=none
  ·exact .inl hj
  ·right;rw [aB (λe=>by subst e;exact hj hn)];exact (p j hj).symm
 have y:StSub st st':=λj=>by
  by_cases hj:st j=none
  ·exact .inl hj
  ·right;exact (p j hj).symm
 rcases hA3.h8 with ⟨h8,I⟩|⟨c,h8,c1,c2,T⟩
 ·(repeat' first|show Cn (.r _ _ _);refine .rr ?_;((exact .inr ⟨rfl,by rw [o,I];rfl,y⟩));done|apply wZ;rfl|show Cn _;constructor|apply ldR pk;rfl;rfl;rotate_left;rfl;(assumption);rfl;rfl)
 ·(repeat' first|show Cn (.r _ _ _);refine .rr ?_;((exact .inl ⟨c,by rw [o,zql],c2,by rw [o];exact c1,D c c2⟩));done|apply wZ;rfl|show Cn _;constructor|apply ldR pk;rfl;rfl;rotate_left;rfl;(assumption);rfl;rfl)
theorem akG :Tryz.prog.cellsOf 177=11:=(aP aW (t:=177) (n:=11) rfl).2
theorem amA (l:List Pt) (hl:l.length<4611686018427387904) (a:eX l=true->(eN l l.length Nm.zero).length=l.length):PF Tryz.prog 229 [.seq (l.map Pt.cells)] (.seq ((cR l).map Pt.cells)):=
 azD akG λst=>aCQ l st hl a
end
section
set_option maxRecDepth 10000
set_option maxHeartbeats 4000000
inductive Anc (l:List Pt):Pt->List Pt->Prop
 |root {p:Pt} (hp:p∈l) (h0:aH p=Nm.zero):Anc l p [p]
 |step {p u:Pt} {s:List Pt} (hp:p∈l) (hu:u∈l) (e:aG u=aH p) (h0:aH p≠Nm.zero) (h:Anc l u s):Anc l p (s++[p])
theorem Anc.all {l:List Pt} {p:Pt} {s:List Pt} (h:Anc l p s):∀q∈s,q∈l:=by
 induction h with
 |root hp _=>intro q hq;rw [zms.1 hq];exact hp
 |step hp _ _ _ _ ih=>
  intro q hq;rcases zma.1 hq with hq|hq
  ·exact ih q hq
  ·rw [zms.1 hq];exact hp
theorem Anc.fn {l:List Pt} (hn:named l) {p:Pt} {s:List Pt} (h:Anc l p s):∀{t:List Pt},Anc l p t->s=t:=by
 induction h with
 |root hp h0=>intro t ht;cases ht with
  |root=>rfl
  |step _ _ _ h0' _=>exact absurd h0 h0'
 |step hp hu e h0 _ ih=>intro t ht;cases ht with
  |root _ h0'=>exact absurd h0' h0
  |step _ hu' e' _ h'=>
   have:=hn _ hu _ hu' (by rw [e,e']);subst this;rw [ih h']
theorem Anc.last {l:List Pt} {p:Pt} {s:List Pt} (h:Anc l p s):∃r,s=r++[p]:=by
 cases h with
 |root=>exact ⟨[],rfl⟩
 |step=>exact ⟨_,rfl⟩
theorem Anc.ex {l:List Pt} (b:Whole l):∀(n:Nat) (p:Pt),p∈l->(l.filter λq=>dJ q p).length<=n->∃s,Anc l p s
 |n,p,hp,hn=>by
  by_cases h0:aH p=Nm.zero
  ·exact ⟨_, .root hp h0⟩
  ·obtain ⟨u,hu,e,ha⟩:=(b.up p hp).resolve_left h0
   have c:(l.filter λq=>dJ q u).length<(l.filter λq=>dJ q p).length:=rV (a:=u) hu ha (by rw [<-Bool.not_eq_true,jE];omega) λq _ hq=>by
    rw [jE] at ha hq⊢;omega
   cases n with
   |zero=>omega
   |succ n=>
    obtain ⟨s,hs⟩:=Anc.ex b n u hu (by omega);exact ⟨_, .step hp hu e h0 hs⟩
def gB :List Pt->List Pt->Prop
 |_,[]=>False
 |[],_::_=>True
 |a::s,b::t=>a=b/\gB s t\/eS a b
theorem yD (a:Pt):¬eS a a:=by rw [fH];omega
theorem aCY {a b c:Pt} (d:eS a b) (e:eS b c):eS a c:=by rw [fH] at d e⊢;omega
theorem yA :∀(s:List Pt),¬gB s s
 |[],h=>h
 |a::s,h=>by rcases h with ⟨_,h⟩|h;exact yA s h;exact yD a h
theorem amM :∀{s t u:List Pt},gB s t->gB t u->gB s u
 |_,_,[],_,h=>(by cases ‹List Pt› <;>exact h.elim)
 |s,[],_::_,h,_=>(by cases s<;>simp [gB] at h)
 |[],_::_,_::_,_,_=>trivial
 |a::s,b::t,c::u,h1,d=>by
  rcases h1 with ⟨rfl,h1⟩|h1<;>rcases d with ⟨rfl,d⟩|d
  ·exact .inl ⟨rfl,amM h1 d⟩
  ·exact .inr d
  ·exact .inr h1
  ·exact .inr (aCY h1 d)
theorem xW :∀(P:List Pt) {s t:List Pt},gB s t->gB (P++s) (P++t)
 |[],_,_,h=>h
 |a::P,_,_,h=> .inl ⟨rfl,xW P h⟩
def ltP (l:List Pt) (p q:Pt):Prop:=∃s t,Anc l p s/\Anc l q t/\gB s t
theorem axH {l:List Pt} (hn:named l) (p:Pt):¬ltP l p p:=λ⟨s,t,a,b,h⟩=>by rw [a.fn hn b] at h;exact yA _ h
theorem aqA {l:List Pt} (hn:named l) {p q:Pt} (h:ltP l p q) (b:ltP l q p):False:=by
 obtain ⟨s,t,c,d,e⟩:=h;obtain ⟨g,f,h4,h5,a⟩:=b;rw [<-c.fn hn h5,<-d.fn hn h4] at a;exact yA _ (amM e a)
theorem wA {l:List Pt} (h:(l.map aG).Nodup):l.Nodup:=by
 induction l with
 |nil=>exact List.nodup_nil
 |cons a l ih=>
  simp only [zmp,List.nodup_cons] at h;exact List.nodup_cons.2 ⟨λhm=>h.1 (List.mem_map.2 ⟨a,hm,rfl⟩),ih h.2⟩
theorem rG {l:List Pt} (f:Whole l):∀(n:Nat) (k:Nm) (P:List Pt),(∀p∈fX l k,Anc l p (P++[p]))->
  (∀x∈eN l n k,∃q s,q∈cN l k/\Anc l x (P++q::s))/\(eN l n k).Pairwise (ltP l)
 |0,_,_,_=>⟨λx h=>(by cases h),List.Pairwise.nil⟩
 |n+1,k,P,hP=>by
  have hq:∀q∈cN l k,Anc l q (P++[q]):=λq hq=>hP q (iZ hq).2
  have hc:∀q∈cN l k,∀p∈fX l (aG q),Anc l p ((P++[q])++[p]):=λq c p hp=>by
   obtain ⟨e,d⟩:=List.mem_filter.1 hp
   have d:aH p=aG q:=by simpa using d
   have g:=(iZ c).1
   exact .step e g d.symm (by rw [d];exact aaQ (f.formed q g)) (hq q c)
  have key:∀q∈cN l k,∀x∈q::eN l n (aG q),∃s,Anc l x (P++q::s):=λq c x hx=>by
   rcases zmc.1 hx with rfl|hx
   ·exact ⟨[],hq x c⟩
   ·obtain ⟨r,s,_,h⟩:=(rG f n (aG q) (P++[q]) (hc q c)).1 x hx
    exact ⟨r::s,by simpa using h⟩
  constructor
  ·intro x hx
   obtain ⟨q,c,hx⟩:=List.mem_flatMap.1 hx;obtain ⟨s,h⟩:=key q c x hx;exact ⟨q,s,c,h⟩
  ·rw [eN,List.pairwise_flatMap]
   refine ⟨λq c=> ?_, ?_⟩
   ·have j:=rG f n (aG q) (P++[q]) (hc q c)
    rw [List.pairwise_cons];refine ⟨λx hx=> ?_,j.2⟩;obtain ⟨r,s,_,h⟩:=j.1 x hx;refine ⟨_,_,hq q c,h, ?_⟩;have:=xW (P++[q]) (s:=[]) (t:=r::s) trivial
    simpa using this
   ·have hs:=vQ l k
    have i:(cN l k).Nodup:=by
     have:=f.nodup;have e:(fX l k).Nodup:=(List.Pairwise.filter _ (wA this));exact (jJ l k).nodup_iff.2 e
    refine (hs.and i).imp_of_mem fun {a b} ha hb hab x hx y hy=> ?_;obtain ⟨s,e⟩:=key a ha x hx;obtain ⟨t,d⟩:=key b hb y hy;refine ⟨_,_,e,d,xW P (.inr ?_)⟩;by_cases hk:eS a b
    ·exact hk
    ·exact absurd (axY f.named (iZ ha).1 (iZ hb).1 hk hab.1) hab.2
theorem azN {l:List Pt} {n:Nat} {k:Nm} {p:Pt} (hd:auP l n k) (hp:p∈fX l k):p∈eN l n k:=by
 cases n with
 |zero=>rw [show fX l k=[] from hd] at hp;cases hp
 |succ n=>exact List.mem_flatMap.2 ⟨p,(jJ l k).symm.subset hp,by simp⟩
theorem aqL {l:List Pt} {p u:Pt} (hp:p∈fX l (aG u)):∀{n:Nat} {k:Nm},auP l n k->u∈eN l n k->p∈eN l n k
 |0,_,_,hu=>(by cases hu)
 |n+1,k,hd,hu=>by
  obtain ⟨q,hq,hu⟩:=List.mem_flatMap.1 hu
  have a:=hd q (iZ hq).2
  refine List.mem_flatMap.2 ⟨q,hq, ?_⟩
  rcases zmc.1 hu with rfl|hu
  ·exact List.mem_cons_of_mem _ (azN a hp)
  ·exact List.mem_cons_of_mem _ (aqL hp a hu)
theorem amZ {l:List Pt}:∀{n:Nat} {k:Nm} {p:Pt},p∈eN l n k->p∈l
 |0,_,_,h=>(by cases h)
 |n+1,k,p,h=>by
  obtain ⟨q,hq,h⟩:=List.mem_flatMap.1 h
  rcases zmc.1 h with rfl|h
  ·exact (iZ hq).1
  ·exact amZ h
theorem aJn {l:List Pt} (a:Whole l) {p:Pt} {s:List Pt} (h:Anc l p s):p∈eN l l.length Nm.zero:=by
 have hd:=aoL a
 induction h with
 |root hp h0=>exact azN hd (List.mem_filter.2 ⟨hp,by simpa using h0⟩)
 |step hp hu e h0 _ ih=>exact aqL (List.mem_filter.2 ⟨hp,by simpa using e.symm⟩) hd ih
theorem agL {l m:List Pt} (b:l.Nodup) (c:m.Nodup) (h:∀a,a∈l↔a∈m):l.Perm m:=by
 rw [List.perm_iff_count];intro a;rw [b.count,c.count];simp [h a]
theorem anX {l:List Pt} (c:Whole l):(eN l l.length Nm.zero).Perm l/\(eN l l.length Nm.zero).Pairwise (ltP l):=by
 have hs:=(rG c l.length Nm.zero [] λp hp=>by
  obtain ⟨d,f⟩:=List.mem_filter.1 hp
  exact .root d (by simpa using f)).2
 refine ⟨agL ?_ (wA c.nodup) λa=>⟨amZ,λha=> ?_⟩,hs⟩
 ·exact hs.imp fun {a b} h e=>by subst e;exact axH c.named _ h
 ·obtain ⟨s,hs⟩:=Anc.ex c _ a ha (Nat.le_refl _)
  exact aJn c hs
theorem afB (l:List Pt) (hl:l.length<4611686018427387904):PF Tryz.prog 229 [.seq (l.map Pt.cells)] (.seq ((cR l).map Pt.cells)):=
 amA l hl λh=>(anX ((eA l).1 h)).1.length_eq
theorem fW {l:List Pt} (a:Whole l) (hl:l.length<=2000):(cR l).Perm l/\(cR l).Pairwise (ltP l):=by
 unfold cR;rw [zp ⟨(eA l).2 a,hl⟩];exact anX a
theorem jG {l:List Pt} (h:¬(Whole l/\l.length<=2000)):cR l=[]:=by
 unfold cR;rw [zn λ⟨a,b⟩=>h ⟨(eA l).1 a,b⟩]
theorem aaD {l m:List Pt} (c:Whole l) (hl:l.length<=2000) (hp:m.Perm l) (hs:m.Pairwise (ltP l)):cR l=m:=by
 obtain ⟨e,f⟩:=fW c hl;exact uniq (e.trans hp.symm) f hs λa _ b _ h d=>(aqA c.named h d).elim
theorem Inv.perm {l m:List Pt} (hp:l.Perm m) (h:Inv l):Inv m:=
 ⟨λp hm=>h.formed p (hp.symm.subset hm),(hp.map aG).nodup_iff.1 h.nodup,λa ha b hb=>h.times a (hp.symm.subset ha) b (hp.symm.subset hb)⟩
theorem Whole.perm {l m:List Pt} (hp:l.Perm m) (h:Whole l):Whole m where
 toInv:=h.toInv.perm hp
 up p hm:=by
  rcases h.up p (hp.symm.subset hm) with e|⟨u,hu,e⟩
  ·exact .inl e
  ·exact .inr ⟨u,hp.subset hu,e⟩
theorem Anc.perm {l m:List Pt} (hp:∀a,a∈l->a∈m) {p:Pt} {s:List Pt} (h:Anc l p s):Anc m p s:=by
 induction h with
 |root h h0=>exact .root (hp _ h) h0
 |step h hu e h0 _ ih=>exact .step (hp _ h) (hp _ hu) e h0 ih
theorem ltP.perm {l m:List Pt} (hp:∀a,a∈l->a∈m) {p q:Pt} (h:ltP l p q):ltP m p q:=by
 obtain ⟨s,t,b,c,d⟩:=h;exact ⟨s,t,b.perm hp,c.perm hp,d⟩
theorem zU {l m:List Pt} (hp:l.Perm m):cR l=cR m:=by
 by_cases h:Whole l/\l.length<=2000
 ·have hm:Whole m:=h.1.perm hp
  have b:m.length<=2000:=by rw [<-hp.length_eq];exact h.2
  obtain ⟨c,d⟩:=fW hm b;exact aaD h.1 h.2 (c.trans hp.symm) (d.imp λk=>k.perm λa ha=>hp.symm.subset ha)
 ·rw [jG h,jG λk=>h ⟨k.1.perm hp.symm,by rw [hp.length_eq];exact k.2⟩]
end
section
attribute [local irreducible] Ev PWp
set_option maxRecDepth 10000
set_option maxHeartbeats 4000000
theorem xG {l m:List Pt} {i:Nat} (h:l.take i=m.take i) (a:i<l.length) (b:i<m.length) (e:l[i]=m[i]):l.take (i+1)=m.take (i+1):=by
 rw [List.take_succ_eq_append_getElem a,List.take_succ_eq_append_getElem b,h,e]
theorem aiO {l m:List Pt} {i:Nat} (a:i<l.length) (b:i<m.length) (e:l[i]≠m[i]):decide (l=m)=false:=decide_eq_false λh=>by subst h;exact e rfl
theorem adA {l m:List Pt} {i:Nat} (h:l.take i=m.take i) (a:l.length<=i) (b:m.length<=i):decide (l=m)=true:=by
 rw [ztl a,ztl b] at h;exact decide_eq_true h
theorem equal_spec (l m:List Pt) (hl:l.length<4611686018427387904):PF Tryz.prog 100 [.seq (l.map Pt.cells), .seq (m.map Pt.cells)] (vb (decide (l=m))):=by
 refine pF Tryz.func100 rfl (λst=> ?_)
 (repeat' first|apply wZ;rfl|show Cn _;constructor|exact rfl|show (_:PV)=_;(rw [decide_eq_false (λe:l=m=>by subst e;simp at*)]);done|(intro h;simp at h))
 refine aC (X:={x:Nat//x<=l.length/\l.take x=m.take x}) (λi=>(((((St.nil 26 st).pv 0 (.seq (l.map Pt.cells))).pv 1 (.seq (m.map Pt.cells))).pv 12 ((vi ((((l.map Pt.cells)).length:Nat))))).pv 13 ((vi ((i.1:Nat)))))) (λi=>l.length-i.1) ⟨0,by omega,rfl⟩ ?_ (λi=> ?_)
 ·(repeat' first|show Cn _;constructor|exact rfl)
 obtain ⟨i,hi,a⟩:=i;dsimp only;have b:l.length=m.length:=by omega
 (repeat' first|(refine ⟨⟨i+1,by omega,xG a (by omega) (by omega) (by rw [Pt.ext_iff,Vl.ext_iff,Dt.ext_iff,Dt.ext_iff];simpa [and_assoc] using h)⟩, ?_, ?_⟩)|apply wZ;rfl|show Cn _;constructor|exact rfl|apply KR.mk;kernel_rfl|show (_:PV)=_;(first|rw [aiO (i:=i) (by omega) (by omega) (λe=>by simp [e] at h)];done|rw [adA a (by omega) (by omega)]);done|apply wI;rfl|apply gE;omega|omega|simp only [zql];omega|(intro h;simp at h))
def rightP (c:Cl):Int:=if c.kind≠4 then 6 else if c.val≠Vl.zero\/eX c.parts=false then 1 else if 2000<c.parts.length then 2 else if cR c.parts≠c.parts then 3 else 0
theorem yR (l:List Pt):(cR l).length<=l.length:=by
 by_cases h:Whole l/\l.length<=2000
 ·exact Nat.le_of_eq (fW h.1 h.2).1.length_eq
 ·rw [jG h];simp
theorem right_spec (c:Cl) (hl:c.parts.length<4611686018427387904):PF Tryz.prog 150 [.agg c.cells] (vi (rightP c)):=by
 have:=yR c.parts;have hc:(2000<((c.parts.length:Nat):Int))↔2000<c.parts.length:=by omega
 have b:(((c.parts.length:Nat):Int)<=2000)↔¬2000<c.parts.length:=by omega
 refine pF Tryz.func150 rfl (λst=> ?_)
 (repeat' first|apply wZ;rfl|show Cn _;constructor|exact rfl|apply KR.mk;kernel_rfl|((first|apply (abR c.parts hl)|apply (afB c.parts hl)|apply (equal_spec (cR c.parts) c.parts))<;>(omega))|show (_:PV)=_;(first|(simp only [rightP,Vl.ext_iff,Vl.zero,e0];grind)|(obtain ⟨⟨d,e,f⟩,g⟩:=‹(_/\_/\_)/\_›;have a:c.val=Vl.zero:=(Vl.ext_iff _ _).2 ⟨d,e,f⟩;simp only [rightP,a,g];grind));done|apply wY;rfl|(intro h;simp at h)|intro h)
end
end Go.Proofs.YtnogfoojjaainaaGreatDoor.T
namespace Go.Proofs.YtnogfoojjaainaaGreatDoor
open Go Go.Abs
section
set_option maxRecDepth 10000
set_option maxHeartbeats 4000000
theorem azB {α:Type} {r:α->α->Prop} (i:∀{a b c},r a b->r b c->r a c) (d:∀{a},¬r a a):∀{l m:List α},l.Pairwise r->m.Pairwise r->(∀x,x∈l↔x∈m)->l=m
 |[],[],_,_,_=>rfl
 |[],b::m,_,_,h=>absurd ((h b).2 (by simp)) (by simp)
 |a::l,[],_,_,h=>absurd ((h a).1 (by simp)) (by simp)
 |a::l,b::m,h1,h2,h=>by
  have f:=List.pairwise_cons.1 h1
  have g:=List.pairwise_cons.1 h2
  have e:a=b:=by
   rcases zmc.1 ((h a).1 (by simp)) with q|q
   ·exact q
   rcases zmc.1 ((h b).2 (by simp)) with w|w
   ·exact w.symm
   exact absurd (i (g.1 a q) (f.1 b w)) d
  subst e
  refine congrArg (a:: ·) (azB (r:=r) i d f.2 g.2 λx=> ?_)
  constructor
  ·intro q
   rcases zmc.1 ((h x).1 (List.mem_cons_of_mem _ q)) with w|w
   ·subst w;exact absurd (f.1 x q) d
   ·exact w
  ·intro q
   rcases zmc.1 ((h x).2 (List.mem_cons_of_mem _ q)) with w|w
   ·subst w;exact absurd (g.1 x q) d
   ·exact w
def KSort (L:List Ln):Prop:=(L.map (·.key)).Pairwise (· < ·)
theorem KSort.at {L:List Ln} (h:KSort L) {i j:Nat} (a:i<j) (hj:j<L.length):(L[i]'(by omega)).key<L[j].key:=by
 have:=List.pairwise_iff_getElem.1 h i j (by simp;omega) (by simpa using hj) a
 simpa using this
theorem KSort.inj {L:List Ln} (h:KSort L) {i j:Nat} (hi:i<L.length) (hj:j<L.length) (e:L[i].key=L[j].key):i=j:=by
 rcases Nat.lt_trichotomy i j with q|q|q
 ·have:=h.at q hj;omega
 ·exact q
 ·have:=h.at q hi;omega
theorem KSort.eq {L:List Ln} (h:KSort L) {x y:Ln} (hx:x∈L) (hy:y∈L) (e:x.key=y.key):x=y:=by
 obtain ⟨i,hi,rfl⟩:=zgo hx;obtain ⟨j,hj,rfl⟩:=zgo hy;have:=h.inj hi hj e;subst this;rfl
theorem oN {L:List Ln} (h:KSort L) {k:Int} {x:Ln}:bZ L k=some x↔x∈L/\x.key=k:=by
 unfold bZ;constructor
 ·intro q
  exact ⟨List.mem_of_find?_eq_some q,by simpa using List.find?_some q⟩
 ·rintro ⟨hx,rfl⟩
  cases q:L.find? λy=>decide (y.key=x.key) with
  |none=>exact absurd (List.find?_eq_none.1 q x hx) (by simp)
  |some y=>rw [h.eq (List.mem_of_find?_eq_some q) hx (by simpa using List.find?_some q)]
theorem akT {L:List Ln} (h:KSort L) (a x:Ln):x∈qI L a↔x=a\/(x∈L/\x.key≠a.key):=by
 unfold qI;rcases acM L a.key with ⟨j,hj,e,_,hk,_⟩|⟨j,hj,e,_,hk,_,_⟩
 ·rw [e,zp rfl,Int.toNat_natCast]
  constructor
  ·intro hx
   obtain ⟨q,hq,rfl⟩:=zgo hx;rw [List.length_set] at hq;rw [List.getElem_set];split
   ·exact .inl rfl
   ·rename_i b
    exact .inr ⟨zgm hq,λc=>b (h.inj hj hq (hk.trans c.symm))⟩
  ·rintro (rfl|⟨hx,b⟩)
   ·exact List.mem_iff_getElem.2 ⟨j,by simpa using hj,by simp⟩
   ·obtain ⟨q,hq,rfl⟩:=zgo hx
    have d:q≠j:=λc=>b (by subst c;exact hk);exact List.mem_iff_getElem.2 ⟨q,by simpa using hq,by rw [List.getElem_set_ne (Ne.symm d)]⟩
 ·rw [e,zn (by simp),Int.toNat_natCast]
  unfold eC;have c:=List.take_append_drop j L;have:x∈L↔x∈L.take j\/x∈L.drop j:=by rw [<-zma,c]
  simp only [zma,zms];constructor
  ·rintro ((q|q)|q)
   ·exact .inr ⟨this.2 (.inl q),hk x (this.2 (.inl q))⟩
   ·exact .inl q
   ·exact .inr ⟨this.2 (.inr q),hk x (this.2 (.inr q))⟩
  ·rintro (q|⟨q,_⟩)
   ·exact .inl (.inr q)
   ·rcases this.1 q with q|q
    ·exact .inl (.inl q)
    ·exact .inr q
theorem KSort.put {L:List Ln} (h:KSort L) (a:Ln):KSort (qI L a):=by
 unfold qI;rcases acM L a.key with ⟨j,hj,e,_,hk,_⟩|⟨j,hj,e,_,hk,d,b⟩
 ·rw [e,zp rfl,Int.toNat_natCast]
  unfold KSort;rw [List.map_set,<-hk];have:(L.map (·.key)).set j L[j].key=L.map (·.key):=by
   have c:j<(L.map (·.key)).length:=by simpa using hj
   have:=List.set_getElem_self c
   simpa using this
  rw [this];exact h
 ·rw [e,zn (by simp),Int.toNat_natCast]
  unfold KSort eC;have hp:=h;unfold KSort at hp;rw [<-List.take_append_drop j L,List.map_append,List.pairwise_append] at hp;rw [List.map_append,List.map_append,List.pairwise_append,List.pairwise_append];refine ⟨⟨hp.1,List.pairwise_singleton ..,λx hx y hy=> ?_⟩,hp.2.1,λx hx y hy=> ?_⟩
  ·simp only [zmp,List.map_nil,zms] at hy
   subst hy;obtain ⟨z,hz,rfl⟩:=List.mem_map.1 hx;obtain ⟨q,hq,rfl⟩:=zgo hz;rw [zlt] at hq;rw [List.getElem_take];have g:=d q (by omega) (by omega);have k:=hk _ (zgm (show q<L.length by omega));omega
  ·have f:a.key<y:=by
    obtain ⟨z,hz,rfl⟩:=List.mem_map.1 hy;obtain ⟨q,hq,rfl⟩:=zgo hz;rw [zld] at hq;rw [List.getElem_drop];have g:=b (by omega);rcases Nat.eq_zero_or_pos q with rfl|i
    ·exact g
    ·have:=h.at (show j<j+q by omega) (by omega);omega
   rw [zma] at hx;rcases hx with hx|hx
   ·exact hp.2.2 x hx y hy
   ·simp only [zmp,List.map_nil,zms] at hx
    subst hx;exact f
end
section
set_option maxRecDepth 10000
set_option maxHeartbeats 4000000
section
variable {L:List Ln}
end
theorem apC {b:Bs} {k:Int} (h:okT b k=false):aF b k=[]:=by unfold aF;rw [h];rfl
variable {tx:Cl->Int}
theorem gS {t:Tb} {L:List Ln}:sZ tx t L=true↔L.length<=2000/\(∀x∈L,iQ tx t x=true)/\KSort L:=by
 unfold sZ;rw [zba,zde,nM];refine and_congr Iff.rfl ?_;constructor
 ·intro h
  have a:∀i (hi:i<L.length),iQ tx t L[i]=true/\(i=0\/L[i-1]!.key<L[i].key):=λi hi=>by
   have:=h i hi
   unfold lnR at this
   rw [getElem!_pos L i hi] at this
   simpa using this
  refine ⟨λx hx=>by obtain ⟨i,hi,rfl⟩:=zgo hx;exact (a i hi).1, ?_⟩;have key:∀j (hj:j<L.length) i (hi:i<j),(L[i]'(by omega)).key<L[j].key:=by
   intro j
   induction j with
   |zero=>intro _ i hi;exact absurd hi (Nat.not_lt_zero _)
   |succ j ih=>
    intro hj i hi;have:=(a (j+1) hj).2.resolve_left (Nat.succ_ne_zero j);rw [show j+1-1=j from rfl,getElem!_pos L j (by omega)] at this;rcases zls.1 hi with q|q
    ·exact Int.lt_trans (ih (by omega) i q) this
    ·subst q;exact this
  unfold KSort;exact List.pairwise_iff_getElem.2 λi j hi hj b=>by simpa using key j (by simpa using hj) i b
 ·rintro ⟨a,c⟩ i hi
  unfold lnR;rw [getElem!_pos L i hi,a _ (zgm hi),Bool.true_and];rcases Nat.eq_zero_or_pos i with rfl|h0
  ·simp
  ·rw [getElem!_pos L (i-1) (by omega)]
   have:=c.at (show i-1<i by omega) hi;simp [this]
theorem aT {s:Sc} {b:Bs}:bC tx s b=true↔(bS s=0/\b.length=s.length)/\∀k<b.length,sZ tx s[k]! b[k]!.lines=true:=by
 unfold bC;rw [zba,zde,nM];exact Iff.rfl
theorem kI {s:Sc} {b:Bs} (h:bC tx s b=true) (k:Int):KSort (aF b k):=by
 cases hk:okT b k with
 |false=>rw [apC hk];simp [KSort]
 |true=>
  have e:aF b k=b[k.toNat]!.lines:=by unfold aF;rw [zp hk]
  simp only [okT,zba,zde] at hk;rw [e];exact (gS.1 ((aT.1 h).2 k.toNat (by omega))).2.2
theorem afR {s:Sc} {b:Bs} (h:bC tx s b=true) {k:Int} (hk:okT b k=true):sZ tx s[k.toNat]! (aF b k)=true:=by
 have e:aF b k=b[k.toNat]!.lines:=by unfold aF;rw [zp hk]
 simp only [okT,zba,zde] at hk;rw [e];exact (aT.1 h).2 k.toNat (by omega)
theorem aBh {s:Sc} {b:Bs} (h:bC tx s b=true) {k:Int} (hk:okT b k=true) (a:List Ln):bC tx s (agG b k a)=sZ tx s[k.toNat]! a:=by
 obtain ⟨d,f⟩:=aT.1 h;have c:=hk;simp only [okT,zba,zde] at c;obtain ⟨q,rfl⟩:∃q:Nat,k=q:=⟨k.toNat,by omega⟩;have hq:q<b.length:=by omega
 rw [Bool.eq_iff_iff,aT,qP,Int.toNat_natCast];constructor
 ·intro w
  have:=w.2 q hq;rwa [getElem!_pos (agG b q a) q (by rw [qP];exact hq),ayU hq rfl] at this
 ·intro w
  refine ⟨d,λi hi=> ?_⟩;rw [getElem!_pos (agG b q a) i (by rw [qP];exact hi)];by_cases e:(i:Int)=q
  ·rw [ayU hi e,show i=q by omega];exact w
  ·rw [aG0 hi e,<-getElem!_pos b i hi];exact f i hi
end
section
attribute [local irreducible] Ev PWp
set_option maxRecDepth 10000
set_option maxHeartbeats 4000000
theorem abG (o:Option Ln):aJI o= .tup [.agg (o.getD Ln.zero).cells,(vb (o.isSome))]:=by cases o<;>rfl
def ScB (s:Sc):Prop:=∀t∈s,TbB t
theorem aKM (c:Cl) (h:c.parts.length<=1000):aGA T.rightP c:=⟨by omega,λ_=>T.right_spec c (by omega)⟩
theorem BsS.da {n:Nat} {b:Bs} (h:BsS n b) (hn:n<=1000):∀d∈b,aJS T.rightP d:=λd hd=>by
 obtain ⟨f,a⟩:=h.2 d hd
 refine ⟨by omega,λl hl=> ?_⟩
 obtain ⟨g,i,e⟩:=a l hl
 exact ⟨⟨by omega,by omega⟩,λc hc=>aKM c (e c hc)⟩
theorem fT {n:Nat} {b:Bs} (h:BsS n b) (hn:n<=1000) {s:Sc} (hs:ScB s) (hl:s.length<=20):PF Tryz.prog 19 [.agg (scC s), .agg (bsC b)] (vb (bC T.rightP s b)):=
 auY T.rightP s b (by omega) hs (by have:=h.1;omega) (h.da hn)
theorem yU {n:Nat} {b:Bs} (h:BsS n b) (hn:n<=1000) (k key:Int):PF Tryz.prog 55 [.agg (bsC b),(vi (k)),(vi (key))] (.tup [.agg ((bZ (aF b k) key).getD Ln.zero).cells,(vb ((bZ (aF b k) key).isSome))]):=abG _▸wS b k key (h.l hn).2
end
section
set_option maxRecDepth 10000
set_option maxHeartbeats 4000000
def eD {α:Type} (f:α->Int) (l:List α):Int:=(l.find? λx=>decide (f x≠0)).elim 0 f
theorem iA {α:Type} {f:α->Int} {l:List α}:eD f l=0↔∀x∈l,f x=0:=by
 unfold eD;cases e:l.find? λx=>decide (f x≠0) with
 |none=>
  have:=List.find?_eq_none.1 e;simp at this;exact ⟨λ_=>this,λ_=>rfl⟩
 |some x=>
  have a:=List.find?_some e;have b:=List.mem_of_find?_eq_some e;simp at a;exact ⟨λh=>absurd h a,λh=>absurd (h x b) a⟩
theorem sN {α:Type} (f:α->Int) (x:α) (l:List α):eD f (x::l)=if f x=0 then eD f l else f x:=by
 unfold eD;rw [List.find?_cons];by_cases h:f x=0
 ·simp [h]
 ·simp [h]
theorem abB {α:Type} {f:α->Int}:∀{l:List α} {i:Nat} (h:i<l.length),(∀j (hj:j<i),f (l[j]'(by omega))=0)->f l[i]≠0->eD f l=f l[i]
 |x::l,0,_,_,h2=>by rw [sN];exact zn h2
 |x::l,i+1,h,h1,h2=>by
  rw [sN,zp (show f x=0 from h1 0 (by omega))]
  exact abB (l:=l) (Nat.lt_of_succ_lt_succ h) (λj hj=>h1 (j+1) (by omega)) h2
section
variable (sh:Cl->Vl) (ex:Tb->List Vl->Int)
def alT (l:Ln):List Vl:=l.cells_.map sh
def cS (b:Bs) (k:Int):List (List Vl):=(aF b k).map (alT sh)
def bQ (c:Co):Int:=if c.kind=0\/c.kind=1 then c.type_ else if c.kind=2\/c.kind=3 then 1 else if c.kind=4 then 2 else 0
def uT (c:Co) (v:Vl):Int:=if cB v=false then 1 else if v.kind=0/\(c.kind=0\/c.kind=1)/\c.null=false then 7 else if v.kind≠0/\v.kind≠bQ c then 6 else 0
def eR (t:Tb) (r:List Vl):Int:=if t.cols.length=r.length then eD (λk=>uT t.cols[k]! r[k]!) (List.range r.length) else 1
def nQ (u:Nat) (x y:List Vl):Bool:=(decide (x[u]!.kind=1)&&decide (y[u]!.kind=1))&&decide (x[u]!.n=y[u]!.n)
def mJ (t:Tb) (rows:List (List Vl)):Bool:=t.unique.all λu=>decide (rows.Pairwise λx y=>nQ u.toNat x y=false)
def aaX (b:Bs) (t:Tb) (rows:List (List Vl)):Bool:=t.foreign.all λf=>rows.all λr=> !decide (r[f.col.toNat]!.kind=1)||(bZ (aF b f.table) r[f.col.toNat]!.n).isSome
def amJ (m:Su) (g:Int) (r:List Vl):Int:=if r[m.by_.toNat]!.kind=1/\r[m.by_.toNat]!.n=g/\r[m.col.toNat]!.kind=1 then r[m.col.toNat]!.n else 0
def jI (m:Su) (g:Int) (rows:List (List Vl)):Int:=(rows.map (amJ m g)).sum
def aCl (m:Su) (r:List Vl):Bool:=decide (r[m.col.toNat]!.kind=1)&&decide (r[m.col.toNat]!.n<0)
def acU (t:Tb) (rows:List (List Vl)):Bool:=t.sums.all λm=>rows.all λr=> !aCl m r&&(!decide (r[m.by_.toNat]!.kind=1)||decide (jI m r[m.by_.toNat]!.n rows<=m.max))
def ckT (b:Bs) (t:Tb) (rows:List (List Vl)):Int:=
 if eD (eR t) rows≠0 then eD (eR t) rows else if mJ t rows=false then 8 else if eD (ex t) rows≠0 then eD (ex t) rows else if aaX b t rows=false then 10 else if acU t rows=false then 11 else 0
def ckW (s:Sc) (b:Bs):Int:=eD (λk:Nat=>ckT ex b s[k]! (cS sh b k)) (List.range s.length)
structure GoodT (b:Bs) (t:Tb) (rows:List (List Vl)):Prop where
 typ:∀r∈rows,eR t r=0
 uniq:∀u∈t.unique,rows.Pairwise λx y=>nQ u.toNat x y=false
 chk:∀r∈rows,ex t r=0
 frn:∀f∈t.foreign,∀r∈rows,r[f.col.toNat]!.kind=1->(bZ (aF b f.table) r[f.col.toNat]!.n).isSome=true
 neg:∀m∈t.sums,∀r∈rows,aCl m r=false
 max:∀m∈t.sums,∀r∈rows,r[m.by_.toNat]!.kind=1->jI m r[m.by_.toNat]!.n rows<=m.max
variable {sh} {ex}
end
end
section
set_option maxRecDepth 10000
set_option maxHeartbeats 4000000
structure FrOK (s:Sc) (t:Tb) (f:Fr):Prop where
 c1:1<=f.col
 c2:f.col<t.cols.length
 t1:0<=f.table
 t2:f.table<s.length
 act:f.act=0\/f.act=1\/f.act=2
 kind:t.cols[f.col.toNat]!.kind=0
 typ:t.cols[f.col.toNat]!.type_=1
theorem adQ {h b p a n z:Bool} (e:afO h b p a n z=0):h=true/\b=false/\p=false/\a=false/\n=true/\z=false:=by
 unfold afO at e;cases h<;>cases b<;>cases p<;>cases a<;>cases n<;>cases z<;>simp at e⊢
theorem azC {s:Sc} (h:bS s=0) {k:Nat} (hk:k<s.length) {i:Nat} (hi:i<s[k].foreign.length):uI s.length s[k] i=0:=by
 have:=fS h hk (lk5 s.length s[k]!) (by simp [lks]);rw [getElem!_pos s k hk] at this;exact oP this hi
theorem ayK {s:Sc} (h:bS s=0) {k:Nat} (hk:k<s.length) {f:Fr} (hf:f∈s[k].foreign):FrOK s s[k] f:=by
 obtain ⟨i,hi,rfl⟩:=zgo hf;have e:=adQ (azC h hk hi);rw [getElem!_pos s[k].foreign i hi] at e;obtain ⟨b,c,_,d,a,_⟩:=e;unfold gO at b;unfold gD fK at a;simp only [zba,zde,Bool.or_eq_false_iff,decide_eq_false_iff_not] at b c d a;exact ⟨by omega,b.2,by omega,by omega,by omega,a.1,a.2⟩
theorem axJ {s:Sc} (h:bS s=0) {k:Nat} (hk:k<s.length):∀(j i:Nat) (hj:j<s[k].foreign.length) (a:i<j),s[k].foreign[i].col<s[k].foreign[j].col:=by
 intro j
 induction j with
 |zero=>intro i _ h;omega
 |succ j ih=>
  intro i hj a;have e:=adQ (azC h hk hj);have b:=e.2.2.1;rw [show j+1-1=j from rfl,getElem!_pos s[k].foreign (j+1) hj,getElem!_pos s[k].foreign j (by omega)] at b;simp only [Nat.zero_lt_succ,decide_true,Bool.true_and,decide_eq_false_iff_not] at b;rcases zls.1 a with q|q
  ·have:=ih i (by omega) q;omega
  ·subst q;omega
theorem aIZ {s:Sc} (h:bS s=0) {k:Nat} (hk:k<s.length) (i j:Nat) (hi:i<s[k].foreign.length) (hj:j<s[k].foreign.length) (e:s[k].foreign[i].col=s[k].foreign[j].col):i=j:=by
 rcases Nat.lt_trichotomy i j with q|q|q
 ·have:=axJ h hk j i hj q;omega
 ·exact q
 ·have:=axJ h hk i j hi q;omega
theorem jQ {s:Sc} (h:bS s=0):s.length<=16:=by
 unfold bS at h;split at h
 ·cases h
 ·omega
theorem auW {s:Sc} (h:bS s=0) {k:Nat} (hk:k<s.length):s[k].foreign.length<=16:=by
 have:=fS h hk (lk1 s[k]!) (by simp [lks]);rw [getElem!_pos s k hk] at this;unfold lk1 at this;split at this
 ·cases this
 ·omega
variable {tx:Cl->Int}
structure LineOK (tx:Cl->Int) (t:Tb) (l:Ln):Prop where
 k1:0<=l.key
 k2:l.key<1073741824
 len:l.cells_.length=t.cols.length
 kind:∀j (h:j<l.cells_.length),l.cells_[j].kind=t.cols[j]!.kind
 cell:∀c∈l.cells_,iO tx c=true
 zero:l.cells_[0]!.val=⟨1,l.key,e0⟩
 dots:mF l.by_=true
theorem abE {t:Tb} {l:Ln}:iQ tx t l=true↔LineOK tx t l:=by
 unfold iQ pV;simp only [zba,zde,nM];constructor
 ·rintro ⟨⟨⟨a,b,d⟩,h4⟩,h5,e⟩
  have hc:∀j (h:j<l.cells_.length),l.cells_[j].kind=t.cols[j]!.kind/\iO tx l.cells_[j]=true:=λj hj=>by
   have:=h5 j hj
   unfold pW at this
   rw [getElem!_pos l.cells_ j hj,zba,zde] at this
   exact this
  exact ⟨a,b,d,λj hj=>(hc j hj).1,λc f=>by obtain ⟨j,hj,rfl⟩:=zgo f;exact (hc j hj).2,h4,e⟩
 ·rintro ⟨a,b,d,h4,h5,e,g⟩
  refine ⟨⟨⟨a,b,d⟩,e⟩,λj hj=> ?_,g⟩;unfold pW;rw [getElem!_pos l.cells_ j hj,h4 j hj,decide_eq_true rfl,h5 _ (zgm hj)];rfl
theorem sH {s:Sc} {b:Bs} (h:bC tx s b=true) {k:Nat} (hk:k<b.length) {l:Ln} (hl:l∈b[k].lines):LineOK tx s[k]! l:=by
 have:=(aT.1 h).2 k hk;rw [getElem!_pos b k hk] at this;exact abE.1 ((gS.1 this).2.1 l hl)
end
section
set_option maxRecDepth 10000
set_option maxHeartbeats 4000000
section
variable {sh:Cl->Vl} {ex:Tb->List Vl->Int} {tx:Cl->Int}
theorem awN {t:Tb} {r:List Vl} (h:eR t r=0):r.length=t.cols.length:=by
 unfold eR at h;split at h
 ·omega
 ·cases h
theorem GoodT.nil {b:Bs} {t:Tb}:GoodT ex b t []:=⟨λ_ h=>(by cases h),λ_ _=> .nil,λ_ h=>(by cases h),λ_ _ _ h=>(by cases h),λ_ _ _ h=>(by cases h),λ_ _ _ h=>(by cases h)⟩
end
end
section
set_option maxRecDepth 10000
set_option maxHeartbeats 4000000
section
variable {sh:Cl->Vl} {ex:Tb->List Vl->Int} {tx:Cl->Int}
end
end
section
set_option maxRecDepth 10000
set_option maxHeartbeats 4000000
section
variable {tx:Cl->Int} {sh:Cl->Vl}
structure SuOK (t:Tb) (m:Su):Prop where
 c1:1<=m.col
 c2:m.col<t.cols.length
 b1:1<=m.by_
 b2:m.by_<t.cols.length
 m0:0<=m.max
 m1:m.max<=1099511627776
 kc:t.cols[m.col.toNat]!.kind=0
 kb:t.cols[m.by_.toNat]!.kind=0
structure UnOK (t:Tb) (u:Int):Prop where
 c1:1<=u
 c2:u<t.cols.length
 kc:t.cols[u.toNat]!.kind=0
theorem asA {h a n p:Bool} (e:afG h a n p=0):h=true/\a=false/\n=true:=by
 unfold afG at e;cases h<;>cases a<;>cases n<;>cases p<;>simp at e⊢
theorem avB {h p n:Bool} (e:aeR h p n=0):h=true/\n=true:=by
 unfold aeR at e;cases h<;>cases n<;>cases p<;>simp at e⊢
theorem aHJ {s:Sc} (h:bS s=0) {k:Nat} (hk:k<s.length) {m:Su} (hm:m∈s[k].sums):SuOK s[k] m:=by
 obtain ⟨i,hi,rfl⟩:=zgo hm;have:=fS h hk (lk6 s[k]!) (by simp [lks]);rw [getElem!_pos s k hk] at this;have e:sV s[k] i=0:=oP this hi;unfold sV at e;rw [getElem!_pos s[k].sums i hi] at e;obtain ⟨a,c,b⟩:=asA e;unfold gO at a;unfold gD fK at b;simp only [zba,zde,Bool.or_eq_false_iff,decide_eq_false_iff_not] at a c b;exact ⟨a.1.1,a.1.2,a.2.1,a.2.2,by omega,by omega,b.1.1,b.2.1⟩
theorem aHG {s:Sc} (h:bS s=0) {k:Nat} (hk:k<s.length) {u:Int} (hu:u∈s[k].unique):UnOK s[k] u:=by
 obtain ⟨i,hi,rfl⟩:=zgo hu;have:=fS h hk (lk4 s[k]!) (by simp [lks]);rw [getElem!_pos s k hk] at this;have e:sQ s[k] i=0:=oP this hi;unfold sQ at e;rw [getElem!_pos s[k].unique i hi] at e;obtain ⟨a,b⟩:=avB e;unfold gO at a;unfold gD fK at b;simp only [zba,zde] at a b;exact ⟨a.1,a.2,b.1⟩
theorem gH {b:Bs} {k:Nat} (hk:k<b.length):aF b k=b[k].lines:=by
 unfold aF okT;rw [zp (by simp;omega),Int.toNat_natCast,getElem!_pos b k hk]
structure RwOK (t:Tb) (r:List Vl):Prop where
 len:r.length=t.cols.length
 num:∀j<t.cols.length,t.cols[j]!.kind=0->cB r[j]! =true
theorem auG (g:∀c:Cl,c.kind=0->sh c=c.val) {s:Sc} {b:Bs} (hg:bC tx s b=true) {k:Nat} (hk:k<s.length) {r:List Vl} (h:r∈cS sh b k):RwOK s[k] r:=by
 obtain ⟨⟨i,m⟩,_⟩:=aT.1 hg;have e:k<b.length:=by omega
 obtain ⟨l,hl,rfl⟩:=List.mem_map.1 h;rw [gH e] at hl;have hL:=sH hg e hl;rw [getElem!_pos s k hk] at hL;have f:=hL.len;refine ⟨by unfold alT;rw [zql];exact f,λj hj h0=> ?_⟩;have a:j<l.cells_.length:=by omega
 have hc:=hL.cell _ (zgm a);have d:=hL.kind j a;rw [h0] at d;unfold alT;rw [getElem!_pos _ j (by rw [zql];exact a),List.getElem_map,g _ d];unfold iO at hc;rw [zp d,zba] at hc;exact hc.1
theorem awB {v:Vl} (h:cB v=true):(-1099511627776<=v.n/\v.n<=1099511627776)/\(v.kind≠1->v.n=0):=by
 unfold cB at h;split at h
 ·simp only [zba,zde] at h;omega
 ·split at h
  ·simp only [zba,zde] at h;omega
  ·split at h
   ·simp only [zba,zde] at h;omega
   ·cases h
def akS (m:Su) (es:List (Int×Int)) (r:List Vl):List (Int×Int):=if r[m.by_.toNat]!.kind=1 then cJ r[m.by_.toNat]!.n ((cA r[m.by_.toNat]!.n es).getD 0+r[m.col.toNat]!.n) es else es
def mU (m:Su) (rows:List (List Vl)):List (Int×Int):=rows.foldl (akS m) []
theorem ajM {V:Type} (k k':Int) (v:V):∀(l:List (Int×V)),cA k' (cJ k v l)=if k'=k then some v else cA k' l
 |[]=>by simp only [cJ,cA]
 |e::l=>by
  have b:=ajM k k' v l
  simp only [cJ]
  split
  ·rename_i h;simp only [cA];split<;>simp_all
  ·rename_i h;simp only [cA,b];split
   ·rename_i a;rw [zn (λe=>h (by rw [<-e,a]))]
   ·rfl
theorem aHN {V:Type} {k:Int} {v:V}:∀{l:List (Int×V)},(l.map (·.1)).Nodup->(k,v)∈l->cA k l=some v
 |e::l,hn,h=>by
  simp only [zmp,List.nodup_cons] at hn
  simp only [cA]
  rcases zmc.1 h with rfl|h
  ·rw [zp rfl]
  ·rw [zn (λq=>hn.1 (List.mem_map.2 ⟨_,h,q⟩))];exact aHN hn.2 h
theorem aEi {V:Type} {k:Int} {v:V}:∀{l:List (Int×V)},cA k l=some v->(k,v)∈l
 |[],h=>by simp [cA] at h
 |e::l,h=>by
  simp only [cA] at h
  split at h
  ·rename_i q;injection h with h;subst h;rw [q];exact List.mem_cons_self ..
  ·exact List.mem_cons_of_mem _ (aEi h)
theorem afW {V:Type} (k:Int) (v:V):∀(l:List (Int×V)),∀k',k'∈(cJ k v l).map (·.1)->k'=k\/k'∈l.map (·.1)
 |[],k',h=>by simp [cJ] at h;exact .inl h
 |e::l,k',h=>by
  simp only [cJ] at h
  split at h
  ·rename_i q
   simp only [zmp,zmc] at h⊢;rcases h with h|h
   ·exact .inl (h.trans (by first|rfl|exact q.symm))
   ·exact .inr (.inr h)
  ·simp only [zmp,zmc] at h⊢
   exact h.elim (λq=> .inr (.inl q)) λq=>(afW k v l k' q).elim .inl λq=> .inr (.inr q)
theorem axL {V:Type} (k:Int) (v:V):∀(l:List (Int×V)),(l.map (·.1)).Nodup->((cJ k v l).map (·.1)).Nodup
 |[],_=>by simp [cJ]
 |e::l,h=>by
  simp only [zmp,List.nodup_cons] at h
  simp only [cJ]
  split
  ·rename_i q
   simp only [zmp,List.nodup_cons];exact ⟨by first|exact h.1|(rw [q];exact h.1),h.2⟩
  ·rename_i q
   simp only [zmp,List.nodup_cons];exact ⟨λx=>(afW k v l _ x).elim (λy=>q y.symm) h.1,axL k v l h.2⟩
theorem aDQ (m:Su):∀(rows:List (List Vl)) (es:List (Int×Int)),(es.map (·.1)).Nodup->((rows.foldl (akS m) es).map (·.1)).Nodup
 |[],_,h=>h
 |r::rows,es,h=>aDQ m rows _ (by
  unfold akS
  split
  ·exact axL _ _ _ h
  ·exact h)
theorem amE (m:Su) (g:Int) (r:List Vl) (rows:List (List Vl)):jI m g (r::rows)=amJ m g r+jI m g rows:=by unfold jI;rw [zmp,List.sum_cons]
def aC5 (m:Su) (rows:List (List Vl)):Prop:=∀r∈rows,r[m.col.toNat]!.kind≠1->r[m.col.toNat]!.n=0
theorem akU {m:Su} (g:Int):∀{rows:List (List Vl)} (es:List (Int×Int)),aC5 m rows->(cA g (rows.foldl (akS m) es)).getD 0=(cA g es).getD 0+jI m g rows
 |[],es,_=>by simp [jI]
 |r::rows,es,h=>by
  have a:=akU g (rows:=rows) (akS m es r) λx hx=>h x (List.mem_cons_of_mem _ hx)
  have h0:=h r (List.mem_cons_self ..)
  rw [List.foldl_cons,a,amE]
  unfold akS amJ
  by_cases hk:r[m.by_.toNat]!.kind=1
  ·rw [zp hk,ajM]
   by_cases hg:r[m.by_.toNat]!.n=g
   ·rw [zp hg.symm,hg]
    by_cases hc:r[m.col.toNat]!.kind=1
    ·rw [zp ⟨hk,rfl,hc⟩];simp only [Option.getD_some];omega
    ·rw [zn λq=>hc q.2.2,h0 hc];simp only [Option.getD_some];omega
   ·rw [zn (λq=>hg q.symm),zn λq=>hg q.2.1];omega
  ·rw [zn hk,zn λq=>hk q.1];omega
theorem aqS {m:Su} (g:Int):∀{rows:List (List Vl)} (es:List (Int×Int)),(cA g (rows.foldl (akS m) es)).isSome=true↔((cA g es).isSome=true\/∃r∈rows,r[m.by_.toNat]!.kind=1/\r[m.by_.toNat]!.n=g)
 |[],es=>by simp
 |r::rows,es=>by
  rw [List.foldl_cons,aqS g (rows:=rows) (akS m es r)]
  unfold akS
  by_cases hk:r[m.by_.toNat]!.kind=1
  ·rw [zp hk,ajM]
   by_cases hg:g=r[m.by_.toNat]!.n
   ·rw [zp hg]
    exact ⟨λ_=> .inr ⟨r,List.mem_cons_self ..,hk,hg.symm⟩,λ_=> .inl rfl⟩
   ·rw [zn hg]
    constructor
    ·rintro (q|⟨x,hx,q⟩)
     ·exact .inl q
     ·exact .inr ⟨x,List.mem_cons_of_mem _ hx,q⟩
    ·rintro (q|⟨x,hx,q⟩)
     ·exact .inl q
     ·rcases zmc.1 hx with rfl|hx
      ·exact absurd q.2.symm hg
      ·exact .inr ⟨x,hx,q⟩
  ·rw [zn hk]
   constructor
   ·rintro (q|⟨x,hx,q⟩)
    ·exact .inl q
    ·exact .inr ⟨x,List.mem_cons_of_mem _ hx,q⟩
   ·rintro (q|⟨x,hx,q⟩)
    ·exact .inl q
    ·rcases zmc.1 hx with rfl|hx
     ·exact absurd q.1 hk
     ·exact .inr ⟨x,hx,q⟩
def sS (m:Su) (rows:List (List Vl)):Bool:=rows.all λr=>decide (r[m.col.toNat]!.n>=0)
theorem azU {m:Su} {rows:List (List Vl)} (h:aC5 m rows):(sS m rows&&(mU m rows).all λe=>decide (e.2<=m.max))=rows.all λr=> !aCl m r&&(!decide (r[m.by_.toNat]!.kind=1)||decide (jI m r[m.by_.toNat]!.n rows<=m.max)):=by
 have b:=λg=>akU (m:=m) g (rows:=rows) [] h;have a:=λg=>aqS (m:=m) g (rows:=rows) [];have f:=aDQ m rows [] (by simp);change ∀g,(cA g (mU m rows)).getD 0=_ at b;change ∀g,(cA g (mU m rows)).isSome=true↔_ at a;change ((mU m rows).map (·.1)).Nodup at f;simp only [cA,Option.getD_none,Option.isSome_none,Bool.false_eq_true,false_or] at b a;rw [Bool.eq_iff_iff,zba];unfold sS;simp only [zal,zba,Bool.or_eq_true,Bool.not_eq_true',zde,decide_eq_false_iff_not];have d:∀r∈rows,aCl m r=false↔r[m.col.toNat]!.n>=0:=λr c=>by
  unfold aCl
  by_cases hc:r[m.col.toNat]!.kind=1
  ·rw [decide_eq_true hc,Bool.true_and,decide_eq_false_iff_not];omega
  ·rw [decide_eq_false hc,h r c hc];simp
 constructor
 ·rintro ⟨i,j⟩ r c
  refine ⟨(d r c).2 (i r c), ?_⟩;by_cases hk:r[m.by_.toNat]!.kind=1
  ·right
   have hs:=(a r[m.by_.toNat]!.n).2 ⟨r,c,hk,rfl⟩;obtain ⟨v,hv⟩:=Option.isSome_iff_exists.1 hs;have:=j _ (aEi hv);have e:=b r[m.by_.toNat]!.n;rw [hv] at e;simp only [Option.getD_some] at e this;omega
  ·exact .inl hk
 ·intro q
  refine ⟨λr c=>(d r c).1 (q r c).1,λe l=> ?_⟩;obtain ⟨k,v⟩:=e;have hv:=aHN f l;have e:=b k;rw [hv] at e;simp only [Option.getD_some] at e⊢;obtain ⟨r,c,hk,rfl⟩:=(a k).1 (by rw [hv];rfl);have:=(q r c).2.resolve_left λz=>z hk;omega
def aII (u:Nat) (es:List (Int×Bool)) (r:List Vl):List (Int×Bool):=if r[u]!.kind=1 then cJ r[u]!.n true es else es
def asT (u:Nat) (rows:List (List Vl)):List (Int×Bool):=rows.foldl (aII u) []
theorem awW (u:Nat) (g:Int):∀(rows:List (List Vl)) (es:List (Int×Bool)),(cA g (rows.foldl (aII u) es)).getD false=((cA g es).getD false||rows.any λr=>decide (r[u]!.kind=1)&&decide (r[u]!.n=g))
 |[],es=>by simp
 |r::rows,es=>by
  rw [List.foldl_cons,awW u g rows,List.any_cons]
  unfold aII
  by_cases hk:r[u]!.kind=1
  ·rw [zp hk,ajM]
   by_cases hg:g=r[u]!.n
   ·rw [zp hg,decide_eq_true hk,decide_eq_true hg.symm];simp
   ·rw [zn hg,decide_eq_false (show ¬r[u]!.n=g from λq=>hg q.symm)];simp
  ·rw [zn hk,decide_eq_false hk];simp
theorem aCL (u:Nat) (g:Int) (rows:List (List Vl)):(cA g (asT u rows)).getD false=rows.any λr=>decide (r[u]!.kind=1)&&decide (r[u]!.n=g):=by
 have:=awW u g rows [];simp only [cA,Option.getD_none,Bool.false_or] at this;exact this
theorem aHs (u:Nat) {rows:List (List Vl)} {k:Nat} (h:k<rows.length):asT u (rows.take (k+1))=if rows[k][u]!.kind=1 then cJ rows[k][u]!.n true (asT u (rows.take k)) else asT u (rows.take k):=by
 unfold asT;rw [List.take_succ_eq_append_getElem h,List.foldl_append];rfl
theorem aF6 (m:Su) {rows:List (List Vl)} {k:Nat} (h:k<rows.length):mU m (rows.take (k+1))=if rows[k][m.by_.toNat]!.kind=1 then cJ rows[k][m.by_.toNat]!.n ((cA rows[k][m.by_.toNat]!.n (mU m (rows.take k))).getD 0+rows[k][m.col.toNat]!.n) (mU m (rows.take k)) else mU m (rows.take k):=by
 unfold mU;rw [List.take_succ_eq_append_getElem h,List.foldl_append];rfl
def pwU (u:Nat) (rows:List (List Vl)):Prop:=rows.Pairwise λx y=>nQ u x y=false
theorem aKo {u:Nat} {rows:List (List Vl)} {k:Nat} (h:k<rows.length):pwU u (rows.take (k+1))↔pwU u (rows.take k)/\(rows[k][u]!.kind=1->((rows.take k).any λr=>decide (r[u]!.kind=1)&&decide (r[u]!.n=rows[k][u]!.n))=false):=by
 unfold pwU;rw [List.take_succ_eq_append_getElem h,List.pairwise_append];constructor
 ·rintro ⟨a,_,c⟩
  refine ⟨a,λhk=> ?_⟩;rw [List.any_eq_false];intro x hx q;have:=c x hx rows[k] (by simp);unfold nQ at this;simp only [zba,zde] at q;rw [decide_eq_true q.1,decide_eq_true hk,decide_eq_true q.2] at this;cases this
 ·rintro ⟨a,b⟩
  refine ⟨a,List.pairwise_singleton ..,λx hx y hy=> ?_⟩;rw [zms] at hy;subst hy;by_cases hk:rows[k][u]!.kind=1
  ·have:=List.any_eq_false.1 (b hk) x hx
   unfold nQ;rw [decide_eq_true hk]
   simpa using this
  ·unfold nQ
   rw [decide_eq_false hk];simp
theorem aCt {t:Tb} {rows:List (List Vl)} (h:∀j (hj:j<t.unique.length),pwU t.unique[j].toNat rows):mJ t rows=true:=by
 unfold mJ;rw [zal];intro u hu;obtain ⟨j,hj,rfl⟩:=zgo hu;exact decide_eq_true (h j hj)
theorem aGo {t:Tb} {rows:List (List Vl)} {j k:Nat} (hj:j<t.unique.length) (h:¬pwU t.unique[j].toNat (rows.take k)):mJ t rows=false:=by
 unfold mJ;rw [<-Bool.not_eq_true,zal];intro q;exact h ((of_decide_eq_true (q _ (zgm hj))).sublist (List.take_sublist ..))
theorem azR {f:Nat->Int} {n i:Nat} (h:i<n) (a:∀j<i,f j=0) (b:f i≠0):eD f (List.range n)=f i:=by
 have:=abB (f:=f) (l:=List.range n) (i:=i) (by simpa using h) (λj hj=>by rw [List.getElem_range];exact a j hj) (by rw [List.getElem_range];exact b);rwa [List.getElem_range] at this
theorem agX {f:Nat->Int} {n:Nat} (h:∀j<n,f j=0):eD f (List.range n)=0:=iA.2 λj hj=>h j (List.mem_range.1 hj)
theorem jP {α:Type} {f:α->Int} {l:List α} (h:∀j (hj:j<l.length),f l[j]=0):eD f l=0:=iA.2 λx hx=>by
 obtain ⟨j,hj,rfl⟩:=zgo hx
 exact h j hj
theorem oB {α:Type} {f:α->Int} {l:List α} {i:Nat} (b:∀j (h:j<l.length),j<i->f l[j]=0) (h:i<l.length) (hf:f l[i]=0):∀j (h:j<l.length),j<i+1->f l[j]=0:=λj hj a=>by
 rcases zls.1 a with q|q
 ·exact b j hj q
 ·subst q;exact hf
theorem oK {α:Type} {f:α->Int} {l:List α} {i:Nat} (a:∀j (h:j<l.length),j<i->f l[j]=0) (h:i<l.length) (hf:f l[i]≠0):eD f l=f l[i]:=abB h (λj hj=>a j (by omega) hj) hf
end
end
section
attribute [local irreducible] Ev PWp
set_option maxRecDepth 10000
set_option maxHeartbeats 4000000
theorem asX (c:Co):PF Tryz.prog 273 [.agg c.cells] (vi (bQ c)):=by
 unfold bQ;refine pF Tryz.func273 rfl (λst=> ?_)
 (repeat' first|apply wZ;rfl|show Cn _;constructor|exact rfl|show (_:PV)=_;((simp [*];done));done|intro h)
theorem asJ (c:Co) (v:Vl):PF Tryz.prog 206 [.agg c.cells, .agg v.cells] (vi (uT c v)):=by
 have hv:=jY v;have hk:=asX c;unfold uT;generalize cB v=A at*;generalize bQ c=K at*;refine pF Tryz.func206 rfl (λst=> ?_)
 (repeat' first|apply wZ;rfl|show Cn _;constructor|exact rfl|apply KR.mk;kernel_rfl|((first|apply hv|apply hk))|show (_:PV)=_;(first|simp [*];done|grind);done|apply wY;rfl|(intro h;simp at h)|intro h)
theorem aiA (t:Tb) (r:List Vl) (hc:t.cols.length<1000000000000000) (g:r.length<1000000000000000):PF Tryz.prog 124 [.seq (t.cols.map Co.cells), .seq (r.map Vl.cells)] (vi (eR t r)):=by
 unfold eR;by_cases hl:¬t.cols.length=r.length
 ·rw [zn hl]
  refine pF Tryz.func124 rfl (λst=> ?_)
  (repeat' first|apply wZ;rfl|show Cn _;constructor|exact rfl|simp only [zql];omega|(intro h;simp at h))
 replace hl:=zdn hl
 rw [zp hl];refine pF Tryz.func124 rfl (λst=> ?_)
 focus ((repeat' first|apply wZ;rfl|show Cn _;constructor|simp only [zql];omega|(intro h;simp at h)))
 refine aC (X:={x:Nat//x<=r.length/\∀j<x,uT t.cols[j]! r[j]! =0}) (λi=>(((((St.nil 30 st).pv 0 (.seq (t.cols.map Co.cells))).pv 13 (.seq (r.map Vl.cells))).pv 14 ((vi ((((r.map Vl.cells)).length:Nat))))).pv 15 ((vi ((i.1:Nat)))))) (λi=>r.length-i.1) ⟨0,by omega,by omega⟩ ?_ (λi=> ?_)
 ·(repeat' first|show Cn _;constructor|exact rfl)
 obtain ⟨i,hi,c⟩:=i;dsimp only;by_cases d:r.length<=i
 ·have e:eD (λk=>uT t.cols[k]! r[k]!) (List.range r.length)=0:=agX λj hj=>c j (by omega)
  (repeat' first|apply wZ;rfl|show Cn _;constructor|exact rfl|show (_:PV)=_;(rw [e]);done|simp only [zql];omega|(intro h;simp at h))
 have a:i<r.length:=by omega
 have b:i<t.cols.length:=by omega
 have hk:=asJ t.cols[i] r[i];have e:=azR (f:=λk=>uT t.cols[k]! r[k]!) a c;have hu:uT t.cols[i] r[i]=0->∀j<i+1,uT t.cols[j]! r[j]! =0:=λh j hj=>by
  rcases zls.1 hj with q|q
  ·exact c j q
  ·subst q;rw [getElem!_pos t.cols j b,getElem!_pos r j a];exact h
 simp only [getElem!_pos t.cols i b,getElem!_pos r i a] at e;generalize uT t.cols[i] r[i]=E at*
 (repeat' first|(refine ⟨⟨i+1,by omega,hu ‹_›⟩, ?_, ?_⟩)|apply wZ;rfl|show Cn _;constructor|exact rfl|apply KR.mk;kernel_rfl|(apply hk)|show (_:PV)=_;(rw [e ‹_›]);done|apply wY;rfl|apply wI;rfl|apply gE;omega|omega|simp only [zql];omega|(intro h;simp at h)|intro h)
end
section
set_option maxRecDepth 10000
set_option maxHeartbeats 4000000
def mR (n:Int):PV:=(vi (n))
def Ie (k:Int):Value:= .int .i64 k
theorem aEO {g:G} (a:Int):VR Tryz.prog g 3 [.val (Ie a)] (Ie a):=⟨λh=>absurd (h.symm.trans (show bG Tryz.prog 3=false from by kernel_rfl)) (by simp),λ_=>by simp only [RepL];exact ⟨_,[],rfl,by simp [Rep],rfl⟩⟩
theorem xP :KeyOK Tryz.prog 3 Ie (λk=> .val (Ie k)) where
 und:=rfl
 chk k b w:=iE (k:= .int .i64) (by kernel_rfl) rfl rfl b w
 now kd h a b:=by
  have d:Tryz.prog.underlying 3=some (.int .i64):=by kernel_rfl
  have c:kd= .int .i64:=by
   rw [d] at h;injection h with h
   exact h.symm
  subst c;right;simp only [Ie,Instr.sameNow,if_true]
  congr 1
 eq a b w:=by
  have g:G:=⟨#[],λ_=>none,λ_=>0,λ_=>False⟩;exact gZ aW (g:=g) 8 Op.maxDepth (by decide) 3 _ _ _ _ _ (show peq tt 8 3 [.val (Ie a)] [.val (Ie b)]=some (decide (a=b)) from rfl) (by kernel_rfl) (aEO a) (aEO b)
 rp k g v h:=aI h
 bits k:=afA rfl
end
end Go.Proofs.YtnogfoojjaainaaGreatDoor
namespace Go.Proofs.YtnogfoojjaainaaGreatDoor.X
open Go Go.Abs
section
set_option maxRecDepth 10000
set_option maxHeartbeats 4000000
def v0 :Vl:=⟨0,0,e0⟩
inductive Ex where
 |mk (k n:Int) (v:Vl) (of:List Ex)
def Ex.k :Ex->Int| .mk k _ _ _=>k
def Ex.n :Ex->Int| .mk _ n _ _=>n
def Ex.v :Ex->Vl| .mk _ _ v _=>v
def Ex.of :Ex->List Ex| .mk _ _ _ o=>o
mutual
def Ex.cells :Ex->List PV
 | .mk k n v o=>[(vi (k)),(vi (n)),(vi (v.kind)),(vi (v.n)),(vs (v.s)), .seq (Ex.rows o)]
def Ex.rows :List Ex->List (List PV)
 |[]=>[]
 |e::es=>e.cells::Ex.rows es
end
theorem Ex.rows_map :∀l:List Ex,Ex.rows l=l.map Ex.cells
 |[]=>rfl
 |e::es=>by simp [Ex.rows,Ex.rows_map es]
theorem Ex.rows_len :∀(l:List Ex),(Ex.rows l).length=l.length
 |[]=>rfl
 |e::es=>by simp [Ex.rows,Ex.rows_len es]
theorem Ex.rows_get :∀{l:List Ex} {i:Nat} {x:Ex},l[i]?=some x->(Ex.rows l)[i]?=some x.cells
 |[],_,_,h=>by simp at h
 |e::es,0,x,h=>by simp at h;simp [Ex.rows,h]
 |e::es,i+1,x,h=>by simp at h;simpa [Ex.rows] using Ex.rows_get h
theorem Ex.cells_len :∀(x:Ex),x.cells.length=6
 | .mk _ _ _ _=>by simp [Ex.cells]
mutual
def Ex.ok :Ex->Prop
 | .mk _ _ _ o=>o.length<2^62/\Ex.oks o
def Ex.oks :List Ex->Prop
 |[]=>True
 |e::es=>e.ok/\Ex.oks es
end
mutual
theorem Ex.ok_of :∀(e:Ex),nT e.cells->e.ok
 | .mk k n v o,h=>by
  simp only [Ex.cells,nT,lens,Ex.rows_len] at h
  simp only [Ex.ok]
  exact ⟨h.2.2.2.2.2.1.1,Ex.oks_of o h.2.2.2.2.2.1.2⟩
theorem Ex.oks_of :∀(l:List Ex),tG (Ex.rows l)->Ex.oks l
 |[],_=>by simp [Ex.oks]
 |e::es,h=>by
  simp only [Ex.rows,tG] at h
  simp only [Ex.oks]
  exact ⟨Ex.ok_of e h.1,Ex.oks_of es h.2⟩
end
theorem Ex.oks_mem :∀{l:List Ex} {x:Ex},Ex.oks l->x∈l->x.ok
 |[],_,_,hx=>by cases hx
 |e::es,x,h,hx=>by
  simp only [Ex.oks] at h
  rcases zmc.1 hx with rfl|hx
  ·exact h.1
  ·exact Ex.oks_mem h.2 hx
def gT (l:List Int):List (List PV):=l.map I1
theorem xU {l:List Int} {i:Nat} {x:Int} (h:l[i]?=some x):(gT l)[i]?=some [(vi (x))]:=by simp [gT,h,I1]
theorem sD (l:List Int):(gT l).length=l.length:=by simp [gT]
theorem fV {α:Type} {l:List α} {i:Nat} (h:i<l.length):∃x,l[i]?=some x:=⟨l[i],by simp [h]⟩
end
section
attribute [local irreducible] Ev PWp
set_option maxRecDepth 10000
set_option maxHeartbeats 4000000
theorem xR {k n:Int} {b:ByteArray}:PF Tryz.prog 335 [.agg [(vi (k)),(vi (n)),(vs (b))]] (vb (decide (k=0))):=by
 refine pF Tryz.func335 rfl (λst=> ?_)
 (repeat' first|apply wZ;rfl|show Cn _;constructor|exact rfl)
def oT (v:Vl):Bool:=if v.kind=0 then decide (v.n=0)&&decide (v.s=e0) else if v.kind=1 then (decide (v.s=e0)&&decide (v.n>= -1099511627776))&&decide (v.n<=1099511627776) else if v.kind=2 then decide (v.n=0)&&decide ((v.s.size:Int)<=200) else false
theorem right_spec {k n:Int} {b:ByteArray}:PF Tryz.prog 320 [.agg [(vi (k)),(vi (n)),(vs (b))]] (vb (oT ⟨k,n,b⟩)):=by
 unfold oT;dsimp only;by_cases h0:k=0
 ·rw [zp h0]
  refine pF Tryz.func320 rfl (λst=> ?_)
  (repeat' first|apply wZ;rfl|show Cn _;constructor|exact rfl|show (_:PV)=_;((simp [h0];done));done|omega|intro h)
 by_cases a:k=1
 ·rw [zn h0,zp a]
  refine pF Tryz.func320 rfl (λst=> ?_)
  (repeat' first|apply wZ;rfl|show Cn _;constructor|exact rfl|omega|intro h)
 rw [zn h0,zn a];by_cases c:k=2
 ·rw [zp c]
  refine pF Tryz.func320 rfl (λst=> ?_)
  (repeat' first|apply wZ;rfl|show Cn _;constructor|exact rfl|omega|intro h)
 rw [zn c];refine pF Tryz.func320 rfl (λst=> ?_)
 (repeat' first|apply wZ;rfl|show Cn _;constructor|exact rfl|omega|intro h)
theorem dX {n:Int}:PF Tryz.prog 352 [(vi (n))] (.agg [(vi (1)),(vi (n)),(vs (e0))]):=by
 refine pF Tryz.func352 rfl (λst=> ?_)
 (repeat' first|apply wZ;rfl|show Cn _;constructor|exact rfl)
theorem uO {x:Bool}:PF Tryz.prog 333 [(vb (x))] (.agg [(vi (1)),(vi (if x then 1 else 0)),(vs (e0))]):=by
 refine pF Tryz.func333 rfl (λst=> ?_)
 (repeat' first|apply wZ;rfl|show Cn _;constructor|exact rfl|(apply dX)|show (_:PV)=_;(simp [*];done);done|apply wY;rfl|intro h)
def aDR (v:Vl):Bool:=decide (v.kind=1)&&(decide (v.n=0)&&decide (v.s=e0))
def aJe (v:Vl):Bool:=decide (v.kind=1)&& !decide (v.n=0)
theorem aBH {k n:Int} {b:ByteArray}:PF Tryz.prog 329 [.agg [(vi (k)),(vi (n)),(vs (b))]] (vb (aDR ⟨k,n,b⟩)):=by
 refine pF Tryz.func329 rfl (λst=> ?_)
 (repeat' first|apply wZ;rfl|show Cn _;constructor|exact rfl|apply KR.mk;kernel_rfl|(apply dX)|apply wY;rfl)
theorem aDE {k n:Int} {b:ByteArray}:PF Tryz.prog 330 [.agg [(vi (k)),(vi (n)),(vs (b))]] (vb (aJe ⟨k,n,b⟩)):=by
 refine pF Tryz.func330 rfl (λst=> ?_)
 (repeat' first|apply wZ;rfl|show Cn _;constructor|exact rfl)
theorem aFB {k n:Int} {b:ByteArray} {k' n':Int} {b':ByteArray}:PF Tryz.prog 326 [.agg [(vi (k)),(vi (n)),(vs (b))], .agg [(vi (k')),(vi (n')),(vs (b'))]] (vb (decide (k=k')&&(decide (n=n')&&decide (b=b')))):=by
 refine pF Tryz.func326 rfl (λst=> ?_)
 (repeat' first|apply wZ;rfl|show Cn _;constructor|exact rfl)
def aH1 (a b:ByteArray):Bool:=Op.bytesLess a.toList b.toList
theorem nF {k n:Int} {b:ByteArray} {k' n':Int} {b':ByteArray}:PF Tryz.prog 327 [.agg [(vi (k)),(vi (n)),(vs (b))], .agg [(vi (k')),(vi (n')),(vs (b'))]] (vb (decide (n<n')||aH1 b b')):=by
 refine pF Tryz.func327 rfl (λst=> ?_)
 (repeat' first|apply wZ;rfl|show Cn _;constructor|exact rfl)
theorem aDI {k n:Int} {b:ByteArray} {k' n':Int} {b':ByteArray}:PF Tryz.prog 332 [.agg [(vi (k)),(vi (n)),(vs (b))], .agg [(vi (k')),(vi (n')),(vs (b'))]] (.tup [.agg [(vi (1)),(vi (if decide (n=0) then 1 else 0)),(vs (e0))],(vi (0))]):=by
 refine pF Tryz.func332 rfl (λst=> ?_)
 (repeat' first|apply wZ;rfl|show Cn _;constructor|exact rfl|(apply uO)|apply wY;rfl)
theorem aqK {k n:Int} {b:ByteArray} {k' n':Int} {b':ByteArray}:PF Tryz.prog 334 [.agg [(vi (k)),(vi (n)),(vs (b))], .agg [(vi (k')),(vi (n')),(vs (b'))]] (.tup [.agg [(vi (1)),(vi (if decide (k=0) then 1 else 0)),(vs (e0))],(vi (0))]):=by
 refine pF Tryz.func334 rfl (λst=> ?_)
 (repeat' first|apply wZ;rfl|show Cn _;constructor|exact rfl|((first|apply uO|apply xR))|apply wY;rfl)
def amX (f:FuncId) (op:Int->Int->Int):Prop:=∀a b,PF Tryz.prog f [(vi (a)),(vi (b))] (vi (IntKind.wrap .i64 (op a b)))
theorem aBU :amX 322 (· + ·):=by
 intro a b;refine pF Tryz.func322 rfl (λst=> ?_)
 ((apply aIQ pk 4);rfl;(focus repeat' constructor);(focus repeat' (exact All.nil)))
 refine lB ?_
 iterate 2 (apply mS aW;iterate 4 rfl)
 (apply aGk;iterate 5 rfl)
 (apply mS aW;iterate 4 rfl)
 refine uU ?_
 (repeat' first|apply wZ;rfl|show Cn _;constructor|exact rfl)
theorem aBr :amX 323 (· - ·):=by
 intro a b;refine pF Tryz.func323 rfl (λst=> ?_)
 ((apply aIQ pk 4);rfl;(focus repeat' constructor);(focus repeat' (exact All.nil)))
 refine lB ?_
 iterate 2 (apply mS aW;iterate 4 rfl)
 (apply aGI;iterate 5 rfl)
 (apply mS aW;iterate 4 rfl)
 refine uU ?_
 (repeat' first|apply wZ;rfl|show Cn _;constructor|exact rfl)
theorem aBa :amX 324 (· * ·):=by
 intro a b;refine pF Tryz.func324 rfl (λst=> ?_)
 ((apply aIQ pk 4);rfl;(focus repeat' constructor);(focus repeat' (exact All.nil)))
 refine lB ?_
 iterate 2 (apply mS aW;iterate 4 rfl)
 (apply aGv;iterate 5 rfl)
 (apply mS aW;iterate 4 rfl)
 refine uU ?_
 (repeat' first|apply wZ;rfl|show Cn _;constructor|exact rfl)
def lim (n:Int):Prop:= -4611686018427387904<=n/\n<=4611686018427387904
def aIT (op:Int->Int->Int) (a b:Int):Bool:=(((decide (max a (0-a)>0)&&decide (max b (0-b)>0))&&decide (IntKind.wrap .i64 (op 1 1)=1))&&decide (max a (0-a)>1099511627776/max b (0-b)))
def apX (op:Int->Int->Int) (a b:Int):Bool:=(aIT op a b||decide (IntKind.wrap .i64 (op a b)>1099511627776))||decide (IntKind.wrap .i64 (op a b)< -1099511627776)
theorem aCb {f:FuncId} {op:Int->Int->Int} (hf:amX f op) {k n:Int} {b:ByteArray} {k' n':Int} {b':ByteArray} (c:lim n) (d:lim n'):PF Tryz.prog 351 [.agg [(vi (k)),(vi (n)),(vs (b))], .agg [(vi (k')),(vi (n')),(vs (b'))], .rp [.fn f []]]
  (if apX op n n' then .tup [.agg [(vi (0)),(vi (0)),(vs (e0))],(vi (20))] else .tup [.agg [(vi (1)),(vi (IntKind.wrap .i64 (op n n'))),(vs (e0))],(vi (0))]):=by
 obtain ⟨c,i⟩:=c
 obtain ⟨d,j⟩:=d
 have e:=hf 1 1
 have g:=hf n n'
 have a:apX op n n'=((aIT op n n'||decide (IntKind.wrap .i64 (op n n')>1099511627776))||decide (IntKind.wrap .i64 (op n n')< -1099511627776)):=rfl
 unfold aIT at a
 generalize apX op n n'=R at*
 refine pF Tryz.func351 rfl (λst=> ?_)
 (repeat' first|apply wZ;rfl|show Cn _;constructor|exact rfl|apply KR.mk;kernel_rfl|((first|apply e|apply g|apply dX))|show (_:PV)=_;(first|rw [show R=true from by rw [a];simpa using h];rfl|rw [show R=false from by rw [a];simpa using h];rfl);done|((intro h;(have h:=(aK8 h).2);(simp only [zba,zde] at h);omega))|apply wY;rfl|omega|(intro h;simp at h))
def pT (r:Vl×Int):PV:= .tup [.agg [(vi (r.1.kind)),(vi (r.1.n)),(vs (r.1.s))],(vi (r.2))]
def vN (n:Int):Vl:=⟨1,n,e0⟩
def pL (b:Bool):Vl:=vN (if b then 1 else 0)
def arG (f:FuncId) (caps:List PV) (r:Vl->Vl->Vl×Int):Prop:=
 ∀k n b k' n' b',lim n->lim n'->PF Tryz.prog f ([.agg [(vi (k)),(vi (n)),(vs (b))], .agg [(vi (k')),(vi (n')),(vs (b'))]]++caps) (pT (r ⟨k,n,b⟩ ⟨k',n',b'⟩))
def aIC (f:FuncId) (op:Vl->Vl->Bool):Prop:=∀{k n b k' n' b'},PF Tryz.prog f [.agg [(vi (k)),(vi (n)),(vs (b))], .agg [(vi (k')),(vi (n')),(vs (b'))]] (vb (op ⟨k,n,b⟩ ⟨k',n',b'⟩))
def aJF (f:FuncId) (op:Vl->Bool):Prop:=∀{k n b},PF Tryz.prog f [.agg [(vi (k)),(vi (n)),(vs (b))]] (vb (op ⟨k,n,b⟩))
def abW (op:Int->Int->Int) (a b:Vl):Vl×Int:=if apX op a.n b.n then (v0,20) else (vN (IntKind.wrap .i64 (op a.n b.n)),0)
theorem xQ {f:FuncId} {op:Int->Int->Int} (hf:amX f op):arG 351 [.rp [.fn f []]] (abW op):=by
 intro k n b k' n' b' a c;have:=aCb hf (k:=k) (b:=b) (k':=k') (b':=b') a c;unfold abW;simp only;split at this
 ·rename_i h;rw [zp h];exact this
 ·rename_i h;rw [zn h];exact this
theorem aiP {f:FuncId} {op:Vl->Vl->Bool} (hf:aIC f op):arG 353 [.rp [.fn f []]] (λa b=>(pL (op a b),0)):=by
 intro k n b k' n' b' d e;have c:= @hf k n b k' n' b';refine pF Tryz.func353 rfl (λst=> ?_)
 (repeat' first|apply wZ;rfl|show Cn _;constructor|exact rfl|((first|apply c|apply uO))|apply wY;rfl)
def lK (r:Vl->Vl->Vl×Int) (a b:Vl):Vl×Int:=if (decide (a.kind=0)||decide (b.kind=0)) then (v0,0) else r a b
theorem jF {f:FuncId} {caps:List PV} {r:Vl->Vl->Vl×Int} (hf:arG f caps r):arG 355 [.rp [.fn f caps]] (lK r):=by
 intro k n b k' n' b' c d;have a:=hf k n b k' n' b' c d;have hd:lK r ⟨k,n,b⟩ ⟨k',n',b'⟩=if (decide (k=0)||decide (k'=0)) then (v0,0) else r ⟨k,n,b⟩ ⟨k',n',b'⟩:=rfl
 generalize lK r ⟨k,n,b⟩ ⟨k',n',b'⟩=R at*;generalize r ⟨k,n,b⟩ ⟨k',n',b'⟩=e at*;unfold pT at a⊢;refine pF Tryz.func355 rfl (λst=> ?_)
 (repeat' first|apply wZ;rfl|show Cn _;constructor|exact rfl|((first|apply a|apply xR))|show (_:PV)=_;((simp [*,v0];done));done|apply wY;rfl|(intro h;simp at h))
def ahT (op:Vl->Bool) (c:Int) (a b:Vl):Vl×Int:=if (op a||op b) then (vN c,0) else if (decide (a.kind=0)||decide (b.kind=0)) then (v0,0) else (vN (1-c),0)
theorem adN {f:FuncId} {op:Vl->Bool} (hf:aJF f op) {a:Int} (h0:0<=a) (e:a<=1):arG 354 [.rp [.fn f []], .rp [(vi (a))]] (ahT op a):=by
 intro k n b k' n' b' _ _;have c:= @hf k n b;have d:= @hf k' n' b';have hd:ahT op a ⟨k,n,b⟩ ⟨k',n',b'⟩=if (op ⟨k,n,b⟩||op ⟨k',n',b'⟩) then (vN a,0) else if (decide (k=0)||decide (k'=0)) then (v0,0) else (vN (1-a),0):=rfl
 generalize ahT op a ⟨k,n,b⟩ ⟨k',n',b'⟩=R at*;generalize op ⟨k,n,b⟩=A at*;generalize op ⟨k',n',b'⟩=B at*;unfold pT;refine pF Tryz.func354 rfl (λst=> ?_)
 (repeat' first|apply wZ;rfl|show Cn _;constructor|exact rfl|((first|apply c|apply d|apply xR|apply dX))|show (_:PV)=_;((simp [*,v0,vN];done));done|apply wY;rfl|omega|(intro h;simp at h))
theorem aDW :arG 332 [] (λa _=>(pL (decide (a.n=0)),0)):=λ_ _ _ _ _ _ _ _=>aDI
theorem aoK :arG 334 [] (λa _=>(pL (decide (a.kind=0)),0)):=λ_ _ _ _ _ _ _ _=>aqK
theorem afI {p:FuncId} {caps:List PV}:PF Tryz.prog 331 [.fn p caps] (.fn 355 [.rp [.fn p caps]]):=by
 refine pF Tryz.func331 rfl (λst=> ?_)
 (repeat' first|apply wZ;rfl|show Cn _;constructor|exact rfl|apply bB 1;rfl;rfl)
theorem asK {f:FuncId}:PF Tryz.prog 321 [.fn f []] (.agg [(vi (2)),(vb (true)), .fn 355 [.rp [.fn 351 [.rp [.fn f []]]]]]):=by
 refine pF Tryz.func321 rfl (λst=> ?_)
 (repeat' first|apply wZ;rfl|show Cn _;constructor|exact rfl|(apply afI)|apply bB 1;rfl;rfl|apply wY;rfl)
theorem aGM {f:FuncId}:PF Tryz.prog 325 [.fn f []] (.agg [(vi (2)),(vb (false)), .fn 355 [.rp [.fn 353 [.rp [.fn f []]]]]]):=by
 refine pF Tryz.func325 rfl (λst=> ?_)
 (repeat' first|apply wZ;rfl|show Cn _;constructor|exact rfl|(apply afI)|apply bB 1;rfl;rfl|apply wY;rfl)
theorem aEN {f:FuncId} {a:Int}:PF Tryz.prog 328 [.fn f [],(vi (a))] (.agg [(vi (2)),(vb (true)), .fn 354 [.rp [.fn f []], .rp [(vi (a))]]]):=by
 refine pF Tryz.func328 rfl (λst=> ?_)
 (repeat' first|apply wZ;rfl|show Cn _;constructor|exact rfl|apply bB 2;rfl;rfl|apply bB 3;rfl;rfl)
def aC9 (f:FuncId):PV:= .agg [(vi (2)),(vb (true)), .fn 355 [.rp [.fn 351 [.rp [.fn f []]]]]]
def aJG (f:FuncId):PV:= .agg [(vi (2)),(vb (false)), .fn 355 [.rp [.fn 353 [.rp [.fn f []]]]]]
def aHQ (f:FuncId) (a:Int):PV:= .agg [(vi (2)),(vb (true)), .fn 354 [.rp [.fn f []], .rp [(vi (a))]]]
def rT :List (Value×PV):=[(.int .i64 2,aC9 322),(.int .i64 3,aC9 323),(.int .i64 4,aC9 324),(.int .i64 5,aJG 326),(.int .i64 6,aJG 327),(.int .i64 7,aHQ 329 0),(.int .i64 8,aHQ 330 1),
 (.int .i64 9, .agg [(vi (1)),(vb (true)), .fn 355 [.rp [.fn 332 []]]]),(.int .i64 10, .agg [(vi (1)),(vb (false)), .fn 334 []])]
theorem eJ :PF Tryz.prog 276 [] (.fmap rT):=by
 refine pF Tryz.func276 rfl (λst=> ?_)
 focus ((repeat' first|apply jT 0;rfl;exact aA _ _ _|((exact Cn.any ⟨_,_,st,rfl,zwr _,StSub.via id a (λj h=>by repeat (first|refine Eq.trans (aB h) ?_|exact rfl)),rfl,rfl⟩))|apply wZ;rfl|show Cn _;constructor|((first|apply asK|apply aGM|apply aEN|apply afI))|((refine pG rfl (λid a=> ?_)))|apply rW aW;exact .inl rfl;(iterate 7 rfl);exact aA _ _ _;rfl|apply wY;rfl))
def eqV (a b:Vl):Bool:=decide (a.kind=b.kind)&&(decide (a.n=b.n)&&decide (a.s=b.s))
def cT (a b:Vl):Bool:=decide (a.n<b.n)||aH1 a.s b.s
def fF (k:Int):Int:=if k=9\/k=10 then 1 else 2
def nN (k:Int):Bool:= !decide (k=5\/k=6\/k=10)
def vD (k:Int) (a b:Vl):Vl×Int:=
 if k=2 then lK (abW (· + ·)) a b else if k=3 then lK (abW (· - ·)) a b else if k=4 then lK (abW (· * ·)) a b
 else if k=5 then lK (λa b=>(pL (eqV a b),0)) a b else if k=6 then lK (λa b=>(pL (cT a b),0)) a b
 else if k=7 then ahT aDR 0 a b else if k=8 then ahT aJe 1 a b
 else if k=9 then lK (λa _=>(pL (decide (a.n=0)),0)) a b else (pL (decide (a.kind=0)),0)
theorem abS {k:Int} (a:2<=k) (b:k<=10):∃f caps,iG tt 312 rT (.int .i64 k) false=some (.agg [(vi (fF k)),(vb (nN k)), .fn f caps])/\arG f caps (vD k):=by
 have:k=2\/k=3\/k=4\/k=5\/k=6\/k=7\/k=8\/k=9\/k=10:=by omega
 rcases this with rfl|rfl|rfl|rfl|rfl|rfl|rfl|rfl|rfl
 ·exact ⟨_,_,rfl,jF (xQ aBU)⟩
 ·exact ⟨_,_,rfl,jF (xQ aBr)⟩
 ·exact ⟨_,_,rfl,jF (xQ aBa)⟩
 ·exact ⟨_,_,rfl,jF (aiP (op:=eqV) (fun {_ _ _ _ _ _}=>aFB))⟩
 ·exact ⟨_,_,rfl,jF (aiP (op:=cT) (fun {_ _ _ _ _ _}=>nF))⟩
 ·exact ⟨_,_,rfl,adN (op:=aDR) (fun {_ _ _}=>aBH) (by omega) (by omega)⟩
 ·exact ⟨_,_,rfl,adN (op:=aJe) (fun {_ _ _}=>aDE) (by omega) (by omega)⟩
 ·exact ⟨_,_,rfl,jF aDW⟩
 ·exact ⟨_,_,rfl,aoK⟩
theorem aD8 {k:Int} (a:2<=k) (b:k<=10):∃f caps,iG tt 312 rT (.int .i64 k) true=some (.tup [.agg [(vi (fF k)),(vb (nN k)), .fn f caps],(vb (true))]):=by
 have:k=2\/k=3\/k=4\/k=5\/k=6\/k=7\/k=8\/k=9\/k=10:=by omega
 rcases this with rfl|rfl|rfl|rfl|rfl|rfl|rfl|rfl|rfl<;>exact ⟨_,_,rfl⟩
theorem aAp {k:Int} (h:¬(2<=k/\k<=10)):iG tt 312 rT (.int .i64 k) true=some (.tup [.agg [(vi (0)),(vb (false)), .val .nilFunc],(vb (false))]):=by
 have hf:ajD (.int .i64 k) rT=some none:=by
  unfold rT;simp only [ajD,vV,pO,zqt];have b:¬k=2:=by omega
  have c:¬k=3:=by omega
  have d:¬k=4:=by omega
  have e:¬k=5:=by omega
  have f:¬k=6:=by omega
  have g:¬k=7:=by omega
  have i:¬k=8:=by omega
  have j:¬k=9:=by omega
  have a:¬k=10:=by omega
  simp [b,c,d,e,f,g,i,j,a]
 unfold iG;rw [hf];rfl
theorem aEn {α:Type} {l:List α} {i:Nat} {x:α} {p:α->Bool} (h:l[i]?=some x):(l.take (i+1)).any p=((l.take i).any p||p x):=by
 obtain ⟨hl,rfl⟩:=zge.1 h;rw [List.take_succ_eq_append_getElem hl,List.any_append];simp
theorem apU {α:Type} {l:List α} {i:Nat} {x:α} {p:α->Bool} (h:l[i]?=some x):(l.take (i+1)).all p=((l.take i).all p&&p x):=by
 obtain ⟨hl,rfl⟩:=zge.1 h;rw [List.take_succ_eq_append_getElem hl,List.all_append];simp
theorem aIx {α:Type} {l:List α} {i:Nat} {x:α} {p:α->Bool} (h:l[i]?=some x) (hp:p x=true):l.any p=true:=
 List.any_eq_true.2 ⟨x,List.mem_of_getElem? h,hp⟩
theorem ayR {α:Type} {l:List α} {i:Nat} {x:α} {p:α->Bool} (h:l[i]?=some x) (hp:p x=false):l.all p=false:=by
 cases ha:l.all p with
 |false=>rfl
 |true=>rw [zal] at ha;have:=ha x (List.mem_of_getElem? h);rw [hp] at this;cases this
theorem xF {α:Type} {l:List α} {i:Nat} (h:¬i<l.length):l.take i=l:=ztl (by omega)
def eM :Nat->Ex->Bool
 |0,_=>true
 |l+1,e=>e.of.any (eM l)
theorem aAS :∀(left:Nat) (e:Ex) (z:Int),z=(left:Nat)->left<=1000->e.ok->PF Tryz.prog 274 [.agg e.cells,(vi (z))] (vb (eM left e)):=by
 intro left
 induction left with
 |zero=>
  intro e z hz _ _;subst hz;obtain ⟨k,n,v,of⟩:=e;refine pF Tryz.func274 rfl (λst=> ?_)
  (repeat' first|apply wZ;rfl|show Cn _;constructor|exact rfl)
 |succ left ih=>
  intro e z hz hl d;subst hz;obtain ⟨k,n,v,of⟩:=e;simp only [Ex.ok] at d;have q:=Ex.rows_len of;refine pF Tryz.func274 rfl (λst=> ?_)
  focus ((repeat' first|apply wZ;rfl|show Cn _;constructor))
  refine aC (X:={i:Nat//i<=of.length/\(of.take i).any (eM left)=false}) (λi=>(((((St.nil 21 st).pv 1 ((vi ((left+1:Nat))))).pv 10 (.seq (Ex.rows of))).pv 11 ((vi (((Ex.rows of).length:Nat))))).pv 12 ((vi ((i.1:Nat)))))) (λi=>of.length-i.1) ⟨0,by omega,by simp⟩ ?_ (λi=> ?_)
  ·(repeat' first|show Cn _;constructor|exact rfl)
  obtain ⟨i,hi,a⟩:=i;dsimp only;by_cases o:of.length<=i
  ·rw [xF (by omega)] at a
   have e:eM (left+1) (.mk k n v of)=false:=a
   (repeat' first|apply wZ;rfl|show Cn _;constructor|exact rfl|show (_:PV)=_;(rw [e]);done|omega|(intro h;simp at h))
  obtain ⟨x,hx⟩:=fV (l:=of) (i:=i) (by omega);have b:=Ex.rows_get hx;have j:=Ex.oks_mem d.2 (List.mem_of_getElem? hx);have f:=aEn (p:=eM left) hx;have g:eM left x=true->eM (left+1) (.mk k n v of)=true:=λh=>aIx hx h;have hd:=ih x (left:Nat) rfl (by omega) j;generalize eM left x=D at*;obtain ⟨k',n',r,m⟩:=x;have c:∀z:Int,z=(left:Nat)->PF Tryz.prog 274 [.agg (Ex.mk k' n' r m).cells,(vi (z))] (vb (D)):=λz hz=>hz▸hd;cases D with
  |true=>
   have e:=g rfl
   (repeat' first|apply wZ;rfl|show Cn _;constructor|exact rfl|apply cO pk;(iterate 6 rfl);rotate_left;rfl;(intro hw;rfl);(intro hw;apply b<;>omega);(intro _;exact (Ex.cells_len _));rfl|(apply c<;>(omega))|show (_:PV)=_;(rw [e]);done|apply wY;rfl|omega|(intro h;simp at h))
  |false=>
   rw [a] at f
   (repeat' first|(refine ⟨⟨i+1,by omega,f⟩, ?_, ?_⟩)|apply wZ;rfl|show Cn _;constructor|exact rfl|apply cO pk;(iterate 6 rfl);rotate_left;rfl;(intro hw;rfl);(intro hw;apply b<;>omega);(intro _;exact (Ex.cells_len _));rfl|(apply c<;>(omega))|apply wY;rfl|omega|simp only [zql];omega|(intro h;simp at h))
end
end Go.Proofs.YtnogfoojjaainaaGreatDoor.X
