import Derived.Test.YtnogfoojjaainaaGreatDoorClAc
import Derived.Test.YtnogfoojjaainaaGreatDoorAbsE
import Derived.Test.YtnogfoojjaainaaGreatDoorClAa
set_option linter.unusedSimpArgs false
set_option linter.unusedVariables false
namespace Go.Proofs.YtnogfoojjaainaaGreatDoor.T
open Go Go.Abs
section
attribute [local irreducible] Ev PWp
set_option maxRecDepth 10000
set_option maxHeartbeats 4000000
theorem FamB.toHS{st S:aD}{l:List Pt}{idm id5 id8 id9:Nat}{K:List (Nm×(Nat×Nat))}(h:FamB st l idm K S){c5 c8 c9 i:AObj}(h5:S id5=none)(h8:upd S id5 (some c5) id8=none)(h9:upd (upd S id5 (some c5)) id8 (some c8) id9=none)
  (s:c5= .cells 328 [.mref idm]) (t:c8= .cells 114 [.val (.slice none 0 0)]) (u:i= .cells 329 [.fn 292 [.ref id5 0, .ref id8 0, .ref id9 0]]):
  HS st l id5 id8 id9 idm K (upd (upd (upd (upd S id5 (some c5)) id8 (some c8)) id9 (some c9)) id9 (some i)) (gA l) []:=by
 subst s t u
 have m:id8≠id5:=λe=>by rw[e,aA]at h8;cases h8
 rw[aB m]at h8
 have f:id9≠id8:=λe=>by rw[e,aA]at h9;cases h9
 rw[aB f]at h9
 have d:id9≠id5:=λe=>by rw[e,aA]at h9;cases h9
 rw[aB d]at h9
 have g:∀j,S j≠none->j≠id5/\j≠id8/\j≠id9:=λj hj=>⟨λe=>hj (e▸h5),λe=>hj (e▸h8),λe=>hj (e▸h9)⟩
 have o:∀j,S j≠none->(upd (upd (upd (upd S id5 (some (.cells 328 [.mref idm]))) id8 (some (.cells 114 [.val (.slice none 0 0)]))) id9 (some c9)) id9 (some (.cells 329 [.fn 292 [.ref id5 0, .ref id8 0, .ref id9 0]]))) j=S j:=λj hj=>by
  obtain⟨a,b,c⟩:=g j hj
  rw[aB c,aB c,aB b,aB a]
 refine⟨λj hj=>?_,(h.fresh h5).1,(h.fresh h8).1,(h.fresh h9).1,h.mf,?_,aA _ _ _,(o idm (by rw[h.hm];simp)).trans h.hm,λk id n hk=>?_,h.ids,h.keys,h.non,λk=> .refl _, .inl ⟨?_,rfl⟩⟩
 ·have:=h.old j hj
  rw[o j (by rw[this];exact hj)];exact this
 ·rw[aB (Ne.symm d),aB (Ne.symm d),aB (Ne.symm m),aA]
 ·obtain⟨p,q,r⟩:=h.arr k id n hk
  exact⟨(o id (by rw[p];simp)).trans p,q,r⟩
 ·rw[aB (Ne.symm f),aB (Ne.symm f),aA]
def cS(l:List Pt):List Pt:=if eZ l=true/\l.length<=2000 then eO l l.length Nm.zero else[]
theorem aC3(l:List Pt)(st:aD)(hl:l.length<4611686018427387904)(n:eZ l=true->(eO l l.length Nm.zero).length=l.length):PC Tryz.prog 229 [.seq (l.map Pt.cells)] st (LR 177 11 st ((cS l).map Pt.cells)):=by
 refine pC Tryz.func229 rfl ?_
 repeat' first|apply Cn.cf;focus((apply abY l hl);done)|show Cn (.r _ _ _);refine .rr ?_;(have e:cS l=[]:=(by unfold cS;rw[zn];rintro⟨O,U⟩;rcases‹_\/_›with q|q;(rw[O]at q;cases q);omega);exact .inr ⟨rfl,by rw[e];rfl,zsr _⟩);done|apply wZ;rfl|show Cn _;constructor|apply wY;rfl|intro h;simp at h
 have F:eZ l=true/\l.length<=2000:=⟨h.1,by omega⟩;have u:=(eB l).1 F.1;have n:=n F.1;have o:cS l=eO l l.length Nm.zero:=by unfold cS;rw[zp F]
 refine mkM (enc:=Nm.enc) (f:=adI) rfl λidm g=>?_;have g:st idm=none:=g
 repeat' first|apply wZ;rfl|show Cn _;constructor
 refine aC (X:={x:Nat×aD×List (Nm×(Nat×Nat))//x.1<=l.length/\FamB st (l.take x.1) idm x.2.2 x.2.1}) (λi=>(((((St.nil 45 (i.1.2.1)).var 5 328 ([.mref idm])).pv 23 (.seq (l.map Pt.cells))).pv 24 (vi ((l.map Pt.cells).length:Nat))).pv 25 (vi (i.1.1:Nat)))) (λi=>l.length-i.1.1) ⟨(0,upd st idm (some (.map (aV Nm.enc adI []))),[]),by simp,FamB.nil g⟩ ?_ λi=>?_
 ·repeat' first|show Cn (.t _ _);exact Cn.t0|show Cn _;constructor|exact rfl
 obtain⟨⟨i,S,K⟩,hi,d⟩:=i;simp only at hi d;dsimp only;have hm:=d.hm;have w:=λh:i<l.length=>aqM (l.take i) (aH (l[i]'h));have G:(l.take i).length<=l.length:=by rw[zlt];omega
 repeat' first|apply wDm pk;rfl;kernel_rfl;rfl;rfl|apply Cn.cf;focus((apply rB);done)|apply wZ;rfl|show Cn _;constructor|exact rfl|apply aD5 pk Nm.key (f:=adI);(iterate 5 rfl);rotate_left;rfl;(assumption);rfl;intro v hv;rotate_left;intro hv;rotate_left|apply wY;rfl|apply wI;rfl|apply gE;omega|intro h;simp at h
 ·skip
  obtain⟨P,Q,R⟩:=d.arr _ _ _ (rI hv);have w:=w h
  repeat'(apply apV pk (f:=Pt.cells) [l[i]'‹_›] 96;(iterate 9 rfl);(assumption);(omega);exactλ_=>rfl;exactλ_=>rfl;exact xY;(focus(simp;omega));(focus(simp;omega));rfl;intro b a)
  have a:S b=none:=a;obtain⟨J,E,M⟩:=d.fresh a;have s:=Ne.symm E;have N:=Ne.symm (d.notm (rI hv));apply muA pk Nm.key (f:=adI) (k:=aH (l[i]'h)) (v:=(b,v.2+1));exact .inr rfl;rfl;rfl;rfl;rfl;rfl;exact(aB s).trans ((aB N).trans hm);rfl
  repeat' first|refine⟨⟨(i+1,_,_),by simp only;omega,d.step (S1:=upd S v.1 none) (m:=v.2+1) h a (by omega) λj hj=>aB λe=>hj v.2 (by subst e;exact rI hv)⟩,?_,?_⟩|show Cn (.t _ _);exact Cn.t0|apply wZ;rfl|show Cn _;constructor|exact rfl|omega|simp only[zql];omega
 ·skip
  have C:=d.non _ hv
  repeat'(apply ap0 pk (f:=Pt.cells) [l[i]'‹_›] 96;(iterate 10 rfl);exactλ_=>rfl;exactλ_=>rfl;exact xY;(focus(simp;done));(focus(simp;done));rfl;intro b a)
  have a:S b=none:=a;obtain⟨J,E,M⟩:=d.fresh a;have s:=Ne.symm E;apply muA pk Nm.key (f:=adI) (k:=aH (l[i]'h)) (v:=(b,1));exact .inr rfl;rfl;rfl;rfl;rfl;rfl;exact(aB s).trans hm;rfl
  repeat' first|refine⟨⟨(i+1,upd (upd S b (some (.arr 177 ([l[i]'h].map Pt.cells)))) idm (some (.map (aV Nm.enc adI (cM (aH (l[i]'h)) (b,1) K)))),cM (aH (l[i]'h)) (b,1) K),by simp only;omega,by have q:=d.step (S1:=S) (m:=1) h a (by rw[C];rfl) λj hj=>rfl;rw[C]at q;exact q⟩,?_,?_⟩|show Cn (.t _ _);exact Cn.t0|apply wZ;rfl|show Cn _;constructor|exact rfl|omega|simp only[zql];omega
 have H:l.take i=l:=ztl (by omega);rw[H]at d;clear w G
 repeat' first|apply wZ;rfl|show Cn _;constructor|apply ldR pk;rfl;rfl;rotate_left;rfl;(exact aA _ _ _);rfl;rfl|apply stR pk;rfl;rfl;(exact aA _ _ _);rfl;rfl|apply fS 5;rfl;rfl;intro id5 z|apply fS 8;rfl;rfl;intro id8 A|apply fS 9;rfl;rfl;intro id9 B
 have q:=d.toHS (c8:= .cells 114 [.val (.slice none 0 0)]) (c5:= .cells 328 [.mref idm]) (c9:= .cells 329 [.val .nilFunc]) z A B rfl rfl rfl
 repeat' first|apply cP;rfl;(apply(aAz u.named u.formed hl l.length Nm.zero _ _ _ (aoQ u) (by rw[n];simp;omega) q));rintro _ st' (⟨A2,hA3,hA4⟩)|apply wZ;rfl|show Cn _;constructor|apply wY;rfl
 rw[List.nil_append]at hA3;have p:=hA3.old;have D:∀c,st c=none->StSub st (upd st' c none):=λc hn j=>by
  by_cases hj:st j=none
  ·exact .inl hj
  ·right;rw[aB λe=>by subst e;exact hj hn];exact(p j hj).symm
 have y:StSub st st':=λj=>by
  by_cases hj:st j=none
  ·exact .inl hj
  ·right;exact(p j hj).symm
 rcases hA3.h8 with⟨h8,I⟩|⟨c,h8,c1,c2,T⟩
 ·repeat' first|show Cn (.r _ _ _);refine .rr ?_;(exact .inr ⟨rfl,by rw[o,I];rfl,y⟩);done|apply wZ;rfl|show Cn _;constructor|apply ldR pk;rfl;rfl;rotate_left;rfl;(assumption);rfl;rfl
 ·repeat' first|show Cn (.r _ _ _);refine .rr ?_;(exact .inl ⟨c,by rw[o,zql],c2,by rw[o];exact c1,D c c2⟩);done|apply wZ;rfl|show Cn _;constructor|apply ldR pk;rfl;rfl;rotate_left;rfl;(assumption);rfl;rfl
theorem akJ :Tryz.prog.cellsOf 177=11:=(aP aS (t:=177) (n:=11) rfl).2
theorem amF(l:List Pt)(hl:l.length<4611686018427387904)(a:eZ l=true->(eO l l.length Nm.zero).length=l.length):PF Tryz.prog 229 [.seq (l.map Pt.cells)] (.seq ((cS l).map Pt.cells)):=
 azO akJ λst=>aC3 l st hl a
end
section
set_option maxRecDepth 10000
set_option maxHeartbeats 4000000
inductive Anc (l:List Pt):Pt->List Pt->Prop
 |root {p:Pt} (hp:p∈l) (h0:aH p=Nm.zero):Anc l p [p]
 |step {p u:Pt} {s:List Pt} (hp:p∈l) (hu:u∈l) (e:aG u=aH p) (h0:aH p≠Nm.zero) (h:Anc l u s):Anc l p (s++[p])
theorem Anc.all{l:List Pt}{p:Pt}{s:List Pt}(h:Anc l p s):∀q∈s,q∈l:=by
 induction h with
 |root hp _=>intro q hq;rw[zms.1 hq];exact hp
 |step hp _ _ _ _ ih=>
  intro q hq;rcases zma.1 hq with hq|hq
  ·exact ih q hq
  ·rw[zms.1 hq];exact hp
theorem Anc.fn{l:List Pt}(hn:named l){p:Pt}{s:List Pt}(h:Anc l p s):∀{t:List Pt},Anc l p t->s=t:=by
 induction h with
 |root hp h0=>intro t ht;cases ht with
  |root=>rfl
  |step _ _ _ h0' _=>exact absurd h0 h0'
 |step hp hu e h0 _ ih=>intro t ht;cases ht with
  |root _ h0'=>exact absurd h0' h0
  |step _ hu' e' _ h'=>
   have:=hn _ hu _ hu' (by rw[e,e']);subst this;rw[ih h']
theorem Anc.last{l:List Pt}{p:Pt}{s:List Pt}(h:Anc l p s):∃r,s=r++[p]:=by
 cases h with
 |root=>exact⟨[],rfl⟩
 |step=>exact⟨_,rfl⟩
theorem Anc.ex{l:List Pt}(b:Whole l):∀(n:Nat)(p:Pt),p∈l->(l.filter λq=>dK q p).length<=n->∃s,Anc l p s
 |n,p,hp,hn=>by
  by_cases h0:aH p=Nm.zero
  ·exact⟨_, .root hp h0⟩
  ·obtain⟨u,hu,e,ha⟩:=(b.up p hp).resolve_left h0
   have c:(l.filter λq=>dK q u).length<(l.filter λq=>dK q p).length:=sD (a:=u) hu ha (by rw[<-Bool.not_eq_true,jH];omega) λq _ hq=>by
    rw[jH]at ha hq⊢;omega
   cases n with
   |zero=>omega
   |succ n=>
    obtain⟨s,hs⟩:=Anc.ex b n u hu (by omega);exact⟨_, .step hp hu e h0 hs⟩
def gF :List Pt->List Pt->Prop
 |_,[]=>False
 |[],_::_=>True
 |a::s,b::t=>a=b/\gF s t\/eT a b
theorem yL(a:Pt):¬eT a a:=by rw[fI];omega
theorem aDb{a b c:Pt}(d:eT a b)(e:eT b c):eT a c:=by rw[fI]at d e⊢;omega
theorem yH :∀(s:List Pt),¬gF s s
 |[],h=>h
 |a::s,h=>by rcases h with⟨_,h⟩|h;exact yH s h;exact yL a h
theorem amS :∀{s t u:List Pt},gF s t->gF t u->gF s u
 |_,_,[],_,h=>(by cases ‹List Pt› <;>exact h.elim)
 |s,[],_::_,h,_=>(by cases s<;>simp[gF]at h)
 |[],_::_,_::_,_,_=>trivial
 |a::s,b::t,c::u,h1,d=>by
  rcases h1 with⟨rfl,h1⟩|h1<;>rcases d with⟨rfl,d⟩|d
  ·exact .inl ⟨rfl,amS h1 d⟩
  ·exact .inr d
  ·exact .inr h1
  ·exact .inr (aDb h1 d)
theorem yC :∀(P:List Pt){s t:List Pt},gF s t->gF (P++s) (P++t)
 |[],_,_,h=>h
 |a::P,_,_,h=> .inl ⟨rfl,yC P h⟩
def ltP(l:List Pt)(p q:Pt):Prop:=∃s t,Anc l p s/\Anc l q t/\gF s t
theorem axT{l:List Pt}(hn:named l)(p:Pt):¬ltP l p p:=λ⟨s,t,a,b,h⟩=>by rw[a.fn hn b]at h;exact yH _ h
theorem aqI{l:List Pt}(hn:named l){p q:Pt}(h:ltP l p q)(b:ltP l q p):False:=by
 obtain⟨s,t,c,d,e⟩:=h;obtain⟨g,f,h4,h5,a⟩:=b;rw[<-c.fn hn h5,<-d.fn hn h4]at a;exact yH _ (amS e a)
theorem wK{l:List Pt}(h:(l.map aG).Nodup):l.Nodup:=by
 induction l with
 |nil=>exact List.nodup_nil
 |cons a l ih=>
  simp only[zmp,List.nodup_cons]at h;exact List.nodup_cons.2 ⟨λhm=>h.1 (List.mem_map.2 ⟨a,hm,rfl⟩),ih h.2⟩
theorem rN{l:List Pt}(f:Whole l):∀(n:Nat)(k:Nm)(P:List Pt),(∀p∈gA l k,Anc l p (P++[p]))->
  (∀x∈eO l n k,∃q s,q∈cQ l k/\Anc l x (P++q::s))/\(eO l n k).Pairwise (ltP l)
 |0,_,_,_=>⟨λx h=>(by cases h),List.Pairwise.nil⟩
 |n+1,k,P,hP=>by
  have hq:∀q∈cQ l k,Anc l q (P++[q]):=λq hq=>hP q (jC hq).2
  have hc:∀q∈cQ l k,∀p∈gA l (aG q),Anc l p ((P++[q])++[p]):=λq c p hp=>by
   obtain⟨e,d⟩:=List.mem_filter.1 hp
   have d:aH p=aG q:=by simpa using d
   have g:=(jC c).1
   exact .step e g d.symm (by rw[d];exact aaY (f.formed q g)) (hq q c)
  have key:∀q∈cQ l k,∀x∈q::eO l n (aG q),∃s,Anc l x (P++q::s):=λq c x hx=>by
   rcases zmc.1 hx with rfl|hx
   ·exact⟨[],hq x c⟩
   ·obtain⟨r,s,_,h⟩:=(rN f n (aG q) (P++[q]) (hc q c)).1 x hx
    exact⟨r::s,by simpa using h⟩
  constructor
  ·intro x hx
   obtain⟨q,c,hx⟩:=List.mem_flatMap.1 hx;obtain⟨s,h⟩:=key q c x hx;exact⟨q,s,c,h⟩
  ·rw[eO,List.pairwise_flatMap]
   refine⟨λq c=>?_,?_⟩
   ·have j:=rN f n (aG q) (P++[q]) (hc q c)
    rw[List.pairwise_cons];refine⟨λx hx=>?_,j.2⟩;obtain⟨r,s,_,h⟩:=j.1 x hx;refine⟨_,_,hq q c,h,?_⟩;have:=yC (P++[q]) (s:=[]) (t:=r::s) trivial
    simpa using this
   ·have hs:=vW l k
    have i:(cQ l k).Nodup:=by
     have:=f.nodup;have e:(gA l k).Nodup:=(List.Pairwise.filter _ (wK this));exact(jM l k).nodup_iff.2 e
    refine(hs.and i).imp_of_mem fun{a b} ha hb hab x hx y hy=>?_;obtain⟨s,e⟩:=key a ha x hx;obtain⟨t,d⟩:=key b hb y hy;refine⟨_,_,e,d,yC P (.inr ?_)⟩;by_cases hk:eT a b
    ·exact hk
    ·exact absurd (ayK f.named (jC ha).1 (jC hb).1 hk hab.1) hab.2
theorem azY{l:List Pt}{n:Nat}{k:Nm}{p:Pt}(hd:auZ l n k)(hp:p∈gA l k):p∈eO l n k:=by
 cases n with
 |zero=>rw[show gA l k=[]from hd]at hp;cases hp
 |succ n=>exact List.mem_flatMap.2 ⟨p,(jM l k).symm.subset hp,by simp⟩
theorem aqT{l:List Pt}{p u:Pt}(hp:p∈gA l (aG u)):∀{n:Nat}{k:Nm},auZ l n k->u∈eO l n k->p∈eO l n k
 |0,_,_,hu=>(by cases hu)
 |n+1,k,hd,hu=>by
  obtain⟨q,hq,hu⟩:=List.mem_flatMap.1 hu
  have a:=hd q (jC hq).2
  refine List.mem_flatMap.2 ⟨q,hq,?_⟩
  rcases zmc.1 hu with rfl|hu
  ·exact List.mem_cons_of_mem _ (azY a hp)
  ·exact List.mem_cons_of_mem _ (aqT hp a hu)
theorem anF{l:List Pt}:∀{n:Nat}{k:Nm}{p:Pt},p∈eO l n k->p∈l
 |0,_,_,h=>(by cases h)
 |n+1,k,p,h=>by
  obtain⟨q,hq,h⟩:=List.mem_flatMap.1 h
  rcases zmc.1 h with rfl|h
  ·exact(jC hq).1
  ·exact anF h
theorem aJH{l:List Pt}(a:Whole l){p:Pt}{s:List Pt}(h:Anc l p s):p∈eO l l.length Nm.zero:=by
 have hd:=aoQ a
 induction h with
 |root hp h0=>exact azY hd (List.mem_filter.2 ⟨hp,by simpa using h0⟩)
 |step hp hu e h0 _ ih=>exact aqT (List.mem_filter.2 ⟨hp,by simpa using e.symm⟩) hd ih
theorem agQ{l m:List Pt}(b:l.Nodup)(c:m.Nodup)(h:∀a,a∈l↔a∈m):l.Perm m:=by
 rw[List.perm_iff_count];intro a;rw[b.count,c.count];simp[h a]
theorem aoC{l:List Pt}(c:Whole l):(eO l l.length Nm.zero).Perm l/\(eO l l.length Nm.zero).Pairwise (ltP l):=by
 have hs:=(rN c l.length Nm.zero [] λp hp=>by
  obtain⟨d,f⟩:=List.mem_filter.1 hp
  exact .root d (by simpa using f)).2
 refine⟨agQ ?_ (wK c.nodup) λa=>⟨anF,λha=>?_⟩,hs⟩
 ·exact hs.imp fun{a b} h e=>by subst e;exact axT c.named _ h
 ·obtain⟨s,hs⟩:=Anc.ex c _ a ha (Nat.le_refl _)
  exact aJH c hs
theorem afH(l:List Pt)(hl:l.length<4611686018427387904):PF Tryz.prog 229 [.seq (l.map Pt.cells)] (.seq ((cS l).map Pt.cells)):=
 amF l hl λh=>(aoC ((eB l).1 h)).1.length_eq
theorem fZ{l:List Pt}(a:Whole l)(hl:l.length<=2000):(cS l).Perm l/\(cS l).Pairwise (ltP l):=by
 unfold cS;rw[zp ⟨(eB l).2 a,hl⟩];exact aoC a
theorem jJ{l:List Pt}(h:¬(Whole l/\l.length<=2000)):cS l=[]:=by
 unfold cS;rw[zn λ⟨a,b⟩=>h ⟨(eB l).1 a,b⟩]
theorem aaL{l m:List Pt}(c:Whole l)(hl:l.length<=2000)(hp:m.Perm l)(hs:m.Pairwise (ltP l)):cS l=m:=by
 obtain⟨e,f⟩:=fZ c hl;exact uniq (e.trans hp.symm) f hs λa _ b _ h d=>(aqI c.named h d).elim
theorem Inv.perm{l m:List Pt}(hp:l.Perm m)(h:Inv l):Inv m:=
 ⟨λp hm=>h.formed p (hp.symm.subset hm),(hp.map aG).nodup_iff.1 h.nodup,λa ha b hb=>h.times a (hp.symm.subset ha) b (hp.symm.subset hb)⟩
theorem Whole.perm{l m:List Pt}(hp:l.Perm m)(h:Whole l):Whole m where
 toInv:=h.toInv.perm hp
 up p hm:=by
  rcases h.up p (hp.symm.subset hm)with e|⟨u,hu,e⟩
  ·exact .inl e
  ·exact .inr ⟨u,hp.subset hu,e⟩
theorem Anc.perm{l m:List Pt}(hp:∀a,a∈l->a∈m){p:Pt}{s:List Pt}(h:Anc l p s):Anc m p s:=by
 induction h with
 |root h h0=>exact .root (hp _ h) h0
 |step h hu e h0 _ ih=>exact .step (hp _ h) (hp _ hu) e h0 ih
theorem ltP.perm{l m:List Pt}(hp:∀a,a∈l->a∈m){p q:Pt}(h:ltP l p q):ltP m p q:=by
 obtain⟨s,t,b,c,d⟩:=h;exact⟨s,t,b.perm hp,c.perm hp,d⟩
theorem aaC{l m:List Pt}(hp:l.Perm m):cS l=cS m:=by
 by_cases h:Whole l/\l.length<=2000
 ·have hm:Whole m:=h.1.perm hp
  have b:m.length<=2000:=by rw[<-hp.length_eq];exact h.2
  obtain⟨c,d⟩:=fZ hm b;exact aaL h.1 h.2 (c.trans hp.symm) (d.imp λk=>k.perm λa ha=>hp.symm.subset ha)
 ·rw[jJ h,jJ λk=>h ⟨k.1.perm hp.symm,by rw[hp.length_eq];exact k.2⟩]
end
section
attribute [local irreducible] Ev PWp
set_option maxRecDepth 10000
set_option maxHeartbeats 4000000
theorem xM{l m:List Pt}{i:Nat}(h:l.take i=m.take i)(a:i<l.length)(b:i<m.length)(e:l[i]=m[i]):l.take (i+1)=m.take (i+1):=by
 rw[List.take_succ_eq_append_getElem a,List.take_succ_eq_append_getElem b,h,e]
theorem aiR{l m:List Pt}{i:Nat}(a:i<l.length)(b:i<m.length)(e:l[i]≠m[i]):decide (l=m)=false:=decide_eq_false λh=>by subst h;exact e rfl
theorem adG{l m:List Pt}{i:Nat}(h:l.take i=m.take i)(a:l.length<=i)(b:m.length<=i):decide (l=m)=true:=by
 rw[ztl a,ztl b]at h;exact decide_eq_true h
theorem equal_spec(l m:List Pt)(hl:l.length<4611686018427387904):PF Tryz.prog 100 [.seq (l.map Pt.cells), .seq (m.map Pt.cells)] (vb (decide (l=m))):=by
 refine pF Tryz.func100 rfl λst=>?_
 repeat' first|apply wZ;rfl|show Cn _;constructor|exact rfl|show(_:PV)=_;(rw[decide_eq_false λe:l=m=>by subst e;simp at*]);done|intro h;simp at h
 refine aC (X:={x:Nat//x<=l.length/\l.take x=m.take x}) (λi=>(((((St.nil 26 st).pv 0 (.seq (l.map Pt.cells))).pv 1 (.seq (m.map Pt.cells))).pv 12 (vi ((l.map Pt.cells).length:Nat))).pv 13 (vi (i.1:Nat)))) (λi=>l.length-i.1) ⟨0,by omega,rfl⟩ ?_ λi=>?_
 ·repeat' first|show Cn _;constructor|exact rfl
 obtain⟨i,hi,a⟩:=i;dsimp only;have b:l.length=m.length:=by omega
 repeat' first|refine⟨⟨i+1,by omega,xM a (by omega) (by omega) (by rw[Pt.ext_iff,Vl.ext_iff,Dt.ext_iff,Dt.ext_iff];simpa[and_assoc]using h)⟩,?_,?_⟩|apply wZ;rfl|show Cn _;constructor|exact rfl|apply KR.mk;kernel_rfl|show(_:PV)=_;(first|rw[aiR (i:=i) (by omega) (by omega) λe=>by simp[e]at h];done|rw[adG a (by omega) (by omega)]);done|apply wI;rfl|apply gE;omega|omega|simp only[zql];omega|intro h;simp at h
def rightP(c:Cl):Int:=if c.kind≠4 then 6 else if c.val≠Vl.zero\/eZ c.parts=false then 1 else if 2000<c.parts.length then 2 else if cS c.parts≠c.parts then 3 else 0
theorem yY(l:List Pt):(cS l).length<=l.length:=by
 by_cases h:Whole l/\l.length<=2000
 ·exact Nat.le_of_eq (fZ h.1 h.2).1.length_eq
 ·rw[jJ h];simp
theorem right_spec(c:Cl)(hl:c.parts.length<4611686018427387904):PF Tryz.prog 150 [.agg c.cells] (vi (rightP c)):=by
 have:=yY c.parts;have hc:(2000<((c.parts.length:Nat):Int))↔2000<c.parts.length:=by omega
 have b:(((c.parts.length:Nat):Int)<=2000)↔¬2000<c.parts.length:=by omega
 refine pF Tryz.func150 rfl λst=>?_
 repeat' first|apply wZ;rfl|show Cn _;constructor|exact rfl|apply KR.mk;kernel_rfl|((first|apply abY c.parts hl|apply afH c.parts hl|apply equal_spec (cS c.parts) c.parts)<;>(omega))|show(_:PV)=_;(first|simp only[rightP,Vl.ext_iff,Vl.zero,e0];grind|obtain⟨⟨d,e,f⟩,g⟩:=‹(_/\_/\_)/\_›;have a:c.val=Vl.zero:=(Vl.ext_iff _ _).2 ⟨d,e,f⟩;simp only[rightP,a,g];grind);done|apply wY;rfl|intro h;simp at h|intro h
end
end Go.Proofs.YtnogfoojjaainaaGreatDoor.T
namespace Go.Proofs.YtnogfoojjaainaaGreatDoor
open Go Go.Abs
section
set_option maxRecDepth 10000
set_option maxHeartbeats 4000000
theorem azM{α:Type}{r:α->α->Prop}(i:∀{a b c},r a b->r b c->r a c)(d:∀{a},¬r a a):∀{l m:List α},l.Pairwise r->m.Pairwise r->(∀x,x∈l↔x∈m)->l=m
 |[],[],_,_,_=>rfl
 |[],b::m,_,_,h=>absurd ((h b).2 (by simp)) (by simp)
 |a::l,[],_,_,h=>absurd ((h a).1 (by simp)) (by simp)
 |a::l,b::m,h1,h2,h=>by
  have f:=List.pairwise_cons.1 h1
  have g:=List.pairwise_cons.1 h2
  have e:a=b:=by
   rcases zmc.1 ((h a).1 (by simp))with q|q
   ·exact q
   rcases zmc.1 ((h b).2 (by simp))with w|w
   ·exact w.symm
   exact absurd (i (g.1 a q) (f.1 b w)) d
  subst e
  refine congrArg (a:: ·) (azM (r:=r) i d f.2 g.2 λx=>?_)
  constructor
  ·intro q
   rcases zmc.1 ((h x).1 (List.mem_cons_of_mem _ q))with w|w
   ·subst w;exact absurd (f.1 x q) d
   ·exact w
  ·intro q
   rcases zmc.1 ((h x).2 (List.mem_cons_of_mem _ q))with w|w
   ·subst w;exact absurd (g.1 x q) d
   ·exact w
def KSort(L:List Ln):Prop:=(L.map (·.key)).Pairwise (· < ·)
theorem KSort.at{L:List Ln}(h:KSort L){i j:Nat}(a:i<j)(hj:j<L.length):(L[i]'(by omega)).key<L[j].key:=by
 have:=List.pairwise_iff_getElem.1 h i j (by simp;omega) (by simpa using hj) a
 simpa using this
theorem KSort.inj{L:List Ln}(h:KSort L){i j:Nat}(hi:i<L.length)(hj:j<L.length)(e:L[i].key=L[j].key):i=j:=by
 rcases Nat.lt_trichotomy i j with q|q|q
 ·have:=h.at q hj;omega
 ·exact q
 ·have:=h.at q hi;omega
theorem KSort.eq{L:List Ln}(h:KSort L){x y:Ln}(hx:x∈L)(hy:y∈L)(e:x.key=y.key):x=y:=by
 obtain⟨i,hi,rfl⟩:=zgo hx;obtain⟨j,hj,rfl⟩:=zgo hy;have:=h.inj hi hj e;subst this;rfl
theorem oP{L:List Ln}(h:KSort L){k:Int}{x:Ln}:cB L k=some x↔x∈L/\x.key=k:=by
 unfold cB;constructor
 ·intro q
  exact⟨List.mem_of_find?_eq_some q,by simpa using List.find?_some q⟩
 ·rintro⟨hx,rfl⟩
  cases q:L.find? λy=>decide (y.key=x.key)with
  |none=>exact absurd (List.find?_eq_none.1 q x hx) (by simp)
  |some y=>rw[h.eq (List.mem_of_find?_eq_some q) hx (by simpa using List.find?_some q)]
theorem akW{L:List Ln}(h:KSort L)(a x:Ln):x∈qN L a↔x=a\/(x∈L/\x.key≠a.key):=by
 unfold qN;rcases acT L a.key with⟨j,hj,e,_,hk,_⟩|⟨j,hj,e,_,hk,_,_⟩
 ·rw[e,zp rfl,Int.toNat_natCast]
  constructor
  ·intro hx
   obtain⟨q,hq,rfl⟩:=zgo hx;rw[List.length_set]at hq;rw[List.getElem_set];split
   ·exact .inl rfl
   ·rename_i b
    exact .inr ⟨zgm hq,λc=>b (h.inj hj hq (hk.trans c.symm))⟩
  ·rintro(rfl|⟨hx,b⟩)
   ·exact List.mem_iff_getElem.2 ⟨j,by simpa using hj,by simp⟩
   ·obtain⟨q,hq,rfl⟩:=zgo hx
    have d:q≠j:=λc=>b (by subst c;exact hk);exact List.mem_iff_getElem.2 ⟨q,by simpa using hq,by rw[List.getElem_set_ne (Ne.symm d)]⟩
 ·rw[e,zn (by simp),Int.toNat_natCast]
  unfold eD;have c:=List.take_append_drop j L;have:x∈L↔x∈L.take j\/x∈L.drop j:=by rw[<-zma,c]
  simp only[zma,zms];constructor
  ·rintro((q|q)|q)
   ·exact .inr ⟨this.2 (.inl q),hk x (this.2 (.inl q))⟩
   ·exact .inl q
   ·exact .inr ⟨this.2 (.inr q),hk x (this.2 (.inr q))⟩
  ·rintro(q|⟨q,_⟩)
   ·exact .inl (.inr q)
   ·rcases this.1 q with q|q
    ·exact .inl (.inl q)
    ·exact .inr q
theorem KSort.put{L:List Ln}(h:KSort L)(a:Ln):KSort (qN L a):=by
 unfold qN;rcases acT L a.key with⟨j,hj,e,_,hk,_⟩|⟨j,hj,e,_,hk,d,b⟩
 ·rw[e,zp rfl,Int.toNat_natCast]
  unfold KSort;rw[List.map_set,<-hk];have:(L.map (·.key)).set j L[j].key=L.map (·.key):=by
   have c:j<(L.map (·.key)).length:=by simpa using hj
   have:=List.set_getElem_self c
   simpa using this
  rw[this];exact h
 ·rw[e,zn (by simp),Int.toNat_natCast]
  unfold KSort eD;have hp:=h;unfold KSort at hp;rw[<-List.take_append_drop j L,List.map_append,List.pairwise_append]at hp;rw[List.map_append,List.map_append,List.pairwise_append,List.pairwise_append];refine⟨⟨hp.1,List.pairwise_singleton ..,λx hx y hy=>?_⟩,hp.2.1,λx hx y hy=>?_⟩
  ·simp only[zmp,List.map_nil,zms]at hy
   subst hy;obtain⟨z,hz,rfl⟩:=List.mem_map.1 hx;obtain⟨q,hq,rfl⟩:=zgo hz;rw[zlt]at hq;rw[List.getElem_take];have g:=d q (by omega) (by omega);have k:=hk _ (zgm (show q<L.length by omega));omega
  ·have f:a.key<y:=by
    obtain⟨z,hz,rfl⟩:=List.mem_map.1 hy;obtain⟨q,hq,rfl⟩:=zgo hz;rw[zld]at hq;rw[List.getElem_drop];have g:=b (by omega);rcases Nat.eq_zero_or_pos q with rfl|i
    ·exact g
    ·have:=h.at (show j<j+q by omega) (by omega);omega
   rw[zma]at hx;rcases hx with hx|hx
   ·exact hp.2.2 x hx y hy
   ·simp only[zmp,List.map_nil,zms]at hx
    subst hx;exact f
end
section
set_option maxRecDepth 10000
set_option maxHeartbeats 4000000
section
variable{L:List Ln}
end
theorem apI{b:Bs}{k:Int}(h:okT b k=false):aF b k=[]:=by unfold aF;rw[h];rfl
variable{tx:Cl->Int}
theorem gT{t:Tb}{L:List Ln}:tI tx t L=true↔L.length<=2000/\(∀x∈L,iT tx t x=true)/\KSort L:=by
 unfold tI;rw[zba,zde,nQ];refine and_congr Iff.rfl ?_;constructor
 ·intro h
  have a:∀i (hi:i<L.length),iT tx t L[i]=true/\(i=0\/L[i-1]!.key<L[i].key):=λi hi=>by
   have:=h i hi
   unfold lnR at this
   rw[getElem!_pos L i hi]at this
   simpa using this
  refine⟨λx hx=>by obtain⟨i,hi,rfl⟩:=zgo hx;exact(a i hi).1,?_⟩;have key:∀j (hj:j<L.length) i (hi:i<j),(L[i]'(by omega)).key<L[j].key:=by
   intro j
   induction j with
   |zero=>intro _ i hi;exact absurd hi (Nat.not_lt_zero _)
   |succ j ih=>
    intro hj i hi;have:=(a (j+1) hj).2.resolve_left (Nat.succ_ne_zero j);rw[show j+1-1=j from rfl,getElem!_pos L j (by omega)]at this;rcases zls.1 hi with q|q
    ·exact Int.lt_trans (ih (by omega) i q) this
    ·subst q;exact this
  unfold KSort;exact List.pairwise_iff_getElem.2 λi j hi hj b=>by simpa using key j (by simpa using hj) i b
 ·rintro⟨a,c⟩ i hi
  unfold lnR;rw[getElem!_pos L i hi,a _ (zgm hi),Bool.true_and];rcases Nat.eq_zero_or_pos i with rfl|h0
  ·simp
  ·rw[getElem!_pos L (i-1) (by omega)]
   have:=c.at (show i-1<i by omega) hi;simp[this]
theorem aU{s:Sc}{b:Bs}:bC tx s b=true↔(bT s=0/\b.length=s.length)/\∀k<b.length,tI tx s[k]! b[k]!.lines=true:=by
 unfold bC;rw[zba,zde,nQ];exact Iff.rfl
theorem kM{s:Sc}{b:Bs}(h:bC tx s b=true)(k:Int):KSort (aF b k):=by
 cases hk:okT b k with
 |false=>rw[apI hk];simp[KSort]
 |true=>
  have e:aF b k=b[k.toNat]!.lines:=by unfold aF;rw[zp hk]
  simp only[okT,zba,zde]at hk;rw[e];exact(gT.1 ((aU.1 h).2 k.toNat (by omega))).2.2
theorem afW{s:Sc}{b:Bs}(h:bC tx s b=true){k:Int}(hk:okT b k=true):tI tx s[k.toNat]! (aF b k)=true:=by
 have e:aF b k=b[k.toNat]!.lines:=by unfold aF;rw[zp hk]
 simp only[okT,zba,zde]at hk;rw[e];exact(aU.1 h).2 k.toNat (by omega)
theorem aBt{s:Sc}{b:Bs}(h:bC tx s b=true){k:Int}(hk:okT b k=true)(a:List Ln):bC tx s (agL b k a)=tI tx s[k.toNat]! a:=by
 obtain⟨d,f⟩:=aU.1 h;have c:=hk;simp only[okT,zba,zde]at c;obtain⟨q,rfl⟩:∃q:Nat,k=q:=⟨k.toNat,by omega⟩;have hq:q<b.length:=by omega
 rw[Bool.eq_iff_iff,aU,qW,Int.toNat_natCast];constructor
 ·intro w
  have:=w.2 q hq;rwa[getElem!_pos (agL b q a) q (by rw[qW];exact hq),azF hq rfl]at this
 ·intro w
  refine⟨d,λi hi=>?_⟩;rw[getElem!_pos (agL b q a) i (by rw[qW];exact hi)];by_cases e:(i:Int)=q
  ·rw[azF hi e,show i=q by omega];exact w
  ·rw[aHc hi e,<-getElem!_pos b i hi];exact f i hi
end
section
attribute [local irreducible] Ev PWp
set_option maxRecDepth 10000
set_option maxHeartbeats 4000000
theorem abN(o:Option Ln):aJ4 o= .tup [.agg (o.getD Ln.zero).cells,vb o.isSome]:=by cases o<;>rfl
def ScB(s:Sc):Prop:=∀t∈s,TbB t
theorem aK8(c:Cl)(h:c.parts.length<=1000):aGM T.rightP c:=⟨by omega,λ_=>T.right_spec c (by omega)⟩
theorem BsS.da{n:Nat}{b:Bs}(h:BsS n b)(hn:n<=1000):∀d∈b,aKe T.rightP d:=λd hd=>by
 obtain⟨f,a⟩:=h.2 d hd
 refine⟨by omega,λl hl=>?_⟩
 obtain⟨g,i,e⟩:=a l hl
 exact⟨⟨by omega,by omega⟩,λc hc=>aK8 c (e c hc)⟩
theorem fV{n:Nat}{b:Bs}(h:BsS n b)(hn:n<=1000){s:Sc}(hs:ScB s)(hl:s.length<=20):PF Tryz.prog 19 [.agg (scC s), .agg (bsC b)] (vb (bC T.rightP s b)):=
 avI T.rightP s b (by omega) hs (by have:=h.1;omega) (h.da hn)
theorem zB{n:Nat}{b:Bs}(h:BsS n b)(hn:n<=1000)(k key:Int):PF Tryz.prog 55 [.agg (bsC b),vi k,vi key] (.tup [.agg ((cB (aF b k) key).getD Ln.zero).cells,vb ((cB (aF b k) key).isSome)]):=abN _▸xA b k key (h.l hn).2
end
section
set_option maxRecDepth 10000
set_option maxHeartbeats 4000000
def eE{α:Type}(f:α->Int)(l:List α):Int:=(l.find? λx=>decide (f x≠0)).elim 0 f
theorem iC{α:Type}{f:α->Int}{l:List α}:eE f l=0↔∀x∈l,f x=0:=by
 unfold eE;cases e:l.find? λx=>decide (f x≠0)with
 |none=>
  have:=List.find?_eq_none.1 e;simp at this;exact⟨λ_=>this,λ_=>rfl⟩
 |some x=>
  have a:=List.find?_some e;have b:=List.mem_of_find?_eq_some e;simp at a;exact⟨λh=>absurd h a,λh=>absurd (h x b) a⟩
theorem sV{α:Type}(f:α->Int)(x:α)(l:List α):eE f (x::l)=if f x=0 then eE f l else f x:=by
 unfold eE;rw[List.find?_cons];by_cases h:f x=0
 ·simp[h]
 ·simp[h]
theorem abI{α:Type}{f:α->Int}:∀{l:List α}{i:Nat}(h:i<l.length),(∀j (hj:j<i),f (l[j]'(by omega))=0)->f l[i]≠0->eE f l=f l[i]
 |x::l,0,_,_,h2=>by rw[sV];exact zn h2
 |x::l,i+1,h,h1,h2=>by
  rw[sV,zp (show f x=0 from h1 0 (by omega))]
  exact abI (l:=l) (Nat.lt_of_succ_lt_succ h) (λj hj=>h1 (j+1) (by omega)) h2
section
variable(sh:Cl->Vl)(ex:Tb->List Vl->Int)
def alY(l:Ln):List Vl:=l.cells_.map sh
def cT(b:Bs)(k:Int):List (List Vl):=(aF b k).map (alY sh)
def bS(c:Co):Int:=if c.kind=0\/c.kind=1 then c.type_ else if c.kind=2\/c.kind=3 then 1 else if c.kind=4 then 2 else 0
def vB(c:Co)(v:Vl):Int:=if cE v=false then 1 else if v.kind=0/\(c.kind=0\/c.kind=1)/\c.null=false then 7 else if v.kind≠0/\v.kind≠bS c then 6 else 0
def eS(t:Tb)(r:List Vl):Int:=if t.cols.length=r.length then eE (λk=>vB t.cols[k]! r[k]!) (List.range r.length)else 1
def nU(u:Nat)(x y:List Vl):Bool:=(decide (x[u]!.kind=1)&&decide (y[u]!.kind=1))&&decide (x[u]!.n=y[u]!.n)
def mL(t:Tb)(rows:List (List Vl)):Bool:=t.unique.all λu=>decide (rows.Pairwise λx y=>nU u.toNat x y=false)
def abF(b:Bs)(t:Tb)(rows:List (List Vl)):Bool:=t.foreign.all λf=>rows.all λr=> !decide (r[f.col.toNat]!.kind=1)||(cB (aF b f.table) r[f.col.toNat]!.n).isSome
def amO(m:Su)(g:Int)(r:List Vl):Int:=if r[m.by_.toNat]!.kind=1/\r[m.by_.toNat]!.n=g/\r[m.col.toNat]!.kind=1 then r[m.col.toNat]!.n else 0
def jL(m:Su)(g:Int)(rows:List (List Vl)):Int:=(rows.map (amO m g)).sum
def aCz(m:Su)(r:List Vl):Bool:=decide (r[m.col.toNat]!.kind=1)&&decide (r[m.col.toNat]!.n<0)
def adA(t:Tb)(rows:List (List Vl)):Bool:=t.sums.all λm=>rows.all λr=> !aCz m r&&(!decide (r[m.by_.toNat]!.kind=1)||decide (jL m r[m.by_.toNat]!.n rows<=m.max))
def ckT(b:Bs)(t:Tb)(rows:List (List Vl)):Int:=
 if eE (eS t) rows≠0 then eE (eS t) rows else if mL t rows=false then 8 else if eE (ex t) rows≠0 then eE (ex t) rows else if abF b t rows=false then 10 else if adA t rows=false then 11 else 0
def ckW(s:Sc)(b:Bs):Int:=eE (λk:Nat=>ckT ex b s[k]! (cT sh b k)) (List.range s.length)
structure GoodT (b:Bs) (t:Tb) (rows:List (List Vl)):Prop where
 typ:∀r∈rows,eS t r=0
 uniq:∀u∈t.unique,rows.Pairwise λx y=>nU u.toNat x y=false
 chk:∀r∈rows,ex t r=0
 frn:∀f∈t.foreign,∀r∈rows,r[f.col.toNat]!.kind=1->(cB (aF b f.table) r[f.col.toNat]!.n).isSome=true
 neg:∀m∈t.sums,∀r∈rows,aCz m r=false
 max:∀m∈t.sums,∀r∈rows,r[m.by_.toNat]!.kind=1->jL m r[m.by_.toNat]!.n rows<=m.max
variable{sh}{ex}
end
end
section
set_option maxRecDepth 10000
set_option maxHeartbeats 4000000
structure FrOK (s:Sc) (t:Tb) (f:Fr):Prop where
 c1:1<=f.col
 c2:f.col<t.cols.length
 t1:0<=f.table
 t2:f.table<s.length
 act:f.act=0\/f.act=1\/f.act=2
 kind:t.cols[f.col.toNat]!.kind=0
 typ:t.cols[f.col.toNat]!.type_=1
theorem adW{h b p a n z:Bool}(e:afT h b p a n z=0):h=true/\b=false/\p=false/\a=false/\n=true/\z=false:=by
 unfold afT at e;cases h<;>cases b<;>cases p<;>cases a<;>cases n<;>cases z<;>simp at e⊢
theorem azN{s:Sc}(h:bT s=0){k:Nat}(hk:k<s.length){i:Nat}(hi:i<s[k].foreign.length):uQ s.length s[k] i=0:=by
 have:=fU h hk (lk5 s.length s[k]!) (by simp[lks]);rw[getElem!_pos s k hk]at this;exact oR this hi
theorem ayW{s:Sc}(h:bT s=0){k:Nat}(hk:k<s.length){f:Fr}(hf:f∈s[k].foreign):FrOK s s[k] f:=by
 obtain⟨i,hi,rfl⟩:=zgo hf;have e:=adW (azN h hk hi);rw[getElem!_pos s[k].foreign i hi]at e;obtain⟨b,c,_,d,a,_⟩:=e;unfold gP at b;unfold gH fK at a;simp only[zba,zde,Bool.or_eq_false_iff,decide_eq_false_iff_not]at b c d a;exact⟨by omega,b.2,by omega,by omega,by omega,a.1,a.2⟩
theorem axV{s:Sc}(h:bT s=0){k:Nat}(hk:k<s.length):∀(j i:Nat)(hj:j<s[k].foreign.length)(a:i<j),s[k].foreign[i].col<s[k].foreign[j].col:=by
 intro j
 induction j with
 |zero=>intro i _ h;omega
 |succ j ih=>
  intro i hj a;have e:=adW (azN h hk hj);have b:=e.2.2.1;rw[show j+1-1=j from rfl,getElem!_pos s[k].foreign (j+1) hj,getElem!_pos s[k].foreign j (by omega)]at b;simp only[Nat.zero_lt_succ,decide_true,Bool.true_and,decide_eq_false_iff_not]at b;rcases zls.1 a with q|q
  ·have:=ih i (by omega) q;omega
  ·subst q;omega
theorem aJi{s:Sc}(h:bT s=0){k:Nat}(hk:k<s.length)(i j:Nat)(hi:i<s[k].foreign.length)(hj:j<s[k].foreign.length)(e:s[k].foreign[i].col=s[k].foreign[j].col):i=j:=by
 rcases Nat.lt_trichotomy i j with q|q|q
 ·have:=axV h hk j i hj q;omega
 ·exact q
 ·have:=axV h hk i j hi q;omega
theorem jT{s:Sc}(h:bT s=0):s.length<=16:=by
 unfold bT at h;split at h
 ·cases h
 ·omega
theorem avG{s:Sc}(h:bT s=0){k:Nat}(hk:k<s.length):s[k].foreign.length<=16:=by
 have:=fU h hk (lk1 s[k]!) (by simp[lks]);rw[getElem!_pos s k hk]at this;unfold lk1 at this;split at this
 ·cases this
 ·omega
variable{tx:Cl->Int}
structure LineOK (tx:Cl->Int) (t:Tb) (l:Ln):Prop where
 k1:0<=l.key
 k2:l.key<1073741824
 len:l.cells_.length=t.cols.length
 kind:∀j (h:j<l.cells_.length),l.cells_[j].kind=t.cols[j]!.kind
 cell:∀c∈l.cells_,iR tx c=true
 zero:l.cells_[0]!.val=⟨1,l.key,e0⟩
 dots:mH l.by_=true
theorem abL{t:Tb}{l:Ln}:iT tx t l=true↔LineOK tx t l:=by
 unfold iT qB;simp only[zba,zde,nQ];constructor
 ·rintro⟨⟨⟨a,b,d⟩,h4⟩,h5,e⟩
  have hc:∀j (h:j<l.cells_.length),l.cells_[j].kind=t.cols[j]!.kind/\iR tx l.cells_[j]=true:=λj hj=>by
   have:=h5 j hj
   unfold qC at this
   rw[getElem!_pos l.cells_ j hj,zba,zde]at this
   exact this
  exact⟨a,b,d,λj hj=>(hc j hj).1,λc f=>by obtain⟨j,hj,rfl⟩:=zgo f;exact(hc j hj).2,h4,e⟩
 ·rintro⟨a,b,d,h4,h5,e,g⟩
  refine⟨⟨⟨a,b,d⟩,e⟩,λj hj=>?_,g⟩;unfold qC;rw[getElem!_pos l.cells_ j hj,h4 j hj,decide_eq_true rfl,h5 _ (zgm hj)];rfl
theorem sQ{s:Sc}{b:Bs}(h:bC tx s b=true){k:Nat}(hk:k<b.length){l:Ln}(hl:l∈b[k].lines):LineOK tx s[k]! l:=by
 have:=(aU.1 h).2 k hk;rw[getElem!_pos b k hk]at this;exact abL.1 ((gT.1 this).2.1 l hl)
end
section
set_option maxRecDepth 10000
set_option maxHeartbeats 4000000
section
variable{sh:Cl->Vl}{ex:Tb->List Vl->Int}{tx:Cl->Int}
theorem awY{t:Tb}{r:List Vl}(h:eS t r=0):r.length=t.cols.length:=by
 unfold eS at h;split at h
 ·omega
 ·cases h
theorem GoodT.nil{b:Bs}{t:Tb}:GoodT ex b t []:=⟨λ_ h=>(by cases h),λ_ _=> .nil,λ_ h=>(by cases h),λ_ _ _ h=>(by cases h),λ_ _ _ h=>(by cases h),λ_ _ _ h=>(by cases h)⟩
end
end
section
set_option maxRecDepth 10000
set_option maxHeartbeats 4000000
section
variable{sh:Cl->Vl}{ex:Tb->List Vl->Int}{tx:Cl->Int}
end
end
section
set_option maxRecDepth 10000
set_option maxHeartbeats 4000000
section
variable{tx:Cl->Int}{sh:Cl->Vl}
structure SuOK (t:Tb) (m:Su):Prop where
 c1:1<=m.col
 c2:m.col<t.cols.length
 b1:1<=m.by_
 b2:m.by_<t.cols.length
 m0:0<=m.max
 m1:m.max<=1099511627776
 kc:t.cols[m.col.toNat]!.kind=0
 kb:t.cols[m.by_.toNat]!.kind=0
structure UnOK (t:Tb) (u:Int):Prop where
 c1:1<=u
 c2:u<t.cols.length
 kc:t.cols[u.toNat]!.kind=0
theorem asJ{h a n p:Bool}(e:afM h a n p=0):h=true/\a=false/\n=true:=by
 unfold afM at e;cases h<;>cases a<;>cases n<;>cases p<;>simp at e⊢
theorem avL{h p n:Bool}(e:aeX h p n=0):h=true/\n=true:=by
 unfold aeX at e;cases h<;>cases n<;>cases p<;>simp at e⊢
theorem aHW{s:Sc}(h:bT s=0){k:Nat}(hk:k<s.length){m:Su}(hm:m∈s[k].sums):SuOK s[k] m:=by
 obtain⟨i,hi,rfl⟩:=zgo hm;have:=fU h hk (lk6 s[k]!) (by simp[lks]);rw[getElem!_pos s k hk]at this;have e:tE s[k] i=0:=oR this hi;unfold tE at e;rw[getElem!_pos s[k].sums i hi]at e;obtain⟨a,c,b⟩:=asJ e;unfold gP at a;unfold gH fK at b;simp only[zba,zde,Bool.or_eq_false_iff,decide_eq_false_iff_not]at a c b;exact⟨a.1.1,a.1.2,a.2.1,a.2.2,by omega,by omega,b.1.1,b.2.1⟩
theorem aHT{s:Sc}(h:bT s=0){k:Nat}(hk:k<s.length){u:Int}(hu:u∈s[k].unique):UnOK s[k] u:=by
 obtain⟨i,hi,rfl⟩:=zgo hu;have:=fU h hk (lk4 s[k]!) (by simp[lks]);rw[getElem!_pos s k hk]at this;have e:sX s[k] i=0:=oR this hi;unfold sX at e;rw[getElem!_pos s[k].unique i hi]at e;obtain⟨a,b⟩:=avL e;unfold gP at a;unfold gH fK at b;simp only[zba,zde]at a b;exact⟨a.1,a.2,b.1⟩
theorem gJ{b:Bs}{k:Nat}(hk:k<b.length):aF b k=b[k].lines:=by
 unfold aF okT;rw[zp (by simp;omega),Int.toNat_natCast,getElem!_pos b k hk]
structure RwOK (t:Tb) (r:List Vl):Prop where
 len:r.length=t.cols.length
 num:∀j<t.cols.length,t.cols[j]!.kind=0->cE r[j]! =true
theorem auQ(g:∀c:Cl,c.kind=0->sh c=c.val){s:Sc}{b:Bs}(hg:bC tx s b=true){k:Nat}(hk:k<s.length){r:List Vl}(h:r∈cT sh b k):RwOK s[k] r:=by
 obtain⟨⟨i,m⟩,_⟩:=aU.1 hg;have e:k<b.length:=by omega
 obtain⟨l,hl,rfl⟩:=List.mem_map.1 h;rw[gJ e]at hl;have hL:=sQ hg e hl;rw[getElem!_pos s k hk]at hL;have f:=hL.len;refine⟨by unfold alY;rw[zql];exact f,λj hj h0=>?_⟩;have a:j<l.cells_.length:=by omega
 have hc:=hL.cell _ (zgm a);have d:=hL.kind j a;rw[h0]at d;unfold alY;rw[getElem!_pos _ j (by rw[zql];exact a),List.getElem_map,g _ d];unfold iR at hc;rw[zp d,zba]at hc;exact hc.1
theorem awL{v:Vl}(h:cE v=true):(-1099511627776<=v.n/\v.n<=1099511627776)/\(v.kind≠1->v.n=0):=by
 unfold cE at h;split at h
 ·simp only[zba,zde]at h;omega
 ·split at h
  ·simp only[zba,zde]at h;omega
  ·split at h
   ·simp only[zba,zde]at h;omega
   ·cases h
def akV(m:Su)(es:List (Int×Int))(r:List Vl):List (Int×Int):=if r[m.by_.toNat]!.kind=1 then cM r[m.by_.toNat]!.n ((cC r[m.by_.toNat]!.n es).getD 0+r[m.col.toNat]!.n) es else es
def mX(m:Su)(rows:List (List Vl)):List (Int×Int):=rows.foldl (akV m) []
theorem ajP{V:Type}(k k':Int)(v:V):∀(l:List (Int×V)),cC k' (cM k v l)=if k'=k then some v else cC k' l
 |[]=>by simp only[cM,cC]
 |e::l=>by
  have b:=ajP k k' v l
  simp only[cM]
  split
  ·rename_i h;simp only[cC];split<;>simp_all
  ·rename_i h;simp only[cC,b];split
   ·rename_i a;rw[zn λe=>h (by rw[<-e,a])]
   ·rfl
theorem aH0{V:Type}{k:Int}{v:V}:∀{l:List (Int×V)},(l.map (·.1)).Nodup->(k,v)∈l->cC k l=some v
 |e::l,hn,h=>by
  simp only[zmp,List.nodup_cons]at hn
  simp only[cC]
  rcases zmc.1 h with rfl|h
  ·rw[zp rfl]
  ·rw[zn λq=>hn.1 (List.mem_map.2 ⟨_,h,q⟩)];exact aH0 hn.2 h
theorem aEt{V:Type}{k:Int}{v:V}:∀{l:List (Int×V)},cC k l=some v->(k,v)∈l
 |[],h=>by simp[cC]at h
 |e::l,h=>by
  simp only[cC]at h
  split at h
  ·rename_i q;injection h with h;subst h;rw[q];exact List.mem_cons_self ..
  ·exact List.mem_cons_of_mem _ (aEt h)
theorem agB{V:Type}(k:Int)(v:V):∀(l:List (Int×V)),∀k',k'∈(cM k v l).map (·.1)->k'=k\/k'∈l.map (·.1)
 |[],k',h=>by simp[cM]at h;exact .inl h
 |e::l,k',h=>by
  simp only[cM]at h
  split at h
  ·rename_i q
   simp only[zmp,zmc]at h⊢;rcases h with h|h
   ·exact .inl (h.trans (by first|rfl|exact q.symm))
   ·exact .inr (.inr h)
  ·simp only[zmp,zmc]at h⊢
   exact h.elim (λq=> .inr (.inl q)) λq=>(agB k v l k' q).elim .inl λq=> .inr (.inr q)
theorem axX{V:Type}(k:Int)(v:V):∀(l:List (Int×V)),(l.map (·.1)).Nodup->((cM k v l).map (·.1)).Nodup
 |[],_=>by simp[cM]
 |e::l,h=>by
  simp only[zmp,List.nodup_cons]at h
  simp only[cM]
  split
  ·rename_i q
   simp only[zmp,List.nodup_cons];exact⟨by first|exact h.1|(rw[q];exact h.1),h.2⟩
  ·rename_i q
   simp only[zmp,List.nodup_cons];exact⟨λx=>(agB k v l _ x).elim (λy=>q y.symm) h.1,axX k v l h.2⟩
theorem aD0(m:Su):∀(rows:List (List Vl))(es:List (Int×Int)),(es.map (·.1)).Nodup->((rows.foldl (akV m) es).map (·.1)).Nodup
 |[],_,h=>h
 |r::rows,es,h=>aD0 m rows _ (by
  unfold akV
  split
  ·exact axX _ _ _ h
  ·exact h)
theorem amJ(m:Su)(g:Int)(r:List Vl)(rows:List (List Vl)):jL m g (r::rows)=amO m g r+jL m g rows:=by unfold jL;rw[zmp,List.sum_cons]
def aDh(m:Su)(rows:List (List Vl)):Prop:=∀r∈rows,r[m.col.toNat]!.kind≠1->r[m.col.toNat]!.n=0
theorem akX{m:Su}(g:Int):∀{rows:List (List Vl)}(es:List (Int×Int)),aDh m rows->(cC g (rows.foldl (akV m) es)).getD 0=(cC g es).getD 0+jL m g rows
 |[],es,_=>by simp[jL]
 |r::rows,es,h=>by
  have a:=akX g (rows:=rows) (akV m es r) λx hx=>h x (List.mem_cons_of_mem _ hx)
  have h0:=h r (List.mem_cons_self ..)
  rw[List.foldl_cons,a,amJ]
  unfold akV amO
  by_cases hk:r[m.by_.toNat]!.kind=1
  ·rw[zp hk,ajP]
   by_cases hg:r[m.by_.toNat]!.n=g
   ·rw[zp hg.symm,hg]
    by_cases hc:r[m.col.toNat]!.kind=1
    ·rw[zp ⟨hk,rfl,hc⟩];simp only[Option.getD_some];omega
    ·rw[zn λq=>hc q.2.2,h0 hc];simp only[Option.getD_some];omega
   ·rw[zn λq=>hg q.symm,zn λq=>hg q.2.1];omega
  ·rw[zn hk,zn λq=>hk q.1];omega
theorem arB{m:Su}(g:Int):∀{rows:List (List Vl)}(es:List (Int×Int)),(cC g (rows.foldl (akV m) es)).isSome=true↔((cC g es).isSome=true\/∃r∈rows,r[m.by_.toNat]!.kind=1/\r[m.by_.toNat]!.n=g)
 |[],es=>by simp
 |r::rows,es=>by
  rw[List.foldl_cons,arB g (rows:=rows) (akV m es r)]
  unfold akV
  by_cases hk:r[m.by_.toNat]!.kind=1
  ·rw[zp hk,ajP]
   by_cases hg:g=r[m.by_.toNat]!.n
   ·rw[zp hg]
    exact⟨λ_=> .inr ⟨r,List.mem_cons_self ..,hk,hg.symm⟩,λ_=> .inl rfl⟩
   ·rw[zn hg]
    constructor
    ·rintro(q|⟨x,hx,q⟩)
     ·exact .inl q
     ·exact .inr ⟨x,List.mem_cons_of_mem _ hx,q⟩
    ·rintro(q|⟨x,hx,q⟩)
     ·exact .inl q
     ·rcases zmc.1 hx with rfl|hx
      ·exact absurd q.2.symm hg
      ·exact .inr ⟨x,hx,q⟩
  ·rw[zn hk]
   constructor
   ·rintro(q|⟨x,hx,q⟩)
    ·exact .inl q
    ·exact .inr ⟨x,List.mem_cons_of_mem _ hx,q⟩
   ·rintro(q|⟨x,hx,q⟩)
    ·exact .inl q
    ·rcases zmc.1 hx with rfl|hx
     ·exact absurd q.1 hk
     ·exact .inr ⟨x,hx,q⟩
def sZ(m:Su)(rows:List (List Vl)):Bool:=rows.all λr=>decide (r[m.col.toNat]!.n>=0)
theorem aAf{m:Su}{rows:List (List Vl)}(h:aDh m rows):(sZ m rows&&(mX m rows).all λe=>decide (e.2<=m.max))=rows.all λr=> !aCz m r&&(!decide (r[m.by_.toNat]!.kind=1)||decide (jL m r[m.by_.toNat]!.n rows<=m.max)):=by
 have b:=λg=>akX (m:=m) g (rows:=rows) [] h;have a:=λg=>arB (m:=m) g (rows:=rows) [];have f:=aD0 m rows [] (by simp);change ∀g,(cC g (mX m rows)).getD 0=_ at b;change ∀g,(cC g (mX m rows)).isSome=true↔_ at a;change ((mX m rows).map (·.1)).Nodup at f;simp only[cC,Option.getD_none,Option.isSome_none,Bool.false_eq_true,false_or]at b a;rw[Bool.eq_iff_iff,zba];unfold sZ;simp only[zal,zba,Bool.or_eq_true,Bool.not_eq_true',zde,decide_eq_false_iff_not];have d:∀r∈rows,aCz m r=false↔r[m.col.toNat]!.n>=0:=λr c=>by
  unfold aCz
  by_cases hc:r[m.col.toNat]!.kind=1
  ·rw[decide_eq_true hc,Bool.true_and,decide_eq_false_iff_not];omega
  ·rw[decide_eq_false hc,h r c hc];simp
 constructor
 ·rintro⟨i,j⟩ r c
  refine⟨(d r c).2 (i r c),?_⟩;by_cases hk:r[m.by_.toNat]!.kind=1
  ·right
   have hs:=(a r[m.by_.toNat]!.n).2 ⟨r,c,hk,rfl⟩;obtain⟨v,hv⟩:=Option.isSome_iff_exists.1 hs;have:=j _ (aEt hv);have e:=b r[m.by_.toNat]!.n;rw[hv]at e;simp only[Option.getD_some]at e this;omega
  ·exact .inl hk
 ·intro q
  refine⟨λr c=>(d r c).1 (q r c).1,λe l=>?_⟩;obtain⟨k,v⟩:=e;have hv:=aH0 f l;have e:=b k;rw[hv]at e;simp only[Option.getD_some]at e⊢;obtain⟨r,c,hk,rfl⟩:=(a k).1 (by rw[hv];rfl);have:=(q r c).2.resolve_left λz=>z hk;omega
def aIY(u:Nat)(es:List (Int×Bool))(r:List Vl):List (Int×Bool):=if r[u]!.kind=1 then cM r[u]!.n true es else es
def atD(u:Nat)(rows:List (List Vl)):List (Int×Bool):=rows.foldl (aIY u) []
theorem axI(u:Nat)(g:Int):∀(rows:List (List Vl))(es:List (Int×Bool)),(cC g (rows.foldl (aIY u) es)).getD false=((cC g es).getD false||rows.any λr=>decide (r[u]!.kind=1)&&decide (r[u]!.n=g))
 |[],es=>by simp
 |r::rows,es=>by
  rw[List.foldl_cons,axI u g rows,List.any_cons]
  unfold aIY
  by_cases hk:r[u]!.kind=1
  ·rw[zp hk,ajP]
   by_cases hg:g=r[u]!.n
   ·rw[zp hg,decide_eq_true hk,decide_eq_true hg.symm];simp
   ·rw[zn hg,decide_eq_false (show¬r[u]!.n=g fromλq=>hg q.symm)];simp
  ·rw[zn hk,decide_eq_false hk];simp
theorem aCY(u:Nat)(g:Int)(rows:List (List Vl)):(cC g (atD u rows)).getD false=rows.any λr=>decide (r[u]!.kind=1)&&decide (r[u]!.n=g):=by
 have:=axI u g rows [];simp only[cC,Option.getD_none,Bool.false_or]at this;exact this
theorem aHE(u:Nat){rows:List (List Vl)}{k:Nat}(h:k<rows.length):atD u (rows.take (k+1))=if rows[k][u]!.kind=1 then cM rows[k][u]!.n true (atD u (rows.take k))else atD u (rows.take k):=by
 unfold atD;rw[List.take_succ_eq_append_getElem h,List.foldl_append];rfl
theorem aGh(m:Su){rows:List (List Vl)}{k:Nat}(h:k<rows.length):mX m (rows.take (k+1))=if rows[k][m.by_.toNat]!.kind=1 then cM rows[k][m.by_.toNat]!.n ((cC rows[k][m.by_.toNat]!.n (mX m (rows.take k))).getD 0+rows[k][m.col.toNat]!.n) (mX m (rows.take k))else mX m (rows.take k):=by
 unfold mX;rw[List.take_succ_eq_append_getElem h,List.foldl_append];rfl
def pwU(u:Nat)(rows:List (List Vl)):Prop:=rows.Pairwise λx y=>nU u x y=false
theorem aKJ{u:Nat}{rows:List (List Vl)}{k:Nat}(h:k<rows.length):pwU u (rows.take (k+1))↔pwU u (rows.take k)/\(rows[k][u]!.kind=1->((rows.take k).any λr=>decide (r[u]!.kind=1)&&decide (r[u]!.n=rows[k][u]!.n))=false):=by
 unfold pwU;rw[List.take_succ_eq_append_getElem h,List.pairwise_append];constructor
 ·rintro⟨a,_,c⟩
  refine⟨a,λhk=>?_⟩;rw[List.any_eq_false];intro x hx q;have:=c x hx rows[k] (by simp);unfold nU at this;simp only[zba,zde]at q;rw[decide_eq_true q.1,decide_eq_true hk,decide_eq_true q.2]at this;cases this
 ·rintro⟨a,b⟩
  refine⟨a,List.pairwise_singleton ..,λx hx y hy=>?_⟩;rw[zms]at hy;subst hy;by_cases hk:rows[k][u]!.kind=1
  ·have:=List.any_eq_false.1 (b hk) x hx
   unfold nU;rw[decide_eq_true hk]
   simpa using this
  ·unfold nU
   rw[decide_eq_false hk];simp
theorem aCH{t:Tb}{rows:List (List Vl)}(h:∀j (hj:j<t.unique.length),pwU t.unique[j].toNat rows):mL t rows=true:=by
 unfold mL;rw[zal];intro u hu;obtain⟨j,hj,rfl⟩:=zgo hu;exact decide_eq_true (h j hj)
theorem aGA{t:Tb}{rows:List (List Vl)}{j k:Nat}(hj:j<t.unique.length)(h:¬pwU t.unique[j].toNat (rows.take k)):mL t rows=false:=by
 unfold mL;rw[<-Bool.not_eq_true,zal];intro q;exact h ((of_decide_eq_true (q _ (zgm hj))).sublist (List.take_sublist ..))
theorem aAc{f:Nat->Int}{n i:Nat}(h:i<n)(a:∀j<i,f j=0)(b:f i≠0):eE f (List.range n)=f i:=by
 have:=abI (f:=f) (l:=List.range n) (i:=i) (by simpa using h) (λj hj=>by rw[List.getElem_range];exact a j hj) (by rw[List.getElem_range];exact b);rwa[List.getElem_range]at this
theorem ahC{f:Nat->Int}{n:Nat}(h:∀j<n,f j=0):eE f (List.range n)=0:=iC.2 λj hj=>h j (List.mem_range.1 hj)
theorem jS{α:Type}{f:α->Int}{l:List α}(h:∀j (hj:j<l.length),f l[j]=0):eE f l=0:=iC.2 λx hx=>by
 obtain⟨j,hj,rfl⟩:=zgo hx
 exact h j hj
theorem oF{α:Type}{f:α->Int}{l:List α}{i:Nat}(b:∀j (h:j<l.length),j<i->f l[j]=0)(h:i<l.length)(hf:f l[i]=0):∀j (h:j<l.length),j<i+1->f l[j]=0:=λj hj a=>by
 rcases zls.1 a with q|q
 ·exact b j hj q
 ·subst q;exact hf
theorem oM{α:Type}{f:α->Int}{l:List α}{i:Nat}(a:∀j (h:j<l.length),j<i->f l[j]=0)(h:i<l.length)(hf:f l[i]≠0):eE f l=f l[i]:=abI h (λj hj=>a j (by omega) hj) hf
end
end
section
attribute [local irreducible] Ev PWp
set_option maxRecDepth 10000
set_option maxHeartbeats 4000000
theorem atH(c:Co):PF Tryz.prog 273 [.agg c.cells] (vi (bS c)):=by
 unfold bS;refine pF Tryz.func273 rfl λst=>?_
 repeat' first|apply wZ;rfl|show Cn _;constructor|exact rfl|show(_:PV)=_;(simp[*];done);done|intro h
theorem asS(c:Co)(v:Vl):PF Tryz.prog 206 [.agg c.cells, .agg v.cells] (vi (vB c v)):=by
 have hv:=kE v;have hk:=atH c;unfold vB;generalize cE v=A at*;generalize bS c=K at*;refine pF Tryz.func206 rfl λst=>?_
 repeat' first|apply wZ;rfl|show Cn _;constructor|exact rfl|apply KR.mk;kernel_rfl|(first|apply hv|apply hk)|show(_:PV)=_;(first|simp[*];done|grind);done|apply wY;rfl|intro h;simp at h|intro h
theorem aiE(t:Tb)(r:List Vl)(hc:t.cols.length<1000000000000000)(g:r.length<1000000000000000):PF Tryz.prog 124 [.seq (t.cols.map Co.cells), .seq (r.map Vl.cells)] (vi (eS t r)):=by
 unfold eS;by_cases hl:¬t.cols.length=r.length
 ·rw[zn hl]
  refine pF Tryz.func124 rfl λst=>?_
  repeat' first|apply wZ;rfl|show Cn _;constructor|exact rfl|simp only[zql];omega|intro h;simp at h
 replace hl:=zdn hl
 rw[zp hl];refine pF Tryz.func124 rfl λst=>?_
 focus(repeat' first|apply wZ;rfl|show Cn _;constructor|simp only[zql];omega|intro h;simp at h)
 refine aC (X:={x:Nat//x<=r.length/\∀j<x,vB t.cols[j]! r[j]! =0}) (λi=>(((((St.nil 30 st).pv 0 (.seq (t.cols.map Co.cells))).pv 13 (.seq (r.map Vl.cells))).pv 14 (vi ((r.map Vl.cells).length:Nat))).pv 15 (vi (i.1:Nat)))) (λi=>r.length-i.1) ⟨0,by omega,by omega⟩ ?_ λi=>?_
 ·repeat' first|show Cn _;constructor|exact rfl
 obtain⟨i,hi,c⟩:=i;dsimp only;by_cases d:r.length<=i
 ·have e:eE (λk=>vB t.cols[k]! r[k]!) (List.range r.length)=0:=ahC λj hj=>c j (by omega)
  repeat' first|apply wZ;rfl|show Cn _;constructor|exact rfl|show(_:PV)=_;(rw[e]);done|simp only[zql];omega|intro h;simp at h
 have a:i<r.length:=by omega
 have b:i<t.cols.length:=by omega
 have hk:=asS t.cols[i] r[i];have e:=aAc (f:=λk=>vB t.cols[k]! r[k]!) a c;have hu:vB t.cols[i] r[i]=0->∀j<i+1,vB t.cols[j]! r[j]! =0:=λh j hj=>by
  rcases zls.1 hj with q|q
  ·exact c j q
  ·subst q;rw[getElem!_pos t.cols j b,getElem!_pos r j a];exact h
 simp only[getElem!_pos t.cols i b,getElem!_pos r i a]at e;generalize vB t.cols[i] r[i]=E at*
 repeat' first|refine⟨⟨i+1,by omega,hu ‹_›⟩,?_,?_⟩|apply wZ;rfl|show Cn _;constructor|exact rfl|apply KR.mk;kernel_rfl|apply hk|show(_:PV)=_;(rw[e ‹_›]);done|apply wY;rfl|apply wI;rfl|apply gE;omega|omega|simp only[zql];omega|intro h;simp at h|intro h
end
section
set_option maxRecDepth 10000
set_option maxHeartbeats 4000000
def mU(n:Int):PV:=(vi n)
def Ie(k:Int):Value:= .int .i64 k
theorem aEY{g:G}(a:Int):VR Tryz.prog g 3 [.val (Ie a)] (Ie a):=⟨λh=>absurd (h.symm.trans (show bH Tryz.prog 3=false from by kernel_rfl)) (by simp),λ_=>by simp only[RepL];exact⟨_,[],rfl,by simp[Rep],rfl⟩⟩
theorem xV :KeyOK Tryz.prog 3 Ie (λk=> .val (Ie k)) where
 und:=rfl
 chk k b w:=iH (k:= .int .i64) (by kernel_rfl) rfl rfl b w
 now kd h a b:=by
  have d:Tryz.prog.underlying 3=some (.int .i64):=by kernel_rfl
  have c:kd= .int .i64:=by
   rw[d]at h;injection h with h
   exact h.symm
  subst c;right;simp only[Ie,Instr.sameNow,if_true]
  congr 1
 eq a b w:=by
  have g:G:=⟨#[],λ_=>none,λ_=>0,λ_=>False⟩;exact iB aS (g:=g) 8 Op.maxDepth (by decide) 3 _ _ _ _ _ (show peq tt 8 3 [.val (Ie a)] [.val (Ie b)]=some (decide (a=b))from rfl) (by kernel_rfl) (aEY a) (aEY b)
 rp k g v h:=aI h
 bits k:=afG rfl
end
end Go.Proofs.YtnogfoojjaainaaGreatDoor
namespace Go.Proofs.YtnogfoojjaainaaGreatDoor.X
open Go Go.Abs
section
set_option maxRecDepth 10000
set_option maxHeartbeats 4000000
def v0 :Vl:=⟨0,0,e0⟩
inductive Ex where
 |mk (k n:Int) (v:Vl) (of:List Ex)
def Ex.k :Ex->Int| .mk k _ _ _=>k
def Ex.n :Ex->Int| .mk _ n _ _=>n
def Ex.v :Ex->Vl| .mk _ _ v _=>v
def Ex.of :Ex->List Ex| .mk _ _ _ o=>o
mutual
def Ex.cells :Ex->List PV
 | .mk k n v o=>[vi k,vi n,vi v.kind,vi v.n,vs v.s, .seq (Ex.rows o)]
def Ex.rows :List Ex->List (List PV)
 |[]=>[]
 |e::es=>e.cells::Ex.rows es
end
theorem Ex.rows_map :∀l:List Ex,Ex.rows l=l.map Ex.cells
 |[]=>rfl
 |e::es=>by simp[Ex.rows,Ex.rows_map es]
theorem Ex.rows_len :∀(l:List Ex),(Ex.rows l).length=l.length
 |[]=>rfl
 |e::es=>by simp[Ex.rows,Ex.rows_len es]
theorem Ex.rows_get :∀{l:List Ex}{i:Nat}{x:Ex},l[i]?=some x->(Ex.rows l)[i]?=some x.cells
 |[],_,_,h=>by simp at h
 |e::es,0,x,h=>by simp at h;simp[Ex.rows,h]
 |e::es,i+1,x,h=>by simp at h;simpa[Ex.rows]using Ex.rows_get h
theorem Ex.cells_len :∀(x:Ex),x.cells.length=6
 | .mk _ _ _ _=>by simp[Ex.cells]
mutual
def Ex.ok :Ex->Prop
 | .mk _ _ _ o=>o.length<2^62/\Ex.oks o
def Ex.oks :List Ex->Prop
 |[]=>True
 |e::es=>e.ok/\Ex.oks es
end
mutual
theorem Ex.ok_of :∀(e:Ex),nY e.cells->e.ok
 | .mk k n v o,h=>by
  simp only[Ex.cells,nY,lens,Ex.rows_len]at h
  simp only[Ex.ok]
  exact⟨h.2.2.2.2.2.1.1,Ex.oks_of o h.2.2.2.2.2.1.2⟩
theorem Ex.oks_of :∀(l:List Ex),tO (Ex.rows l)->Ex.oks l
 |[],_=>by simp[Ex.oks]
 |e::es,h=>by
  simp only[Ex.rows,tO]at h
  simp only[Ex.oks]
  exact⟨Ex.ok_of e h.1,Ex.oks_of es h.2⟩
end
theorem Ex.oks_mem :∀{l:List Ex}{x:Ex},Ex.oks l->x∈l->x.ok
 |[],_,_,hx=>by cases hx
 |e::es,x,h,hx=>by
  simp only[Ex.oks]at h
  rcases zmc.1 hx with rfl|hx
  ·exact h.1
  ·exact Ex.oks_mem h.2 hx
def gU(l:List Int):List (List PV):=l.map I1
def aIb(l:List Vl):List (List PV):=l.map Vl.cells
theorem yA{l:List Int}{i:Nat}{x:Int}(h:l[i]?=some x):(gU l)[i]?=some [vi x]:=by simp[gU,h,I1]
theorem sM(l:List Int):(gU l).length=l.length:=by simp[gU]
theorem aAk(l:List Vl):(aIb l).length=l.length:=by simp[aIb]
theorem fX{α:Type}{l:List α}{i:Nat}(h:i<l.length):∃x,l[i]?=some x:=⟨l[i],by simp[h]⟩
end
section
attribute [local irreducible] Ev PWp
set_option maxRecDepth 10000
set_option maxHeartbeats 4000000
theorem xX{k n:Int}{b:ByteArray}:PF Tryz.prog 335 [.agg [vi k,vi n,vs b]] (vb (decide (k=0))):=by
 refine pF Tryz.func335 rfl λst=>?_
 repeat' first|apply wZ;rfl|show Cn _;constructor|exact rfl
def oX(v:Vl):Bool:=if v.kind=0 then decide (v.n=0)&&decide (v.s=e0)else if v.kind=1 then(decide (v.s=e0)&&decide (v.n>= -1099511627776))&&decide (v.n<=1099511627776)else if v.kind=2 then decide (v.n=0)&&decide ((v.s.size:Int)<=200)else false
theorem right_spec{k n:Int}{b:ByteArray}:PF Tryz.prog 320 [.agg [vi k,vi n,vs b]] (vb (oX ⟨k,n,b⟩)):=by
 unfold oX;dsimp only;by_cases h0:k=0
 ·rw[zp h0]
  refine pF Tryz.func320 rfl λst=>?_
  repeat' first|apply wZ;rfl|show Cn _;constructor|exact rfl|show(_:PV)=_;(simp[h0];done);done|omega|intro h
 by_cases a:k=1
 ·rw[zn h0,zp a]
  refine pF Tryz.func320 rfl λst=>?_
  repeat' first|apply wZ;rfl|show Cn _;constructor|exact rfl|omega|intro h
 rw[zn h0,zn a];by_cases c:k=2
 ·rw[zp c]
  refine pF Tryz.func320 rfl λst=>?_
  repeat' first|apply wZ;rfl|show Cn _;constructor|exact rfl|omega|intro h
 rw[zn c];refine pF Tryz.func320 rfl λst=>?_
 repeat' first|apply wZ;rfl|show Cn _;constructor|exact rfl|omega|intro h
theorem dY{n:Int}:PF Tryz.prog 352 [vi n] (.agg [vi 1,vi n,vs e0]):=by
 refine pF Tryz.func352 rfl λst=>?_
 repeat' first|apply wZ;rfl|show Cn _;constructor|exact rfl
theorem uW{x:Bool}:PF Tryz.prog 333 [vb x] (.agg [vi 1,vi (if x then 1 else 0),vs e0]):=by
 refine pF Tryz.func333 rfl λst=>?_
 repeat' first|apply wZ;rfl|show Cn _;constructor|exact rfl|apply dY|show(_:PV)=_;(simp[*];done);done|apply wY;rfl|intro h
def aD1(v:Vl):Bool:=decide (v.kind=1)&&(decide (v.n=0)&&decide (v.s=e0))
def aJw(v:Vl):Bool:=decide (v.kind=1)&& !decide (v.n=0)
theorem aBU{k n:Int}{b:ByteArray}:PF Tryz.prog 329 [.agg [vi k,vi n,vs b]] (vb (aD1 ⟨k,n,b⟩)):=by
 refine pF Tryz.func329 rfl λst=>?_
 repeat' first|apply wZ;rfl|show Cn _;constructor|exact rfl|apply KR.mk;kernel_rfl|apply dY|apply wY;rfl
theorem aDO{k n:Int}{b:ByteArray}:PF Tryz.prog 330 [.agg [vi k,vi n,vs b]] (vb (aJw ⟨k,n,b⟩)):=by
 refine pF Tryz.func330 rfl λst=>?_
 repeat' first|apply wZ;rfl|show Cn _;constructor|exact rfl
theorem aFM{k n:Int}{b:ByteArray}{k' n':Int}{b':ByteArray}:PF Tryz.prog 326 [.agg [vi k,vi n,vs b], .agg [vi k',vi n',vs b']] (vb (decide (k=k')&&(decide (n=n')&&decide (b=b')))):=by
 refine pF Tryz.func326 rfl λst=>?_
 repeat' first|apply wZ;rfl|show Cn _;constructor|exact rfl
def aIh(a b:ByteArray):Bool:=Op.bytesLess a.toList b.toList
theorem nJ{k n:Int}{b:ByteArray}{k' n':Int}{b':ByteArray}:PF Tryz.prog 327 [.agg [vi k,vi n,vs b], .agg [vi k',vi n',vs b']] (vb (decide (n<n')||aIh b b')):=by
 refine pF Tryz.func327 rfl λst=>?_
 repeat' first|apply wZ;rfl|show Cn _;constructor|exact rfl
theorem aDS{k n:Int}{b:ByteArray}{k' n':Int}{b':ByteArray}:PF Tryz.prog 332 [.agg [vi k,vi n,vs b], .agg [vi k',vi n',vs b']] (.tup [.agg [vi 1,vi (if decide (n=0)then 1 else 0),vs e0],vi 0]):=by
 refine pF Tryz.func332 rfl λst=>?_
 repeat' first|apply wZ;rfl|show Cn _;constructor|exact rfl|apply uW|apply wY;rfl
theorem aqS{k n:Int}{b:ByteArray}{k' n':Int}{b':ByteArray}:PF Tryz.prog 334 [.agg [vi k,vi n,vs b], .agg [vi k',vi n',vs b']] (.tup [.agg [vi 1,vi (if decide (k=0)then 1 else 0),vs e0],vi 0]):=by
 refine pF Tryz.func334 rfl λst=>?_
 repeat' first|apply wZ;rfl|show Cn _;constructor|exact rfl|(first|apply uW|apply xX)|apply wY;rfl
def anD(f:FuncId)(op:Int->Int->Int):Prop:=∀a b,PF Tryz.prog f [vi a,vi b] (vi (IntKind.wrap .i64 (op a b)))
theorem aB8 :anD 322 (· + ·):=by
 intro a b;refine pF Tryz.func322 rfl λst=>?_
 ((apply aI6 pk 4);rfl;(focus repeat' constructor);(focus repeat'(exact All.nil)))
 refine lF ?_
 iterate 2 (apply mV aS;iterate 4 rfl)
 apply aGw;iterate 5 rfl
 apply mV aS;iterate 4 rfl
 refine vC ?_
 repeat' first|apply wZ;rfl|show Cn _;constructor|exact rfl
theorem aBE :anD 323 (· - ·):=by
 intro a b;refine pF Tryz.func323 rfl λst=>?_
 ((apply aI6 pk 4);rfl;(focus repeat' constructor);(focus repeat'(exact All.nil)))
 refine lF ?_
 iterate 2 (apply mV aS;iterate 4 rfl)
 apply aGU;iterate 5 rfl
 apply mV aS;iterate 4 rfl
 refine vC ?_
 repeat' first|apply wZ;rfl|show Cn _;constructor|exact rfl
theorem aBm :anD 324 (· * ·):=by
 intro a b;refine pF Tryz.func324 rfl λst=>?_
 ((apply aI6 pk 4);rfl;(focus repeat' constructor);(focus repeat'(exact All.nil)))
 refine lF ?_
 iterate 2 (apply mV aS;iterate 4 rfl)
 apply aGH;iterate 5 rfl
 apply mV aS;iterate 4 rfl
 refine vC ?_
 repeat' first|apply wZ;rfl|show Cn _;constructor|exact rfl
def lim(n:Int):Prop:= -4611686018427387904<=n/\n<=4611686018427387904
def aJa(op:Int->Int->Int)(a b:Int):Bool:=(((decide (max a (0-a)>0)&&decide (max b (0-b)>0))&&decide (IntKind.wrap .i64 (op 1 1)=1))&&decide (max a (0-a)>1099511627776/max b (0-b)))
def aqG(op:Int->Int->Int)(a b:Int):Bool:=(aJa op a b||decide (IntKind.wrap .i64 (op a b)>1099511627776))||decide (IntKind.wrap .i64 (op a b)< -1099511627776)
theorem aCp{f:FuncId}{op:Int->Int->Int}(hf:anD f op){k n:Int}{b:ByteArray}{k' n':Int}{b':ByteArray}(c:lim n)(d:lim n'):PF Tryz.prog 351 [.agg [vi k,vi n,vs b], .agg [vi k',vi n',vs b'], .rp [.fn f []]]
  (if aqG op n n' then .tup [.agg [vi 0,vi 0,vs e0],vi 20]else .tup [.agg [vi 1,vi (IntKind.wrap .i64 (op n n')),vs e0],vi 0]):=by
 obtain⟨c,i⟩:=c
 obtain⟨d,j⟩:=d
 have e:=hf 1 1
 have g:=hf n n'
 have a:aqG op n n'=((aJa op n n'||decide (IntKind.wrap .i64 (op n n')>1099511627776))||decide (IntKind.wrap .i64 (op n n')< -1099511627776)):=rfl
 unfold aJa at a
 generalize aqG op n n'=R at*
 refine pF Tryz.func351 rfl λst=>?_
 repeat' first|apply wZ;rfl|show Cn _;constructor|exact rfl|apply KR.mk;kernel_rfl|(first|apply e|apply g|apply dY)|show(_:PV)=_;(first|rw[show R=true from by rw[a];simpa using h];rfl|rw[show R=false from by rw[a];simpa using h];rfl);done|intro h;(have h:=(aLv h).2);(simp only[zba,zde]at h);omega|apply wY;rfl|omega|intro h;simp at h
def pZ(r:Vl×Int):PV:= .tup [.agg [vi r.1.kind,vi r.1.n,vs r.1.s],vi r.2]
def vN(n:Int):Vl:=⟨1,n,e0⟩
def pP(b:Bool):Vl:=vN (if b then 1 else 0)
def arP(f:FuncId)(caps:List PV)(r:Vl->Vl->Vl×Int):Prop:=
 ∀k n b k' n' b',lim n->lim n'->PF Tryz.prog f ([.agg [vi k,vi n,vs b], .agg [vi k',vi n',vs b']]++caps) (pZ (r ⟨k,n,b⟩ ⟨k',n',b'⟩))
def aIS(f:FuncId)(op:Vl->Vl->Bool):Prop:=∀{k n b k' n' b'},PF Tryz.prog f [.agg [vi k,vi n,vs b], .agg [vi k',vi n',vs b']] (vb (op ⟨k,n,b⟩ ⟨k',n',b'⟩))
def aJ1(f:FuncId)(op:Vl->Bool):Prop:=∀{k n b},PF Tryz.prog f [.agg [vi k,vi n,vs b]] (vb (op ⟨k,n,b⟩))
def acD(op:Int->Int->Int)(a b:Vl):Vl×Int:=if aqG op a.n b.n then(v0,20)else(vN (IntKind.wrap .i64 (op a.n b.n)),0)
theorem xW{f:FuncId}{op:Int->Int->Int}(hf:anD f op):arP 351 [.rp [.fn f []]] (acD op):=by
 intro k n b k' n' b' a c;have:=aCp hf (k:=k) (b:=b) (k':=k') (b':=b') a c;unfold acD;simp only;split at this
 ·rename_i h;rw[zp h];exact this
 ·rename_i h;rw[zn h];exact this
theorem aiS{f:FuncId}{op:Vl->Vl->Bool}(hf:aIS f op):arP 353 [.rp [.fn f []]] (λa b=>(pP (op a b),0)):=by
 intro k n b k' n' b' d e;have c:=@hf k n b k' n' b';refine pF Tryz.func353 rfl λst=>?_
 repeat' first|apply wZ;rfl|show Cn _;constructor|exact rfl|(first|apply c|apply uW)|apply wY;rfl
def lO(r:Vl->Vl->Vl×Int)(a b:Vl):Vl×Int:=if(decide (a.kind=0)||decide (b.kind=0))then(v0,0)else r a b
theorem jI{f:FuncId}{caps:List PV}{r:Vl->Vl->Vl×Int}(hf:arP f caps r):arP 355 [.rp [.fn f caps]] (lO r):=by
 intro k n b k' n' b' c d;have a:=hf k n b k' n' b' c d;have hd:lO r ⟨k,n,b⟩ ⟨k',n',b'⟩=if(decide (k=0)||decide (k'=0))then(v0,0)else r ⟨k,n,b⟩ ⟨k',n',b'⟩:=rfl
 generalize lO r ⟨k,n,b⟩ ⟨k',n',b'⟩=R at*;generalize r ⟨k,n,b⟩ ⟨k',n',b'⟩=e at*;unfold pZ at a⊢;refine pF Tryz.func355 rfl λst=>?_
 repeat' first|apply wZ;rfl|show Cn _;constructor|exact rfl|(first|apply a|apply xX)|show(_:PV)=_;(simp[*,v0];done);done|apply wY;rfl|intro h;simp at h
def ahX(op:Vl->Bool)(c:Int)(a b:Vl):Vl×Int:=if(op a||op b)then(vN c,0)else if(decide (a.kind=0)||decide (b.kind=0))then(v0,0)else(vN (1-c),0)
theorem adT{f:FuncId}{op:Vl->Bool}(hf:aJ1 f op){a:Int}(h0:0<=a)(e:a<=1):arP 354 [.rp [.fn f []], .rp [vi a]] (ahX op a):=by
 intro k n b k' n' b' _ _;have c:=@hf k n b;have d:=@hf k' n' b';have hd:ahX op a ⟨k,n,b⟩ ⟨k',n',b'⟩=if(op ⟨k,n,b⟩||op ⟨k',n',b'⟩)then(vN a,0)else if(decide (k=0)||decide (k'=0))then(v0,0)else(vN (1-a),0):=rfl
 generalize ahX op a ⟨k,n,b⟩ ⟨k',n',b'⟩=R at*;generalize op ⟨k,n,b⟩=A at*;generalize op ⟨k',n',b'⟩=B at*;unfold pZ;refine pF Tryz.func354 rfl λst=>?_
 repeat' first|apply wZ;rfl|show Cn _;constructor|exact rfl|(first|apply c|apply d|apply xX|apply dY)|show(_:PV)=_;(simp[*,v0,vN];done);done|apply wY;rfl|omega|intro h;simp at h
theorem aD6 :arP 332 [] (λa _=>(pP (decide (a.n=0)),0)):=λ_ _ _ _ _ _ _ _=>aDS
theorem aoP :arP 334 [] (λa _=>(pP (decide (a.kind=0)),0)):=λ_ _ _ _ _ _ _ _=>aqS
theorem afO{p:FuncId}{caps:List PV}:PF Tryz.prog 331 [.fn p caps] (.fn 355 [.rp [.fn p caps]]):=by
 refine pF Tryz.func331 rfl λst=>?_
 repeat' first|apply wZ;rfl|show Cn _;constructor|exact rfl|apply bB 1;rfl;rfl
theorem asU{f:FuncId}:PF Tryz.prog 321 [.fn f []] (.agg [vi 2,vb true, .fn 355 [.rp [.fn 351 [.rp [.fn f []]]]]]):=by
 refine pF Tryz.func321 rfl λst=>?_
 repeat' first|apply wZ;rfl|show Cn _;constructor|exact rfl|apply afO|apply bB 1;rfl;rfl|apply wY;rfl
theorem aGY{f:FuncId}:PF Tryz.prog 325 [.fn f []] (.agg [vi 2,vb false, .fn 355 [.rp [.fn 353 [.rp [.fn f []]]]]]):=by
 refine pF Tryz.func325 rfl λst=>?_
 repeat' first|apply wZ;rfl|show Cn _;constructor|exact rfl|apply afO|apply bB 1;rfl;rfl|apply wY;rfl
theorem aEX{f:FuncId}{a:Int}:PF Tryz.prog 328 [.fn f [],vi a] (.agg [vi 2,vb true, .fn 354 [.rp [.fn f []], .rp [vi a]]]):=by
 refine pF Tryz.func328 rfl λst=>?_
 repeat' first|apply wZ;rfl|show Cn _;constructor|exact rfl|apply bB 2;rfl;rfl|apply bB 3;rfl;rfl
def aDl(f:FuncId):PV:= .agg [vi 2,vb true, .fn 355 [.rp [.fn 351 [.rp [.fn f []]]]]]
def aJ2(f:FuncId):PV:= .agg [vi 2,vb false, .fn 355 [.rp [.fn 353 [.rp [.fn f []]]]]]
def aH5(f:FuncId)(a:Int):PV:= .agg [vi 2,vb true, .fn 354 [.rp [.fn f []], .rp [vi a]]]
def sB :List (Value×PV):=[(.int .i64 2,aDl 322),(.int .i64 3,aDl 323),(.int .i64 4,aDl 324),(.int .i64 5,aJ2 326),(.int .i64 6,aJ2 327),(.int .i64 7,aH5 329 0),(.int .i64 8,aH5 330 1),
 (.int .i64 9, .agg [vi 1,vb true, .fn 355 [.rp [.fn 332 []]]]),(.int .i64 10, .agg [vi 1,vb false, .fn 334 []])]
theorem eK :PF Tryz.prog 276 [] (.fmap sB):=by
 refine pF Tryz.func276 rfl λst=>?_
 focus(repeat' first|apply jW 0;rfl;exact aA _ _ _|exact Cn.any ⟨_,_,st,rfl,zwr _,StSub.via id a (λj h=>by repeat (first|refine Eq.trans (aB h) ?_|exact rfl)),rfl,rfl⟩|apply wZ;rfl|show Cn _;constructor|(first|apply asU|apply aGY|apply aEX|apply afO)|refine pK rfl λid a=>?_|apply sE aS;exact .inl rfl;(iterate 7 rfl);exact aA _ _ _;rfl|apply wY;rfl)
def eqV(a b:Vl):Bool:=decide (a.kind=b.kind)&&(decide (a.n=b.n)&&decide (a.s=b.s))
def cU(a b:Vl):Bool:=decide (a.n<b.n)||aIh a.s b.s
def fG(k:Int):Int:=if k=9\/k=10 then 1 else 2
def nR(k:Int):Bool:= !decide (k=5\/k=6\/k=10)
def vK(k:Int)(a b:Vl):Vl×Int:=
 if k=2 then lO (acD (· + ·)) a b else if k=3 then lO (acD (· - ·)) a b else if k=4 then lO (acD (· * ·)) a b
 else if k=5 then lO (λa b=>(pP (eqV a b),0)) a b else if k=6 then lO (λa b=>(pP (cU a b),0)) a b
 else if k=7 then ahX aD1 0 a b else if k=8 then ahX aJw 1 a b
 else if k=9 then lO (λa _=>(pP (decide (a.n=0)),0)) a b else(pP (decide (a.kind=0)),0)
theorem abZ{k:Int}(a:2<=k)(b:k<=10):∃f caps,iJ tt 312 sB (.int .i64 k) false=some (.agg [vi (fG k),vb (nR k), .fn f caps])/\arP f caps (vK k):=by
 have:k=2\/k=3\/k=4\/k=5\/k=6\/k=7\/k=8\/k=9\/k=10:=by omega
 rcases this with rfl|rfl|rfl|rfl|rfl|rfl|rfl|rfl|rfl
 ·exact⟨_,_,rfl,jI (xW aB8)⟩
 ·exact⟨_,_,rfl,jI (xW aBE)⟩
 ·exact⟨_,_,rfl,jI (xW aBm)⟩
 ·exact⟨_,_,rfl,jI (aiS (op:=eqV) (fun{_ _ _ _ _ _}=>aFM))⟩
 ·exact⟨_,_,rfl,jI (aiS (op:=cU) (fun{_ _ _ _ _ _}=>nJ))⟩
 ·exact⟨_,_,rfl,adT (op:=aD1) (fun{_ _ _}=>aBU) (by omega) (by omega)⟩
 ·exact⟨_,_,rfl,adT (op:=aJw) (fun{_ _ _}=>aDO) (by omega) (by omega)⟩
 ·exact⟨_,_,rfl,jI aD6⟩
 ·exact⟨_,_,rfl,aoP⟩
theorem aEi{k:Int}(a:2<=k)(b:k<=10):∃f caps,iJ tt 312 sB (.int .i64 k) true=some (.tup [.agg [vi (fG k),vb (nR k), .fn f caps],vb true]):=by
 have:k=2\/k=3\/k=4\/k=5\/k=6\/k=7\/k=8\/k=9\/k=10:=by omega
 rcases this with rfl|rfl|rfl|rfl|rfl|rfl|rfl|rfl|rfl<;>exact⟨_,_,rfl⟩
theorem aAB{k:Int}(h:¬(2<=k/\k<=10)):iJ tt 312 sB (.int .i64 k) true=some (.tup [.agg [vi 0,vb false, .val .nilFunc],vb false]):=by
 have hf:ajG (.int .i64 k) sB=some none:=by
  unfold sB;simp only[ajG,wE,pU,zqt];have b:¬k=2:=by omega
  have c:¬k=3:=by omega
  have d:¬k=4:=by omega
  have e:¬k=5:=by omega
  have f:¬k=6:=by omega
  have g:¬k=7:=by omega
  have i:¬k=8:=by omega
  have j:¬k=9:=by omega
  have a:¬k=10:=by omega
  simp[b,c,d,e,f,g,i,j,a]
 unfold iJ;rw[hf];rfl
theorem aEy{α:Type}{l:List α}{i:Nat}{x:α}{p:α->Bool}(h:l[i]?=some x):(l.take (i+1)).any p=((l.take i).any p||p x):=by
 obtain⟨hl,rfl⟩:=zge.1 h;rw[List.take_succ_eq_append_getElem hl,List.any_append];simp
theorem aqE{α:Type}{l:List α}{i:Nat}{x:α}{p:α->Bool}(h:l[i]?=some x):(l.take (i+1)).all p=((l.take i).all p&&p x):=by
 obtain⟨hl,rfl⟩:=zge.1 h;rw[List.take_succ_eq_append_getElem hl,List.all_append];simp
theorem aIN{α:Type}{l:List α}{i:Nat}{x:α}{p:α->Bool}(h:l[i]?=some x)(hp:p x=true):l.any p=true:=
 List.any_eq_true.2 ⟨x,List.mem_of_getElem? h,hp⟩
theorem azC{α:Type}{l:List α}{i:Nat}{x:α}{p:α->Bool}(h:l[i]?=some x)(hp:p x=false):l.all p=false:=by
 cases ha:l.all p with
 |false=>rfl
 |true=>rw[zal]at ha;have:=ha x (List.mem_of_getElem? h);rw[hp]at this;cases this
theorem xK{α:Type}{l:List α}{i:Nat}(h:¬i<l.length):l.take i=l:=ztl (by omega)
def eN :Nat->Ex->Bool
 |0,_=>true
 |l+1,e=>e.of.any (eN l)
theorem aA4 :∀(left:Nat)(e:Ex)(z:Int),z=(left:Nat)->left<=1000->e.ok->PF Tryz.prog 274 [.agg e.cells,vi z] (vb (eN left e)):=by
 intro left
 induction left with
 |zero=>
  intro e z hz _ _;subst hz;obtain⟨k,n,v,of⟩:=e;refine pF Tryz.func274 rfl λst=>?_
  (repeat' first|apply wZ;rfl|show Cn _;constructor|exact rfl)
 |succ left ih=>
  intro e z hz hl d;subst hz;obtain⟨k,n,v,of⟩:=e;simp only[Ex.ok]at d;have q:=Ex.rows_len of;refine pF Tryz.func274 rfl λst=>?_
  focus(repeat' first|apply wZ;rfl|show Cn _;constructor)
  refine aC (X:={i:Nat//i<=of.length/\(of.take i).any (eN left)=false}) (λi=>(((((St.nil 21 st).pv 1 (vi (left+1:Nat))).pv 10 (.seq (Ex.rows of))).pv 11 (vi ((Ex.rows of).length:Nat))).pv 12 (vi (i.1:Nat)))) (λi=>of.length-i.1) ⟨0,by omega,by simp⟩ ?_ λi=>?_
  ·repeat' first|show Cn _;constructor|exact rfl
  obtain⟨i,hi,a⟩:=i;dsimp only;by_cases o:of.length<=i
  ·rw[xK (by omega)]at a
   have e:eN (left+1) (.mk k n v of)=false:=a
   repeat' first|apply wZ;rfl|show Cn _;constructor|exact rfl|show(_:PV)=_;(rw[e]);done|omega|intro h;simp at h
  obtain⟨x,hx⟩:=fX (l:=of) (i:=i) (by omega);have b:=Ex.rows_get hx;have j:=Ex.oks_mem d.2 (List.mem_of_getElem? hx);have f:=aEy (p:=eN left) hx;have g:eN left x=true->eN (left+1) (.mk k n v of)=true:=λh=>aIN hx h;have hd:=ih x (left:Nat) rfl (by omega) j;generalize eN left x=D at*;obtain⟨k',n',r,m⟩:=x;have c:∀z:Int,z=(left:Nat)->PF Tryz.prog 274 [.agg (Ex.mk k' n' r m).cells,vi z] (vb D):=λz hz=>hz▸hd;cases D with
  |true=>
   have e:=g rfl
   (repeat' first|apply wZ;rfl|show Cn _;constructor|exact rfl|apply cL pk;(iterate 6 rfl);rotate_left;rfl;(intro hw;rfl);(intro hw;apply b<;>omega);(intro _;exact Ex.cells_len _);rfl|apply c<;>(omega)|show(_:PV)=_;(rw[e]);done|apply wY;rfl|omega|intro h;simp at h)
  |false=>
   rw[a]at f
   repeat' first|refine⟨⟨i+1,by omega,f⟩,?_,?_⟩|apply wZ;rfl|show Cn _;constructor|exact rfl|apply cL pk;(iterate 6 rfl);rotate_left;rfl;(intro hw;rfl);(intro hw;apply b<;>omega);(intro _;exact Ex.cells_len _);rfl|apply c<;>(omega)|apply wY;rfl|omega|simp only[zql];omega|intro h;simp at h
end
end Go.Proofs.YtnogfoojjaainaaGreatDoor.X
