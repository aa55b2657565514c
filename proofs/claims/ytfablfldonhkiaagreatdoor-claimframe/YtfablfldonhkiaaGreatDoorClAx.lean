import Derived.Test.YtfablfldonhkiaaGreatDoorClAs
import Derived.Test.YtfablfldonhkiaaGreatDoorClAv
import Derived.Test.YtfablfldonhkiaaGreatDoorClAw
import Derived.Test.YtfablfldonhkiaaGreatDoorClAu
import Derived.Test.YtfablfldonhkiaaGreatDoorClAm
import Derived.Test.YtfablfldonhkiaaGreatDoorClAl
set_option linter.unusedSimpArgs false
set_option linter.unusedVariables false
namespace Go.Proofs.YtfablfldonhkiaaGreatDoor
open Go Go.Abs
section
set_option maxRecDepth 10000
set_option maxHeartbeats 4000000
section
variable {w:Wr} {s:Sc} {b:Bs} {k:Nat} {y:Ln}
structure Free (s:Sc) (k:Nat) (y:Ln) (Q:P4->Prop):Prop where
 key:¬Q (1,(k:Int),0,y.key)
 fk:∀f∈s[k]!.foreign,∀n,ptP y f.col=some n->¬Q (1,f.table,0,n)
 uq:∀u∈s[k]!.unique,∀n,ptP y u=some n->¬Q (2,(k:Int),u,n)
theorem Free.mono {Q a:P4->Prop} (h:Free s k y Q) (hq:∀x,a x->Q x):Free s k y a:=
 ⟨λq=>h.key (hq _ q),λf hf n e q=>h.fk f hf n e (hq _ q),λu hu n e q=>h.uq u hu n e (hq _ q)⟩
theorem kM (hk:k<b.length):okT b (k:Int)=true:=by unfold okT;simp;omega
theorem iC (t:Int) (a:Ln):(bN b t a).length=b.length:=by rw [anY,lM]
theorem aB0 {o:Ot} (hb:aV T.rightP s b=true) (hk:k<s.length) (hn:aY (aF b (k:Int)) y.key=none) (h:Free s k y (mQ s b (bD w s b o).1)) (h8:o.kind≠8) (hl:∀t,(aF b t).length<2000) (h0:(bD w s b o).2=0):¬(o.table=(k:Int)/\aaP o=y.key):=by
 rintro ⟨f,g⟩;obtain ⟨a,c,_,_,d,e⟩:=apK hb h8 (hl _) h0;refine h.key ⟨k,hk,y.key,λq=> ?_, .inl rfl⟩;rw [d,hn,<-f,sH hb e,zp ⟨rfl,by rw [c,g]⟩] at q;cases q
theorem alR {o:Ot} (hb:aV T.rightP s b=true) (hk:k<s.length) (hn:aY (aF b (k:Int)) y.key=none) (j:Free s k y (mQ s b (bD w s b o).1)) (h8:o.kind≠8) (hl:∀t,(aF b t).length<1000) (h0:(bD w s b o).2=0):bD w s (bN b (k:Int) y) o=(bN (bD w s b o).1 (k:Int) y,0):=by
 have l:=(aI.1 hb).1.2;have c:okT b (k:Int)=true:=kM (by omega);have d:=aB0 hb hk hn j h8 (λt=>by have:=hl t;omega) h0;obtain ⟨a,f,_,g,h,i⟩:=apK hb h8 (by have:=hl o.table;omega) h0;have hg:aY (aF (bN b (k:Int) y) o.table) (aaP o)=aY (aF b o.table) (aaP o):=by
  rw [sH hb c,zn d]
 have e:(aF (bN b (k:Int) y) o.table).length<2000:=by
  rw [fV c];split
  ·have:=abS (aF b (k:Int)) y
   have:=hl (k:Int);omega
  ·have:=hl o.table;omega
 rw [amU h8 e,hg,g,zn (by simp),h];dsimp only;rw [aAK hb c i (λq=>d ⟨q.1.symm,by rw [<-f];exact q.2.symm⟩)]
theorem ayF (hb:aV T.rightP s b=true) (hk:k<s.length) {u v:R2}:chB s (bN b (k:Int) y) u v↔chB s b u v/\v≠((k:Int),y.key)\/(∃f∈s[k]!.foreign,f.table=u.1/\f.act=1/\ptP y f.col=some u.2/\v=((k:Int),y.key)):=by
 have m:=(aI.1 hb).1.2;have i:okT b (k:Int)=true:=kM (by omega);have hL:∀j,j<b.length->(bN b (k:Int) y)[j]!.lines=if j=k then gX b[k]!.lines y else b[j]!.lines:=λj hj=>by
  have e:aF (bN b (k:Int) y) (j:Int)=(bN b (k:Int) y)[j]!.lines:=by
   rw [dV (by rw [iC];exact hj),getElem!_pos _ j (by rw [iC];exact hj)]
  rw [<-e,fV i]
  by_cases q:j=k
  ·subst q;rw [zp rfl,zp rfl,dV hj,getElem!_pos b j hj]
  ·rw [zn (by omega),zn q,dV hj,getElem!_pos b j hj]
 have h:KSort b[k]!.lines:=rQ hb k (by omega);unfold chB;rw [iC];constructor
 ·rintro ⟨j,hj,f,hf,l,hl,c,d,g,rfl⟩
  rw [hL j hj] at hl;by_cases e:j=k
  ·subst e
   rw [zp rfl] at hl;rcases (bG h y l).1 hl with rfl|⟨hl,a⟩
   ·exact .inr ⟨f,hf,c,d,g,rfl⟩
   ·exact .inl ⟨⟨j,hj,f,hf,l,hl,c,d,g,rfl⟩,λq=>a (Prod.mk.inj q).2⟩
  ·rw [zn e] at hl
   exact .inl ⟨⟨j,hj,f,hf,l,hl,c,d,g,rfl⟩,λq=>e (by have:=(Prod.mk.inj q).1;omega)⟩
 ·rintro (⟨⟨j,hj,f,hf,l,hl,c,d,g,rfl⟩,a⟩|⟨f,hf,c,d,g,rfl⟩)
  ·refine ⟨j,hj,f,hf,l, ?_,c,d,g,rfl⟩
   rw [hL j hj];by_cases e:j=k
   ·subst e
    rw [zp rfl];exact (bG h y l).2 (.inr ⟨hl,λq=>a (by rw [q])⟩)
   ·rw [zn e];exact hl
  ·exact ⟨k,by omega,f,hf,y,by rw [hL k (by omega),zp rfl];exact (bG h y y).2 (.inl rfl),c,d,g,rfl⟩
end
end
section
set_option maxRecDepth 10000
set_option maxHeartbeats 4000000
section
variable {w:Wr} {s:Sc} {b:Bs} {k:Nat} {y:Ln}
theorem yF (hk:k<b.length) {j:Nat} (hj:j<b.length):(bN b (k:Int) y)[j]!.lines=if j=k then gX b[k]!.lines y else b[j]!.lines:=by
 have e:aF (bN b (k:Int) y) (j:Int)=(bN b (k:Int) y)[j]!.lines:=by
  rw [dV (by rw [iC];exact hj),getElem!_pos _ j (by rw [iC];exact hj)]
 rw [<-e,fV (kM hk)];by_cases q:j=k
 ·subst q;rw [zp rfl,zp rfl,dV hj,getElem!_pos b j hj]
 ·rw [zn (by omega),zn q,dV hj,getElem!_pos b j hj]
theorem akI (hn:aY (aF b (k:Int)) y.key=none) {u:R2} (h:u∈dH b):u≠((k:Int),y.key):=λe=>by
 have q:=nT.2 h
 unfold uO at q
 rw [e,hn] at q;cases q
theorem aBK (hb:aV T.rightP s b=true) (hk:k<s.length) (hn:aY (aF b (k:Int)) y.key=none) {z:R2} (hA:∀f∈s[k]!.foreign,∀n,ptP y f.col=some n->¬Reach s b z (f.table,n)) {u:R2}:Reach s (bN b (k:Int) y) z u↔Reach s b z u:=by
 constructor
 ·intro h
  induction h with
  |refl=>exact .refl
  |step _ c ih=>
   rcases (ayF hb hk).1 c with q|⟨f,hf,a,_,d,_⟩
   ·exact .step ih q.1
   ·exact absurd (show Reach s b z (f.table,_) by rw [a];exact ih) (hA f hf _ d)
 ·intro h
  induction h with
  |refl=>exact .refl
  |step _ c ih=>exact .step ih ((ayF hb hk).2 (.inl ⟨c,akI hn (ayN c)⟩))
theorem agF {t:Tb} {G:R2->Bool} {who:Dt} {l:Ln} (h:∀f∈t.foreign,eF G l f=false):jS t G who l=l:=by
 unfold jS azM;rw [zn];intro q;obtain ⟨f,hf,e⟩:=List.any_eq_true.1 q;rw [h f hf] at e;cases e
theorem atO {t:Tb} {G:R2->Bool} {l:Ln} (h:∀f∈t.foreign,∀n,ptP l f.col=some n->G (f.table,n)=false):∀f∈t.foreign,eF G l f=false:=λf hf=>by
 rw [<-Bool.not_eq_true,amP]
 rintro ⟨n,c,a⟩
 rw [h f hf n c] at a;cases a
theorem aGJ (hb:aV T.rightP s b=true) (hk:k<s.length) (hn:aY (aF b (k:Int)) y.key=none) {G:R2->Bool} {who:Dt} (r:G ((k:Int),y.key)=false) (hA:∀f∈s[k]!.foreign,∀n,ptP y f.col=some n->G (f.table,n)=false):kZ s (bN b (k:Int) y) G who=bN (kZ s b G who) (k:Int) y:=by
 have t:=(aI.1 hb).1.2;have a:k<b.length:=by omega
 have c:KSort b[k]!.lines:=rQ hb k a;have hL:∀x∈b[k]!.lines,x.key≠y.key:=λx hx e=>akI hn (fZ.2 ⟨k,a,x,hx,rfl⟩) (by rw [e]);have p:∀j,j<b.length->(kZ s (bN b (k:Int) y) G who)[j]!.lines=(bN (kZ s b G who) (k:Int) y)[j]!.lines:=λj hj=>by
  rw [oF (by rw [iC];exact hj),yF (b:=kZ s b G who) (by rw [kL];exact a) (by rw [kL];exact hj),oF hj,oF a]
  by_cases e:j=k
  ·subst e
   rw [zp rfl];refine aHV (nM (by rw [yF a hj,zp rfl];exact c.put y)) ((nM c).put y) λx=> ?_;rw [qI,yF a hj,zp rfl,bG (nM c),qI];constructor
   ·rintro ⟨l,hl,g,rfl⟩
    rcases (bG c y l).1 hl with rfl|⟨hl,d⟩
    ·exact .inl (agF (atO hA))
    ·exact .inr ⟨⟨l,hl,g,rfl⟩,by rw [acY];exact d⟩
   ·rintro (rfl|⟨⟨l,hl,g,rfl⟩,d⟩)
    ·exact ⟨x,(bG c x x).2 (.inl rfl),r,(agF (atO hA)).symm⟩
    ·exact ⟨l,(bG c y l).2 (.inr ⟨hl,hL l hl⟩),g,rfl⟩
  ·rw [zn e]
   unfold pN;rw [yF a hj,zn e]
 have h:(kZ s (bN b (k:Int) y) G who).length=b.length:=by rw [kL,iC]
 have i:(bN (kZ s b G who) (k:Int) y).length=b.length:=by rw [iC,kL]
 refine List.ext_getElem (by rw [h,i]) λj m o=> ?_;have q:=p j (by omega);rw [getElem!_pos _ j m,getElem!_pos _ j o] at q;generalize (kZ s (bN b (k:Int) y) G who)[j]=A at q;generalize (bN (kZ s b G who) (k:Int) y)[j]=B at q;cases A;cases B
 exact congrArg _ q
theorem aHt (hk:k<b.length) (c:KSort b[k]!.lines) {G:R2->Bool} (h:aaI s b G=true) (hA:∀f∈s[k]!.foreign,∀n,ptP y f.col=some n->G (f.table,n)=false):aaI s (bN b (k:Int) y) G=true:=by
 unfold aaI at*;rw [iC];rw [zal] at h⊢;intro j hj;have a:=List.mem_range.1 hj;rw [yF hk a];have q:=h j hj;by_cases e:j=k
 ·subst e
  rw [zp rfl];rw [zal] at q⊢;intro l hl;rcases (bG c y l).1 hl with rfl|⟨hl,_⟩
  ·unfold aaG sZ
   rw [Bool.or_eq_true];refine .inr (zal.2 λf hf=> ?_);rw [atO hA f hf];rfl
  ·exact q l hl
 ·rw [zn e];exact q
theorem aCj (hb:aV T.rightP s b=true) {G:R2->Bool} {who:Dt} {u:R2} (hu:u∈dH b) (hg:G u=true):mQ s b (kZ s b G who) (1,u.1,0,u.2):=by
 have f:=(aI.1 hb).1.2;obtain ⟨j,hj,l,hl,rfl⟩:=fZ.1 hu;have c:=rQ hb j hj;have a:aF (kZ s b G who) (j:Int)=pN s b G who j:=by
  rw [<-oF hj,dV (by rw [kL];exact hj),getElem!_pos _ j (by rw [kL];exact hj)]
 refine ⟨j,by omega,l.key,λq=> ?_, .inl rfl⟩;have d:aY (aF b (j:Int)) l.key=some l:=by
  rw [dV hj,<-getElem!_pos b j hj];exact (eG c).2 ⟨hl,rfl⟩
 rw [d,a] at q;obtain ⟨m,hm⟩:=(eG (nM c)).1 q.symm;obtain ⟨h,_,g,e⟩:=qI.1 m;have:l.key=h.key:=by rw [e,acY]
 rw [<-this,hg] at g;cases g
theorem aAe {o:Ot} (hb:aV T.rightP s b=true) (hk:k<s.length) (hn:aY (aF b (k:Int)) y.key=none) (g:Free s k y (mQ s b (bD w s b o).1)) (h8:o.kind=8) (h0:(bD w s b o).2=0):bD w s (bN b (k:Int) y) o=(bN (bD w s b o).1 (k:Int) y,0):=by
 have a:=(aI.1 hb).1.2;have h:k<b.length:=by omega
 have v:KSort b[k]!.lines:=rQ hb k h;by_cases t:eO s o≠0
 ·unfold bD at h0
  rw [zp t] at h0;exact absurd h0 t
 have es:∀b,bD w s b o=tY true s b (o.table,o.key) w.dot (lI s b (o.table,o.key)):=λb=>by
  unfold bD
  rw [zn t,zn (by omega),zp h8]
 rw [es] at h0 g⊢;rw [es];unfold tY at h0 g⊢;rw [zp rfl] at h0 g⊢;rw [zp rfl];by_cases hz:uO b (o.table,o.key)=true
 ·rw [zp hz] at h0 g⊢
  by_cases hm:aaI s b (inR (lI s b (o.table,o.key)))=true
  ·rw [zp hm] at h0 g⊢
   dsimp only at g⊢;have i:=nT.1 hz;have c:∀u,inR (lI s b (o.table,o.key)) u=true->u∈dH b:=λu hu=>((abG a).1 hu).2.row i;have d:∀f∈s[k]!.foreign,∀n,ptP y f.col=some n->inR (lI s b (o.table,o.key)) (f.table,n)=false:=λf hf n e=>by
    rw [<-Bool.not_eq_true]
    intro q
    exact g.fk f hf n e (aCj hb (c _ q) q)
   have r:∀f∈s[k]!.foreign,∀n,ptP y f.col=some n->¬Reach s b (o.table,o.key) (f.table,n):=λf hf n e q=>by
    have:=d f hf n e
    rw [(abG a).2 ⟨hz,q⟩] at this;cases this
   have m:uO (bN b (k:Int) y) (o.table,o.key)=true:=by
    obtain ⟨j,hj,l,hl,e⟩:=fZ.1 i;refine nT.2 (fZ.2 ⟨j,by rw [iC];exact hj,l, ?_,e⟩);rw [yF h hj];by_cases q:j=k
    ·subst q
     rw [zp rfl];exact (bG v y l).2 (.inr ⟨hl,λx=>akI hn i (by rw [e,x])⟩)
    ·rw [zn q];exact hl
   have z:inR (lI s (bN b (k:Int) y) (o.table,o.key))=inR (lI s b (o.table,o.key)):=by
    funext u
    rw [Bool.eq_iff_iff,abG (by rw [iC];exact a),abG a,aBK hb hk hn r];simp [hz,m]
   have p:inR (lI s b (o.table,o.key)) ((k:Int),y.key)=false:=by
    rw [<-Bool.not_eq_true];intro q;exact akI hn (c _ q) rfl
   rw [zp m,z,zp (aHt h v hm d),aGJ hb hk hn p d]
  ·rw [zn hm] at h0;cases h0
 ·rw [zn hz] at h0;cases h0
theorem arS {o:Ot} {m:Nat} (hm:m<=100) (hb:aV T.rightP s b=true) (c:OpW m b) (hk:k<s.length) (hn:aY (aF b (k:Int)) y.key=none) (a:Free s k y (mQ s b (bD w s b o).1)) (h0:(bD w s b o).2=0):bD w s (bN b (k:Int) y) o=(bN (bD w s b o).1 (k:Int) y,0):=by
 by_cases h8:o.kind=8
 ·exact aAe hb hk hn a h8 h0
 ·exact alR hb hk hn a h8 (λt=>by have:=(iD c t).1;omega) h0
theorem aBy (hk:k<s.length) {c:Bs} (hn:aY (aF b (k:Int)) y.key=none) (h:¬mQ s b c (1,(k:Int),0,y.key)):aY (aF c (k:Int)) y.key=none:=by
 refine Classical.byContradiction λq=>h ⟨k,hk,y.key,λe=>q (by rw [<-e,hn]), .inl rfl⟩
theorem aCX {c:Bs} (hb:aV T.rightP s b=true) (hc:aV T.rightP s c=true) (hk:k<s.length) (hn:aY (aF b (k:Int)) y.key=none) (d:aY (aF c (k:Int)) y.key=none) {x:P4}:mQ s (bN b (k:Int) y) (bN c (k:Int) y) x↔mQ s b c x:=by
 have f:okT b (k:Int)=true:=kM (by have:=(aI.1 hb).1.2;omega);have g:okT c (k:Int)=true:=kM (by have:=(aI.1 hc).1.2;omega);unfold mQ;constructor
 ·rintro ⟨j,hj,key,a,q⟩
  rw [sH hb f,sH hc g] at a q;by_cases e:(j:Int)=(k:Int)/\key=y.key
  ·rw [zp e,zp e] at a;exact absurd rfl a
  ·rw [zn e,zn e] at a q
   exact ⟨j,hj,key,a,q⟩
 ·rintro ⟨j,hj,key,a,q⟩
  refine ⟨j,hj,key, ?_⟩;rw [sH hb f,sH hc g];by_cases e:(j:Int)=(k:Int)/\key=y.key
  ·rw [e.1,e.2,hn,d] at a;exact absurd rfl a
  ·rw [zn e,zn e];exact ⟨a,q⟩
theorem aeN (hw:pW w=true) (hk:k<s.length):∀{l:List Ot} {b:Bs} {m:Nat},aV T.rightP s b=true->OpW m b->m+l.length<=100->(∀o∈l,mC o)->aY (aF b (k:Int)) y.key=none->Free s k y (wN w s b l)->(aR w s b l).2=0->aR w s (bN b (k:Int) y) l=(bN (aR w s b l).1 (k:Int) y,0)/\∀x,wN w s (bN b (k:Int) y) l x↔wN w s b l x
 |[],b,m,_,_,_,_,_,_,_=>⟨rfl,λ_=>Iff.rfl⟩
 |o::r,b,m,hb,hW,hm,hf,hn,hF,h=>by
  rw [zlc] at hm
  obtain ⟨h0,e⟩:=lZ h
  obtain ⟨b1,b2⟩:=rW hw hb hW (hf o List.mem_cons_self) h0
  have a:Free s k y (mQ s b (bD w s b o).1):=hF.mono λ_ q=> .inl q
  have hs:=arS (by omega) hb hW hk hn a h0
  have c:=aBy hk hn a.key
  obtain ⟨d,f⟩:=aeN hw hk b1 b2 (by omega) (λp hp=>hf p (List.mem_cons_of_mem _ hp)) c (hF.mono λ_ q=> .inr q) (e▸h)
  rw [e,kQ,hs,zn (by simp)]
  refine ⟨d,λx=> ?_⟩
  unfold wN
  rw [hs]
  dsimp only
  rw [f,aCX hb b1 hk hn c]
end
end
section
set_option maxRecDepth 10000
set_option maxHeartbeats 4000000
theorem uM {α β:Type} {f g:α->List β}:∀{l:List α},(∀a∈l,f a=g a)->l.flatMap f=l.flatMap g
 |[],_=>rfl
 |a::l,h=>by rw [List.flatMap_cons,List.flatMap_cons,h a List.mem_cons_self,uM λc hc=>h c (List.mem_cons_of_mem _ hc)]
theorem awS (l:List Int):(iL l).Pairwise λa b=>ltI a b=true:=kO rT ((dC ltI _).nodup_iff.2 (abB l)) (rX rT _)
theorem aCV {F:Int->Option S4} {L M:List Int} (h:∀g,(F g).isSome=true->(g∈L↔g∈M)):(iL L).filterMap F=(iL M).filterMap F:=by
 have e:∀l:List Int,l.filterMap F=(l.filter λg=>(F g).isSome).filterMap F:=λl=>by
  induction l with
  |nil=>rfl
  |cons a l ih=>
   cases q:F a with
   |none=>rw [List.filterMap_cons_none q,List.filter_cons_of_neg (by rw [q];simp),ih]
   |some v=>rw [List.filter_cons_of_pos (by rw [q];rfl),List.filterMap_cons_some q,List.filterMap_cons_some q,ih]
 rw [e (iL L),e (iL M)];refine congrArg _ (xA rT ((awS L).filter _) ((awS M).filter _) λx=> ?_);rw [List.mem_filter,List.mem_filter,agN,agN];exact ⟨λq=>⟨(h x q.2).1 q.1,q.2⟩,λq=>⟨(h x q.2).2 q.1,q.2⟩⟩
section
variable {w:Wr} {s:Sc} {b:Bs} {k:Nat} {y:Ln}
theorem aBY {j:Nat} (hb:aV T.rightP s b=true) (hj:j<s.length) {m:Su} (hm:m∈s[j].sums) {g:Int} (hg:g∉iJ b j m):jB m g (cS bP b (j:Int))=0:=aqR λx hx=>by
 unfold cS at hx
 obtain ⟨l,hl,rfl⟩:=List.mem_map.1 hx
 rintro ⟨a,c⟩
 refine hg (List.mem_filterMap.2 ⟨l,hl, ?_⟩)
 have q:=aCx (aI.1 hb).1.1 hj hm
 have hu:akY s j m.by_:=⟨by have:=q.b1;omega,by rw [getElem!_pos s j hj];exact q.b2,by rw [getElem!_pos s j hj];exact q.kb⟩
 rw [aIk hu.1 (aIe hb hj hu hl).1 (qQ hb hj hu hl)]
 unfold auO at a c
 rw [zp a,c]
theorem ajQ (a:rightC s=0) (hb:aV T.rightP s b=true) {j i:Nat} (hj:j<s.length) (hi:i<s[j]!.sums.length) (g:Int):totC s b j i g=jB s[j]!.sums[i]! g (cS bP b (j:Int)):=by
 unfold totC;rw [dif_pos ⟨by unfold mayC;rw [decide_eq_true a,hb];rfl,⟨by omega,by omega⟩,by omega,by rw [Int.toNat_natCast];omega⟩,Int.toNat_natCast,Int.toNat_natCast]
theorem aDQ (hk:k<b.length) {j:Nat} (h:j≠k):cS bP (bN b (k:Int) y) (j:Int)=cS bP b (j:Int):=by
 unfold cS;rw [fV (kM hk),zn (by omega)]
theorem apA (c:rightC s=0) (hb:aV T.rightP s b=true) (hm:aV T.rightP s (bN b (k:Int) y)=true) (hk:k<s.length) (hn:aY (aF b (k:Int)) y.key=none) {j i:Nat} (hj:j<s.length) (hi:i<s[j]!.sums.length) (g:Int):totC s (bN b (k:Int) y) j i g=totC s b j i g+if j=k then aaD s[j]!.sums[i]! g (auO bP y) else 0:=by
 have a:k<b.length:=by have:=(aI.1 hb).1.2;omega
 rw [ajQ c hb hj hi,ajQ c hm hj hi];by_cases e:j=k
 ·subst e
  rw [zp rfl,aGf (kM a) (dR hb _) hn]
 ·rw [zn e,aDQ a e];omega
theorem avU (hb:aV T.rightP s b=true) (hk:k<s.length) (hn:aY (aF b (k:Int)) y.key=none) {j:Nat} {m:Su} {g:Int}:g∈iJ (bN b (k:Int) y) j m↔g∈iJ b j m\/(j=k/\ptP y m.by_=some g):=by
 have c:k<b.length:=by have:=(aI.1 hb).1.2;omega
 unfold iJ;rw [fV (kM c)];by_cases e:j=k
 ·subst e
  rw [zp rfl,List.mem_filterMap,List.mem_filterMap];have a:=dR hb (j:Int);constructor
  ·rintro ⟨l,hl,q⟩
   rcases (bG a y l).1 hl with rfl|⟨hl,_⟩
   ·exact .inr ⟨rfl,q⟩
   ·exact .inl ⟨l,hl,q⟩
  ·rintro (⟨l,hl,q⟩|⟨_,q⟩)
   ·refine ⟨l,(bG a y l).2 (.inr ⟨hl,λe=> ?_⟩),q⟩
    rw [<-e,(eG a).2 ⟨hl,rfl⟩] at hn;cases hn
   ·exact ⟨y,(bG a y y).2 (.inl rfl),q⟩
 ·rw [zn (by omega)]
  exact ⟨.inl,λq=>q.elim id λq=>absurd q.1 e⟩
theorem aC6 {c:Bs} (l:rightC s=0) (hb:aV T.rightP s b=true) (hc:aV T.rightP s c=true) (a:aV T.rightP s (bN b (k:Int) y)=true) (d:aV T.rightP s (bN c (k:Int) y)=true) (hk:k<s.length) (hn:aY (aF b (k:Int)) y.key=none) (h:aY (aF c (k:Int)) y.key=none):sumsP s (bN b (k:Int) y) (bN c (k:Int) y)=sumsP s b c:=by
 unfold sumsP;rw [zp ⟨a,d⟩,zp ⟨hb,hc⟩];refine uM λj hj=> ?_;unfold sumK;refine uM λi hi=> ?_;have hj:=List.mem_range.1 hj;have hi:=List.mem_range.1 hi;unfold sumI;have n:moreS s (bN b (k:Int) y) (bN c (k:Int) y) j i=moreS s b c j i:=by
  funext g
  unfold moreS;rw [apA l hb a hk hn hj hi,apA l hc d hk h hj hi];generalize (if j=k then aaD s[j]!.sums[i]! g (auO bP y) else 0)=A;rw [show totC s c j i g+A-(totC s b j i g+A)=totC s c j i g-totC s b j i g by omega]
 rw [n];have f:s[j]!.sums[i]!∈s[j].sums:=by
  have e:s[j]! =s[j]:=getElem!_pos s j hj;rw [e] at hi⊢;rw [getElem!_pos s[j].sums i hi];exact zgm hi
 refine aCV λg hg=> ?_;rw [zma,zma,avU hb hk hn,avU hc hk h];constructor
 ·intro q
  refine Classical.byContradiction λm=> ?_;rw [not_or] at m;unfold moreS at hg;rw [ajQ l hb hj hi,ajQ l hc hj hi,aBY hb hj f m.1,aBY hc hj f m.2] at hg;simp at hg
 ·rintro (q|q)
  ·exact .inl (.inl q)
  ·exact .inr (.inl q)
theorem aDF (h:dZ y=true):LnW 1 y:=by
 unfold dZ kW at h;simp only [zba,zde,zal] at h;exact ⟨by omega,by omega,λc hc=>by have:=h.1 c hc;omega⟩
theorem azS {l:List Ot} (c:l.length≠0) (hl:l.length<=20) (f:OpW 0 b) (hf:∀o∈l,mC o) (h:(fP w s b l).2=0) (hk:k<s.length) (hy:dZ y=true) (hn:aY (aF b (k:Int)) y.key=none) (n:Free s k y (wN w s b l)) (hm:aV T.rightP s (bN b (k:Int) y)=true) (hw:whyC s (bN (aR w s b l).1 (k:Int) y)=0):
  fP w s (bN b (k:Int) y) l=(bN (aR w s b l).1 (k:Int) y,0)/\ofP w s (bN b (k:Int) y) l=ofP w s b l/\OpW 1 (bN b (k:Int) y):=by
 obtain ⟨v,g,B,z⟩:=ajF h
 obtain ⟨r,i,d⟩:=eK.1 v
 obtain ⟨t,A⟩:=mP d i f hf g
 obtain ⟨p,u⟩:=aeN d hk i f (by omega) hf hn n g
 have a:OpW 1 (bN b (k:Int) y):=alW f _ (aDF hy)
 have j:aV T.rightP s (bN (aR w s b l).1 (k:Int) y)=true:=by
  unfold whyC at hw;split at hw
  ·rename_i q
   unfold mayC at q;rw [zba] at q;exact q.2
  ·cases hw
 have ha:fP w s (bN b (k:Int) y) l=(bN (aR w s b l).1 (k:Int) y,0):=by
  unfold fP;rw [p,zn (by rw [eK.2 ⟨r,hm,d⟩];simp),zn (by omega),zn (by simp)];dsimp only;rw [zn (λq=>q hw)]
 refine ⟨ha, ?_,a⟩
 unfold ofP
 rw [zn c,zn c,ha,zn (by simp),zn (by rw [h];simp),z]
 dsimp only
 have m:aY (aF (aR w s b l).1 (k:Int)) y.key=none:=by rw [amI hk g n.key,hn]
 rw [aC6 r i t hm j hk hn m]
 have e:uG gL (iA w s (bN b (k:Int) y) l [])=uG gL (iA w s b l []):=by
  refine xA nR (kO nR ((dC gL _).nodup_iff.2 (aiX List.nodup_nil)) (rX nR _)) (kO nR ((dC gL _).nodup_iff.2 (aiX List.nodup_nil)) (rX nR _)) λx=> ?_;rw [(dC gL _).mem_iff,(dC gL _).mem_iff,wA d i f hf g,wA d hm a hf (by rw [p]),u]
 rw [e]
end
end
section
attribute [local irreducible] Ev PWp
set_option maxRecDepth 10000
set_option maxHeartbeats 4000000
def aaJ (R:List Rg) (k t c:Int) (o:Option Int):Bool:=match o with
 |none=>false
 |some n=>qY R k t c n
def abV (R:List Rg) (t:Tb) (k:Int) (y:Ln):Bool:= !qY R 1 k 0 y.key&&(!(t.foreign.any λf=>aaJ R 1 f.table 0 (ptS y f.col))&& !(t.unique.any λu=>aaJ R 2 k u (ptS y u)))
theorem apart_spec {s:Sc} {k:Nat} (hk:k<s.length) (R:List Rg) (y:Ln) (D:R.length<1000000000000) (hf:s[k].foreign.length<1000000000000) (hu:s[k].unique.length<1000000000000) (hy:∀x∈y.cells_,x.parts.length<=1000):PF Tryz.prog 16 [.agg (scC s), .seq (R.map Rg.cells),(vi ((k:Nat))), .agg y.cells] (vb (abV R s[k] (k:Int) y)):=by
 have h0:=ahK R 1 (k:Nat) 0 y.key D;have hp:=λc=>aAj y c hy;have hh:=λa t c n=>ahK R a t c n D;unfold abV;by_cases q:qY R 1 (k:Nat) 0 y.key=true
 ·rw [q] at h0⊢
  refine pF Tryz.func16 rfl (λst=> ?_)
  (repeat' first|apply wZ;rfl|show Cn _;constructor|exact rfl|(apply h0)|apply wY;rfl)
 rw [Bool.not_eq_true] at q;rw [q] at h0⊢;generalize hA:(s[k].foreign.any λf=>aaJ R 1 f.table 0 (ptS y f.col))=A;generalize v:(s[k].unique.any λu=>aaJ R 2 (k:Int) u (ptS y u))=B;refine pF Tryz.func16 rfl (λst=> ?_)
 focus ((repeat' first|apply wZ;rfl|show Cn _;constructor|exact rfl|(apply h0)|apply wY;rfl|apply wI;rfl|apply gE;omega))
 refine aC (X:={x:Nat//x<=s[k].foreign.length/\∀j (h:j<s[k].foreign.length),j<x->aaJ R 1 s[k].foreign[j].table 0 (ptS y s[k].foreign[j].col)=false}) (λi=>((((((St.nil 85 st).pv 1 (.seq (R.map Rg.cells))).pv 2 ((vi ((k:Nat))))).var 7 47 (y.cells)).var 9 58 (s[k].cells)).pv 10 ((vi ((i.1:Nat)))))) (λi=>s[k].foreign.length-i.1) ⟨0,by omega,by omega⟩ ?_ (λi=> ?_)
 ·(repeat' first|show Cn _;constructor|exact rfl)
 obtain ⟨i,hi,C⟩:=i;dsimp only;by_cases F:s[k].foreign.length<=i
 ·have e:A=false:=hA▸aDi λj hj=>C j hj (by omega)
  focus ((repeat' first|apply wZ;rfl|show Cn _;constructor|simp only [zql];omega|(intro h;simp at h)))
  refine aC (X:={x:Nat//x<=s[k].unique.length/\∀j (h:j<s[k].unique.length),j<x->aaJ R 2 (k:Int) s[k].unique[j] (ptS y s[k].unique[j])=false}) (λz=>((((((St.nil 85 st).pv 1 (.seq (R.map Rg.cells))).pv 2 ((vi ((k:Nat))))).var 7 47 (y.cells)).var 9 58 (s[k].cells)).pv 13 ((vi ((z.1:Nat)))))) (λz=>s[k].unique.length-z.1) ⟨0,by omega,by omega⟩ ?_ (λz=> ?_)
  ·(repeat' first|show Cn _;constructor|exact rfl)
  obtain ⟨z,hz,E⟩:=z;dsimp only;by_cases r:s[k].unique.length<=z
  ·have l:B=false:=v▸aDi λj hj=>E j hj (by omega)
   (repeat' first|apply wZ;rfl|show Cn _;constructor|exact rfl|show (_:PV)=_;(rw [e,l];rfl);done|simp only [zql];omega|(intro h;simp at h))
  have p:z<s[k].unique.length:=by omega
  have hp:=hp s[k].unique[z];have d:=aEr (f:=λu=>aaJ R 2 (k:Int) u (ptS y u)) E p;have g:=axN (f:=λu=>aaJ R 2 (k:Int) u (ptS y u)) p;rw [v] at g;cases hc:ptS y s[k].unique[z] with
  |none=>
   rw [hc] at hp d;have hn:=hh 2 (k:Nat) s[k].unique[z] 0;generalize qY R 2 (k:Nat) s[k].unique[z] 0=H at*
   (repeat' first|(refine ⟨⟨z+1,by omega,d rfl⟩, ?_, ?_⟩)|apply wZ;rfl|show Cn _;constructor|exact rfl|apply KR.mk;kernel_rfl|((first|apply hp|apply hn))|apply wY;rfl|apply wI;rfl|apply gE;omega|omega|simp only [zql];omega|(intro h;simp at h))
  |some n=>
   rw [hc] at hp d g;have hn:=hh 2 (k:Nat) s[k].unique[z] n;unfold aaJ at d g;dsimp only at d g;cases m:qY R 2 (k:Int) s[k].unique[z] n with
   |false=>
    rw [m] at hn d
    (repeat' first|(refine ⟨⟨z+1,by omega,d rfl⟩, ?_, ?_⟩)|apply wZ;rfl|show Cn _;constructor|exact rfl|apply KR.mk;kernel_rfl|((first|apply hp|apply hn))|apply wY;rfl|apply wI;rfl|apply gE;omega|omega|simp only [zql];omega|(intro h;simp at h))
   |true=>
    rw [m] at hn g;have l:=g rfl
    (repeat' first|apply wZ;rfl|show Cn _;constructor|exact rfl|apply KR.mk;kernel_rfl|((first|apply hp|apply hn))|show (_:PV)=_;(rw [l];simp;done);done|apply wY;rfl|apply wI;rfl|apply gE;omega|simp only [zql];omega|(intro h;simp at h))
 have o:i<s[k].foreign.length:=by omega
 have hp:=hp s[k].foreign[i].col;have d:=aEr (f:=λf=>aaJ R 1 f.table 0 (ptS y f.col)) C o;have g:=axN (f:=λf=>aaJ R 1 f.table 0 (ptS y f.col)) o;rw [hA] at g;cases hc:ptS y s[k].foreign[i].col with
 |none=>
  rw [hc] at hp d;have hn:=hh 1 s[k].foreign[i].table 0 0;generalize qY R 1 s[k].foreign[i].table 0 0=H at*
  (repeat' first|(refine ⟨⟨i+1,by omega,d rfl⟩, ?_, ?_⟩)|apply wZ;rfl|show Cn _;constructor|exact rfl|apply KR.mk;kernel_rfl|((first|apply hp|apply hn))|apply wY;rfl|apply wI;rfl|apply gE;omega|omega|simp only [zql];omega|(intro h;simp at h))
 |some n=>
  rw [hc] at hp d g;have hn:=hh 1 s[k].foreign[i].table 0 n;unfold aaJ at d g;dsimp only at d g;cases m:qY R 1 s[k].foreign[i].table 0 n with
  |false=>
   rw [m] at hn d
   (repeat' first|(refine ⟨⟨i+1,by omega,d rfl⟩, ?_, ?_⟩)|apply wZ;rfl|show Cn _;constructor|exact rfl|apply KR.mk;kernel_rfl|((first|apply hp|apply hn))|apply wY;rfl|apply wI;rfl|apply gE;omega|omega|simp only [zql];omega|(intro h;simp at h))
  |true=>
   rw [m] at hn g;have l:=g rfl
   (repeat' first|apply wZ;rfl|show Cn _;constructor|exact rfl|apply KR.mk;kernel_rfl|((first|apply hp|apply hn))|show (_:PV)=_;(rw [l];simp;done);done|apply wY;rfl|apply wI;rfl|apply gE;omega|simp only [zql];omega|(intro h;simp at h))
end
section
attribute [local irreducible] Ev PWp
set_option maxRecDepth 10000
set_option maxHeartbeats 4000000
theorem aFV {s:Sc} {b:Bs} {k:Nat} (hk:k<s.length) {y:Ln} (hm:aV T.rightP s b=true) (hy:y∈aF b (k:Int)) {R:List Rg} {Q:P4->Prop} (d:∀x t c n,x≠3->qY R x t c n=false->¬Q (x,t,c,n)) (h:abV R s[k]! (k:Int) y=true):Free s k y Q:=by
 have a:=(aI.1 hm).1.1;unfold abV at h;rw [zba,zba,Bool.not_eq_true',Bool.not_eq_true',Bool.not_eq_true'] at h;obtain ⟨j,g,i⟩:=h;rw [List.any_eq_false] at g i;refine ⟨d _ _ _ _ (by decide) j,λf hf n e=>d _ _ _ _ (by decide) ?_,λu hu n e=>d _ _ _ _ (by decide) ?_⟩
 ·have q:=g f hf
  rw [ayE (qQ hm hk (aFa a hk hf) hy),e,Bool.not_eq_true] at q;exact q
 ·have q:=i u hu
  rw [ayE (qQ hm hk (aB2 a hk hu) hy),e,Bool.not_eq_true] at q;exact q
section
variable (hA:PF Tryz.prog 7 [] (vb (true)))
include hA
theorem aaK (s:Sc) (b:Bs) (l:List Ot) (who:T.Sp) (kn:List Int) (table:Int) (y:Ln) (hs:ScG s) (hb:BsB b) (hl:l.length<200000000000000) (hro:∀o∈l,o.row.length<200000000000000) (hkn:kn.length<200000000000000) (hyc:y.cells_.length<4611686018427387904):PF Tryz.prog 5 [.agg (scC s), .agg (bsC b), .seq (l.map Ot.cells), .agg who.cells, .seq (kn.map I1),(vi (table)), .agg y.cells] (vb (true)):=by
 have hf:=avO s b l kn hs hb hl hro;have f:=avL y hyc;have hml:(b.map Da.cells).length=b.length:=zql _;by_cases g0:¬((((((fewC s b=true/\((l.length:Int)<=12/\l.all gO=true))/\(kn.length:Int)<=80)/\dZ y=true)/\l.length≠0)/\0<=table)/\table<b.length)
 ·have e:((fewC s b&&(decide ((l.length:Int)<=12)&&l.all gO))&&decide ((kn.length:Int)<=80))=false\/dZ y=false\/l.length=0\/table<0\/(b.length:Int)<=table:=by
   rw [<-Bool.not_eq_true,<-Bool.not_eq_true];simp only [zba,zde];refine Decidable.byContradiction λq=>g0 ?_;simp only [not_or,Decidable.not_not] at q;exact ⟨⟨⟨⟨q.1,q.2.1⟩,q.2.2.1⟩,by omega⟩,by omega⟩
  clear g0;generalize dZ y=S at*;generalize ((fewC s b&&(decide ((l.length:Int)<=12)&&l.all gO))&&decide ((kn.length:Int)<=80))=F at*;rcases e with e|e|e|e|e
  ·rw [e] at hf
   refine pF Tryz.func5 rfl (λst=> ?_)
   (repeat' first|apply wZ;rfl|show Cn _;constructor|exact rfl|((first|apply hA|apply hf|apply f))|apply wY;rfl)
  ·rw [e] at f
   refine pF Tryz.func5 rfl (λst=> ?_)
   (repeat' first|apply wZ;rfl|show Cn _;constructor|exact rfl|((first|apply hA|apply hf|apply f))|apply wY;rfl|intro h;simp at h;done|(intro h;simp at h))
  ·refine pF Tryz.func5 rfl (λst=> ?_)
   (repeat' first|apply wZ;rfl|show Cn _;constructor|exact rfl|((first|apply hA|apply hf|apply f))|apply wY;rfl|((exfalso;first|simp only [zql] at*;omega|simp_all;done))|(intro h;simp at h))
  ·refine pF Tryz.func5 rfl (λst=> ?_)
   (repeat' first|apply wZ;rfl|show Cn _;constructor|exact rfl|((first|apply hA|apply hf|apply f))|apply wY;rfl|intro h;simp at h;omega|(intro h;simp at h))
  ·refine pF Tryz.func5 rfl (λst=> ?_)
   (repeat' first|apply wZ;rfl|show Cn _;constructor|exact rfl|((first|apply hA|apply hf|apply f))|apply wY;rfl|intro h;simp at h;omega|(intro h;simp at h))
 obtain ⟨⟨⟨⟨⟨⟨g1,g2,U⟩,g3⟩,g4⟩,z⟩,ht0⟩,ht1⟩:=zdn g0;rw [g1,U,decide_eq_true g2,decide_eq_true g3] at hf;rw [g4] at f;rw [zal] at U;obtain ⟨k,rfl⟩:∃k:Nat,table=k:=⟨table.toNat,by omega⟩;have hkb:k<b.length:=by omega
 obtain ⟨I,L⟩:=ScK.of g1 hs.b hs.k;have m:∀o∈l,mC o:=λo ho=>xR.1 (U o ho);have a:=nP (w:=⟨who,kn⟩) I L (l:=l) (by omega) (by dsimp only;omega) m;dsimp only at a;have A:BsS 200 b:=L.S (by omega);have g:=sE A (by omega) (k:Nat) y.key;by_cases u:(fP ⟨who,kn⟩ s b l).2≠0
 ·have i:=aHT (w:=⟨who,kn⟩) I L (by omega) (by dsimp only;omega) m z u
  have e:ofP ⟨who,kn⟩ s b l=([],(fP ⟨who,kn⟩ s b l).2):=by unfold ofP;rw [zn z,zp u]
  rw [e] at i;generalize fP ⟨who,kn⟩ s b l=R at*;obtain ⟨B,e⟩:=R;unfold aHE at i;unfold nG at a;dsimp only at a u i;generalize aY (aF b (k:Nat)) y.key=Q at*;generalize Q.isSome=Q2 at*;refine pF Tryz.func5 rfl (λst=> ?_)
  (repeat' first|(apply cW;focus (intro _;(apply (show PF Tryz.prog 16 [_,_,_,_] (vb (true)) from by rename_i hh;exfalso;first|simp [gw] at hh;done|simp [gw,u] at hh;done|simp_all [gw];done));done))|apply wZ;rfl|show Cn _;constructor|exact rfl|((first|apply hA|apply hf|apply f|apply a|apply i|apply g))|show (_:PV)=_;((simp [u];done));done|apply wY;rfl|intro h;simp at h;omega|(intro h;simp at h))
 have u:=zdn u;have i:=aCZ (w:=⟨who,kn⟩) I L (by omega) (by dsimp only;omega) m z u;have H:=avR L m u;have hRl:=aD2 (w:=⟨who,kn⟩) I L (by omega) m (l:=l);have hx:fP ⟨who,kn⟩ s b l=((aR ⟨who,kn⟩ s b l).1,0):=Prod.ext H.eq u;rw [hx] at a;unfold nG at a;dsimp only at a;have hbs:b.length=s.length:=(aI.1 H.was).1.2;have p:k<s.length:=by omega
 by_cases hn:(aY (aF b (k:Nat)) y.key).isSome=true
 ·rw [hn] at g
  generalize (ofP ⟨who,kn⟩ s b l).1=R at*;generalize (aR ⟨who,kn⟩ s b l).1=B at*;refine pF Tryz.func5 rfl (λst=> ?_)
  (repeat' first|(apply cW;focus (intro _;(apply (show PF Tryz.prog 16 [_,_,_,_] (vb (true)) from by rename_i hh;exfalso;first|simp [gw] at hh;done|simp [gw,u] at hh;done|simp_all [gw];done));done))|apply wZ;rfl|show Cn _;constructor|exact rfl|((first|apply hA|apply hf|apply f|apply a|apply i|apply g))|apply wY;rfl|(intro h;simp at h))
 rw [Bool.not_eq_true] at hn;have hn0:aY (aF b (k:Nat)) y.key=none:=by
  cases q:aY (aF b (k:Nat)) y.key with
  |none=>rfl
  |some v=>rw [q] at hn;cases hn
 rw [hn] at g;have hyW:LnW 1 y:=aDF g4;have r:=apart_spec p (ofP ⟨who,kn⟩ s b l).1 y (by omega) (by have:=(abC (aI.1 H.was).1.1).2 k p;rw [getElem!_pos s k p] at this;omega) (by have:=(abC (aI.1 H.was).1.1).2 k p;rw [getElem!_pos s k p] at this;omega) (λx hx=>by have:=hyW.2.2 x hx;omega);by_cases hq:abV (ofP ⟨who,kn⟩ s b l).1 s[k] (k:Int) y=true;rotate_left
 ·rw [Bool.not_eq_true] at hq
  rw [hq] at r;generalize (ofP ⟨who,kn⟩ s b l).1=R at*;generalize (aR ⟨who,kn⟩ s b l).1=B at*;generalize aY (aF b (k:Nat)) y.key=Q at*;refine pF Tryz.func5 rfl (λst=> ?_)
  (repeat' first|apply wZ;rfl|show Cn _;constructor|exact rfl|((first|apply hA|apply hf|apply f|apply a|apply i|apply g|apply r))|apply wY;rfl|(intro h;simp at h))
 rw [hq] at r;have hlx:(aR ⟨who,kn⟩ s b l).1.length=b.length:=(aI.1 H.is).1.2.trans hbs.symm;have hp1:=qC b (k:Nat) y (by have:=A.1;omega) λd hd=>by have:=(A.2 d hd).1;omega
 have J:BsS 200 (aR ⟨who,kn⟩ s b l).1:=H.size.S (by omega);have hp2:=qC (aR ⟨who,kn⟩ s b l).1 (k:Nat) y (by have:=J.1;omega) λd hd=>by have:=(J.2 d hd).1;omega
 have C:OpW 1 (bN b (k:Nat) y):=alW L _ hyW;have X:OpW (l.length+1) (bN (aR ⟨who,kn⟩ s b l).1 (k:Nat) y):=alW H.size _ (hyW.up (by omega));have V:BsS 200 (bN b (k:Nat) y):=C.S (by omega);have K:BsS 200 (bN (aR ⟨who,kn⟩ s b l).1 (k:Nat) y):=X.S (by omega);have P:=anI (I.ck K (by omega));have E:=fB V (by omega) I.sb I.len;by_cases N:¬(whyC s (bN (aR ⟨who,kn⟩ s b l).1 (k:Nat) y)=0/\aV T.rightP s (bN b (k:Nat) y)=true)
 ·generalize hW3:whyC s (bN (aR ⟨who,kn⟩ s b l).1 (k:Nat) y)=W at*
  generalize hM3:aV T.rightP s (bN b (k:Nat) y)=M at*;have hno:W=0->M=false:=λq=>by rw [<-Bool.not_eq_true];exact λq2=>N ⟨q,q2⟩
  clear N hW3 hM3 H C X V K A J hx hRl hn0 hq;generalize bN (aR ⟨who,kn⟩ s b l).1 (k:Nat) y=Z at*;generalize bN b (k:Nat) y=Y at*;generalize (ofP ⟨who,kn⟩ s b l).1=R at*;generalize (aR ⟨who,kn⟩ s b l).1=B at*;generalize aY (aF b (k:Nat)) y.key=Q at*;by_cases G:W=0
  ·rw [hno G] at E
   refine pF Tryz.func5 rfl (λst=> ?_)
   (repeat' first|apply wZ;rfl|show Cn _;constructor|exact rfl|apply KR.mk;kernel_rfl|((first|apply hA|apply hf|apply f|apply a|apply i|apply g|apply r|apply hp1|apply hp2|apply P|apply E))|apply wY;rfl|intro h;simp at h;done|(intro h;simp at h))
  ·refine pF Tryz.func5 rfl (λst=> ?_)
   (repeat' first|apply wZ;rfl|show Cn _;constructor|exact rfl|apply KR.mk;kernel_rfl|((first|apply hA|apply hf|apply f|apply a|apply i|apply g|apply r|apply hp1|apply hp2|apply P|apply E))|apply wY;rfl|intro h;simp at h;omega|(intro h;simp at h))
 obtain ⟨G,O⟩:=zdn N;rw [G] at P;rw [O] at E;have hym:y∈aF (bN b (k:Nat) y) (k:Nat):=by
  rw [fV (kM hkb),zp rfl];exact (bG (dR H.was _) y y).2 (.inl rfl)
 have hF:Free s k y (wN ⟨who,kn⟩ s b l):=aFV p O hym (λx t c n hx3 hh=>aFd L m z u hx3 hh) (by rw [getElem!_pos s k p];exact hq);obtain ⟨L1,L2,_⟩:=azS z (by omega) L m u p g4 hn0 hF O G;have D:=aCZ (w:=⟨who,kn⟩) I C (l:=l) (by omega) (by dsimp only;omega) m z (by rw [L1]);have j:=nP (w:=⟨who,kn⟩) I C (l:=l) (by omega) (by dsimp only;omega) m;rw [L2] at D;rw [L1] at j;unfold nG at j;dsimp only at j D;have hs1:=aEA (ofP ⟨who,kn⟩ s b l).1 (by omega);have hs2:=arK K (by omega) (bN (aR ⟨who,kn⟩ s b l).1 (k:Nat) y);rw [decide_eq_true rfl] at hs2;clear H C X V K A J hx hRl hn0 hq hF L1 L2 G O N hym;generalize bN (aR ⟨who,kn⟩ s b l).1 (k:Nat) y=Z at*;generalize bN b (k:Nat) y=Y at*;generalize (ofP ⟨who,kn⟩ s b l).1=R at*;generalize (aR ⟨who,kn⟩ s b l).1=B at*;generalize aY (aF b (k:Nat)) y.key=Q at*;refine pF Tryz.func5 rfl (λst=> ?_)
 (repeat' first|apply wZ;rfl|show Cn _;constructor|exact rfl|apply KR.mk;kernel_rfl|((first|apply hA|apply hf|apply f|apply a|apply i|apply g|apply r|apply hp1|apply hp2|apply P|apply E|apply D|apply j|apply hs1|apply hs2))|apply wY;rfl|(intro h;simp at h))
end
end
end Go.Proofs.YtfablfldonhkiaaGreatDoor
namespace Go.Proofs.YtfablfldonhkiaaGreatDoor
open Go Go.Abs Go.ChangeShapes Go.WideShapes Go.ChangeAt Go.RowKit
set_option maxRecDepth 10000
theorem aKS {N n:Nat} {ps:List PV} (h:bO Tryz.prog N n 30 ps):∃v:T.Sp,ps=v.cells:=by
 obtain ⟨m,e,_,rfl,d⟩:=bY aS rfl h;cases d with|cons ha d=>cases d with|cons hb d=>cases d with|cons hc d=>cases d with|nil=>
 obtain ⟨a,rfl,_⟩:=bK aS rfl ha;obtain ⟨b,rfl,_⟩:=bK aS rfl hb;obtain ⟨c,rfl,_⟩:=bK aS rfl hc;exact ⟨⟨a,b,c⟩,rfl⟩
def OpN (o:Ot):Prop:=o.row.length<200000000000000
theorem aKT {n:Nat} {ps:List PV} (h:bO Tryz.prog reachBytes n 82 ps):∃o:Ot,ps=o.cells/\OpN o:=by
 obtain ⟨m,j,_,rfl,g⟩:=bY aS rfl h;cases g with|cons h0 g=>cases g with|cons h1 g=>cases g with|cons h3 g=>cases g with|cons h4 g=>cases g with|cons h5 g=>cases g with|cons h6 g=>cases g with|cons h7 g=>cases g with|cons h8 g=>cases g with|nil=>
 obtain ⟨k,rfl,_⟩:=bK aS rfl h0;obtain ⟨t,rfl,_⟩:=bK aS rfl h1;obtain ⟨y,rfl,_⟩:=bK aS rfl h3;obtain ⟨c,rfl,_⟩:=bK aS rfl h4;obtain ⟨_,rows,_,rfl,l,i⟩:=cH aS rfl h5;obtain ⟨r,rfl,hl,_⟩:=zC (f:=Vl.cells) (Q:=λ_=>True) λx hx=>by
  obtain ⟨v,e⟩:=anM (i x hx);exact ⟨v,e,trivial⟩
 obtain ⟨v,rfl⟩:=anM h6;obtain ⟨d,rfl⟩:=avZ h7;obtain ⟨a,rfl,_⟩:=bK aS rfl h8;have h:reachBytes<200000000000000:=by decide
 exact ⟨⟨k,t,y,c,r,v,d,a⟩,rfl,by show r.length<_;omega⟩
theorem aIY {n:Nat} {ps:List PV} (h:bO Tryz.prog reachBytes n 28 ps):∃v:{l:List Ot//l.length<200000000000000/\∀o∈l,OpN o},ps=[.seq (v.1.map Ot.cells)]:=by
 obtain ⟨_,rows,_,rfl,c,a⟩:=cH aS rfl h;obtain ⟨l,rfl,hl,hq⟩:=zC (f:=Ot.cells) λx hx=>aKT (a x hx);have h:reachBytes<200000000000000:=by decide
 exact ⟨⟨l,by omega,hq⟩,rfl⟩
theorem aKr {n:Nat} {ps:List PV} (h:bO Tryz.prog reachBytes n 32 ps):∃v:{l:List Int//l.length<200000000000000},ps=[.seq (v.1.map I1)]:=by
 obtain ⟨_,rows,_,rfl,c,a⟩:=cH aS rfl h;obtain ⟨l,rfl,hl,_⟩:=zC (f:=I1) (Q:=λ_=>True) λx hx=>by
  obtain ⟨v,e,_⟩:=bK aS rfl (a x hx);exact ⟨v,e,trivial⟩
 have h:reachBytes<200000000000000:=by decide
 exact ⟨⟨l,by omega⟩,rfl⟩
end Go.Proofs.YtfablfldonhkiaaGreatDoor
