import Derived.Test.YtigmnfepdlbcpaaGreatDoorClAb
import Derived.Test.YtigmnfepdlbcpaaGreatDoorAbsJ
set_option linter.all false
set_option maxHeartbeats 4000000
set_option maxRecDepth 10000
namespace Go.Proofs.YtigmnfepdlbcpaaGreatDoor
open Go Go.Abs Tryz
variable{a b h p:Bool}{s:Sc}{i j u:Nat}{t:Tb}{l:Ln}{r:List Vl}{m:Su}{f:Nat->Int}{α:Type}
section
structure FrOK (s:Sc) (t:Tb) (f:Fr):Prop where
 c1:1<=f.n
 c2:f.n<t.o.length
 t1:0<=f.t
 t2:f.t<s.length
 act:f.act=0\/f.act=1\/f.act=2
 k:t.o[f.n.toNat]!.k=0
 typ:t.o[f.n.toNat]!.type_=1
theorem ahE{n z:Bool}(e:ajO h b p a n z=0):h=true/\b=false/\p=false/\a=false/\n=true/\z=false:=by
 unfold ajO at e
 grind
theorem aCx(h:bY s=0){k:Nat}(hk:k<s.length)(hi:i<s[k].f.length):xM s.length s[k] i=0:=by
 have:=gG h hk (lk5 s.length s[k]!) (by simp[lks]);rw[zep s k hk]at this;exact rB this hi
theorem amY(h:bY s=0){k:Nat}(hk:k<s.length){f:Fr}(hf:f∈s[k].f):FrOK s s[k] f:=by
 obtain⟨i,hi,rfl⟩:=zgo hf;have e:=ahE (aCx h _ hi);rw[zep _ i hi]at e;have⟨c,d,_,g,a,_⟩:=e;unfold iH at c;unfold gY fZ at a;simp only[zba,zde,Bool.or_eq_false_iff,zdf]at c d g a;exact⟨by omega,c.2,by omega,by omega,by omega,a.1,a.2⟩
theorem aBL(h:bY s=0){k:Nat}(hk:k<s.length):∀(j i:Nat)(hj:j<s[k].f.length)(a:i<j),s[k].f[i].n<s[k].f[j].n:=by
 intro j
 induction j with
 |zero=>simp
 |succ j ih=>
  intro i hj a;have e:=ahE (aCx h _ hj)
  grind
theorem aMu(h:bY s=0){k:Nat}(hk:k<s.length)(i j:Nat)(hi:i<s[k].f.length)(hj:j<s[k].f.length)(e:s[k].f[i].n=s[k].f[j].n):i=j:=by
 rcases Nat.lt_trichotomy i j with q|q|q
 ·have:=aBL h _ j i hj q;omega
 ·exact q
 ·have:=aBL h _ i j hi q;omega
theorem lE(h:bY s=0):s.length<=16:=by
 unfold bY at h
 grind
theorem aAD(h:bY s=0){k:Nat}(hk:k<s.length):s[k].f.length<=16:=by
 have:=gG h hk (lk1 s[k]!) (by simp[lks]);unfold lk1 at this
 grind
variable{tx:Cl->Int}
structure LineOK (tx:Cl->Int) (t:Tb) (l:Ln):Prop where
 k1:0<=l.key
 k2:l.key<1073741824
 len:l.c.length=t.o.length
 k:∀j (h:j<l.c.length),l.c[j].k=t.o[j]!.k
 cell:∀c∈l.c,mK tx c=true
 zero:l.c[0]!.val=⟨1,l.key,e0⟩
 dots:oK l.b=true
theorem aeQ:jX tx t l=true↔LineOK tx t l:=by
 unfold jX sG;simp only[zba,zde,qF];constructor
 ·rintro⟨⟨⟨a,d,e⟩,h4⟩,h5,f⟩
  have hc:=λj hj=>by
   have:=h5 j hj
   unfold sI at this
   rw[zep l.c j hj,zba,zde]at this
   exact this
  exact⟨a,d,e,λj hj=>(hc j hj).1,λc g=>by obtain⟨j,hj,rfl⟩:=zgo g;exact(hc j hj).2,h4,f⟩
 ·rintro⟨a,d,e,h4,h5,f,h⟩
  refine⟨⟨⟨a,d,e⟩,f⟩,λj hj=>?_,h⟩;unfold sI
  grind
theorem vO{b:Bs}(h:bA tx s b=true){k:Nat}(hk:k<b.length)(hl:l∈b[k].l):LineOK tx s[k]! l:=by
 have:=(aS.1 h).2 k hk;rw[zep b k hk]at this;exact aeQ.1 ((gI.1 this).2.1 l hl)
theorem aDd{b:Bs}(h:bA tx s b=true):∀k<b.length,KSort b[k]!.l:=λk hk=>(gI.1 ((aS.1 h).2 k hk)).2.2
end
section
section
variable{sh:Cl->Vl}{ex:Tb->List Vl->Int}{tx:Cl->Int}
theorem anW(h:cY t r=0):r.length=t.o.length:=by
 unfold cY at h
 grind
theorem GoodT.nil{b:Bs}:GoodT ex b t []:=⟨λ_ h=>(by grind),λ_ _=> .nil,λ_ h=>(by grind),λ_ _ _ h=>(by grind),λ_ _ _ h=>(by grind),λ_ _ _ h=>(by grind)⟩
end
end
section
section
variable{sh:Cl->Vl}{ex:Tb->List Vl->Int}{tx:Cl->Int}
end
end
section
section
variable{tx:Cl->Int}{sh:Cl->Vl}
structure SuOK (t:Tb) (m:Su):Prop where
 c1:1<=m.n
 c2:m.n<t.o.length
 b1:1<=m.b
 b2:m.b<t.o.length
 m0:0<=m.max
 m1:m.max<=1099511627776
 kc:t.o[m.n.toNat]!.k=0
 kb:t.o[m.b.toNat]!.k=0
structure UnOK (t:Tb) (u:Int):Prop where
 c1:1<=u
 c2:u<t.o.length
 kc:t.o[u.toNat]!.k=0
theorem ayL{n:Bool}(e:ajB h a n p=0):h=true/\a=false/\n=true:=by
 unfold ajB at e
 grind
theorem aAI{n:Bool}(e:aiH h p n=0):h=true/\n=true:=by
 unfold aiH at e
 grind
theorem aK7(h:bY s=0){k:Nat}(hk:k<s.length)(hm:m∈s[k].s):SuOK s[k] m:=by
 obtain⟨i,hi,rfl⟩:=zgo hm;have:=gG h hk (lk6 s[k]!) (by simp[lks]);rw[zep s k hk]at this;have e:=rB this hi;unfold xR at e;rw[zep _ i hi]at e;have⟨a,d,c⟩:=ayL e;unfold iH at a;unfold gY fZ at c;simp only[zba,zde,Bool.or_eq_false_iff,zdf]at a d c;exact⟨a.1.1,a.1.2,a.2.1,a.2.2,by omega,by omega,c.1.1,c.2.1⟩
theorem aFE(h:bY s=0){k:Nat}(hk:k<s.length){u:Int}(hu:u∈s[k].u):UnOK s[k] u:=by
 obtain⟨i,hi,rfl⟩:=zgo hu;have:=gG h hk (lk4 s[k]!) (by simp[lks]);rw[zep s k hk]at this;have e:=rB this hi;unfold xH at e;rw[zep _ i hi]at e;have⟨a,c⟩:=aAI e;unfold iH at a;unfold gY fZ at c;simp only[zba,zde]at a c;exact⟨a.1,a.2,c.1⟩
theorem gX{b:Bs}{k:Nat}(hk:k<b.length):aF b k=b[k].l:=by
 unfold aF okT
 grind
structure RwOK (t:Tb) (r:List Vl):Prop where
 len:r.length=t.o.length
 num:∀j<t.o.length,t.o[j]!.k=0->cB r[j]! =true
theorem aqE(h:∀c:Cl,c.k=0->sh c=c.val){b:Bs}(hg:bA tx s b=true){k:Nat}(hk:k<s.length)(g:r∈cO sh b k):RwOK s[k] r:=by
 obtain⟨⟨i,m⟩,_⟩:=aS.1 hg;have d:k<b.length:=by omega
 obtain⟨l,hl,rfl⟩:=zmq.1 g;rw[gX d]at hl;have hL:=vO hg d hl;rw[zep s k hk]at hL;have e:=hL.len;refine⟨by unfold aqX;grind,λj hj h0=>?_⟩;have a:j<l.c.length:=by omega
 have hc:=hL.cell _ (zgm a);have f:=hL.k j a;unfold aqX;unfold mK at hc
 grind
theorem aA7{v:Vl}(h:cB v=true):(-1099511627776<=v.n/\v.n<=1099511627776)/\(v.k≠1->v.n=0):=by
 unfold cB at h
 grind
def auN(m:Su)(es:List (Int×Int))(r:List Vl):List (Int×Int):=if r[m.b.toNat]!.k=1 then dE r[m.b.toNat]!.n ((cK r[m.b.toNat]!.n es).getD 0+r[m.n.toNat]!.n) es else es
def pD(m:Su)(rows:List (List Vl)):List (Int×Int):=rows.foldl (auN m) []
theorem aoB{V:Type}(k k':Int)(v:V):∀(l:List (Int×V)),cK k' (dE k v l)=if k'=k then some v else cK k' l
 |[]=>rfl
 |e::l=>by
  have a:=aoB k k' v l
  simp only[dE]
  split
  ·simp only[cK];grind
  ·simp only[cK,a];grind
theorem aK9{V:Type}{k:Int}{v:V}:∀{l:List (Int×V)},(l.map (·.1)).Nodup->(k,v)∈l->cK k l=some v
 |e::l,hn,h=>by
  simp only[zmp,List.nodup_cons]at hn
  simp only[cK]
  rcases zmc.1 h with rfl|h
  ·simp
  ·rw[zn λq=>hn.1 (zmq.2 ⟨_,h,q⟩)];exact aK9 hn.2 h
theorem aHn{V:Type}{k:Int}{v:V}:∀{l:List (Int×V)},cK k l=some v->(k,v)∈l
 |[],h=>by trivial
 |e::l,h=>by
  simp only[cK]at h
  split at h
  ·grind
  ·exact zmm _ (aHn h)
theorem ajY{V:Type}(k:Int)(v:V):∀(l:List (Int×V)),∀k',k'∈(dE k v l).map (·.1)->k'=k\/k'∈l.map (·.1)
 |[],k',h=>by simp[dE]at h;exact .inl h
 |e::l,k',h=>by
  simp only[dE]at h
  split at h
  ·grind
  ·simp only[zmp,zmc]at h⊢
   exact h.elim (λq=> .inr (.inl q)) λq=>(ajY k v l _ q).elim .inl λq=> .inr (.inr q)
theorem aBN{V:Type}(k:Int)(v:V):∀(l:List (Int×V)),(l.map (·.1)).Nodup->((dE k v l).map (·.1)).Nodup
 |[],_=>by simp[dE]
 |e::l,h=>by
  simp only[zmp,List.nodup_cons]at h
  simp only[dE]
  split
  ·grind
  ·rename_i q
   simp only[zmp,List.nodup_cons];exact⟨λx=>(ajY k v l _ x).elim (λy=>q y.symm) h.1,aBN k v l h.2⟩
theorem aGS(m:Su):∀(rows:List (List Vl))(es:List (Int×Int)),(es.map (·.1)).Nodup->((rows.foldl (auN m) es).map (·.1)).Nodup
 |[],_,h=>h
 |r::rows,es,h=>aGS m rows _ (by
  unfold auN
  split
  ·exact aBN _ _ _ h
  ·exact h)
theorem arP(m:Su)(g:Int)(r:List Vl)(rows:List (List Vl)):gV m g (r::rows)=arW m g r+gV m g rows:=rfl
def aF2(m:Su)(rows:List (List Vl)):Prop:=∀r∈rows,r[m.n.toNat]!.k≠1->r[m.n.toNat]!.n=0
theorem apL{m:Su}(g:Int):∀{rows:List (List Vl)}(es:List (Int×Int)),aF2 m rows->(cK g (rows.foldl (auN m) es)).getD 0=(cK g es).getD 0+gV m g rows
 |[],es,_=>by simp[gV]
 |r::rows,es,h=>by
  have a:=apL g (auN m es r) λx hx=>h x (zmm _ hx)
  have h0:=h r (List.mem_cons_self ..)
  rw[List.foldl_cons,a,arP]
  unfold auN arW
  by_cases hk:r[m.b.toNat]!.k=1
  ·rw[zp hk,aoB]
   grind
  grind
theorem awV{m:Su}(g:Int):∀{rows:List (List Vl)}(es:List (Int×Int)),(cK g (rows.foldl (auN m) es)).isSome=true↔((cK g es).isSome=true\/∃r∈rows,r[m.b.toNat]!.k=1/\r[m.b.toNat]!.n=g)
 |[],es=>by simp
 |r::rows,es=>by
  rw[List.foldl_cons,awV g _]
  unfold auN
  by_cases hk:r[m.b.toNat]!.k=1
  ·rw[zp hk,aoB]
   grind
  grind
def vU(m:Su)(rows:List (List Vl)):Bool:=rows.all λr=>decide (r[m.n.toNat]!.n>=0)
theorem aCQ{rows:List (List Vl)}(h:aF2 m rows):(vU m rows&&(pD m rows).all λe=>decide (e.2<=m.max))=rows.all λr=> !wU m r&&(!decide (r[m.b.toNat]!.k=1)||decide (gV m r[m.b.toNat]!.n rows<=m.max)):=by
 have c:=λg=>apL (m:=m) g (rows:=rows) [] h;have a:=λg=>awV (m:=m) g (rows:=rows) [];have i:=aGS m rows [] (by simp);change ∀g,(cK g (pD m rows)).getD 0=_ at c;change ∀g,(cK g (pD m rows)).isSome=true↔_ at a;change ((pD m rows).map (·.1)).Nodup at i;simp only[cK,Option.getD_none,Option.isSome_none,Bool.false_eq_true,false_or]at c a;rw[zbi,zba];unfold vU;simp only[zal,zba,Bool.or_eq_true,Bool.not_eq_true',zde,zdf];have f:∀r∈rows,wU m r=false↔r[m.n.toNat]!.n>=0:=λr d=>by
  unfold wU
  by_cases hc:r[m.n.toNat]!.k=1
  ·rw[zdt hc,Bool.true_and,zdf];omega
  ·rw[zdj hc,h r d hc];simp
 constructor
 ·rintro⟨j,l⟩ r d
  refine⟨(f r d).2 (j r d),?_⟩;by_cases hk:r[m.b.toNat]!.k=1
  ·right
   have hs:=(a r[m.b.toNat]!.n).2 ⟨r,d,hk,rfl⟩;have⟨v,hv⟩:=Option.isSome_iff_exists.1 hs;have:=l _ (aHn hv);have e:=c r[m.b.toNat]!.n;rw[hv]at e;simp only[Option.getD_some]at e this;omega
  ·exact .inl hk
 ·intro q
  refine⟨λr d=>(f r d).1 (q r d).1,λe o=>?_⟩;have⟨k,v⟩:=e;have hv:=aK9 i o;have e:=c k;rw[hv]at e;simp only[Option.getD_some]at e⊢;obtain⟨r,d,hk,rfl⟩:=(a k).1 (by rw[hv];rfl);have:=(q r d).2.resolve_left λz=>z hk;omega
def aMa(u:Nat)(es:List (Int×Bool))(r:List Vl):List (Int×Bool):=if r[u]!.k=1 then dE r[u]!.n true es else es
def azE(u:Nat)(rows:List (List Vl)):List (Int×Bool):=rows.foldl (aMa u) []
theorem aBx(u:Nat)(g:Int):∀(rows:List (List Vl))(es:List (Int×Bool)),(cK g (rows.foldl (aMa u) es)).getD false=((cK g es).getD false||rows.any λr=>decide (r[u]!.k=1)&&decide (r[u]!.n=g))
 |[],es=>by simp
 |r::rows,es=>by
  rw[List.foldl_cons,aBx u g _,List.any_cons]
  unfold aMa
  by_cases hk:r[u]!.k=1
  ·rw[zp hk,aoB]
   grind
  grind
theorem aFK(u:Nat)(g:Int)(rows:List (List Vl)):(cK g (azE u rows)).getD false=rows.any λr=>decide (r[u]!.k=1)&&decide (r[u]!.n=g):=by
 have:=aBx u g rows []
 simpa
theorem aKP(u:Nat){rows:List (List Vl)}{k:Nat}(h:k<rows.length):azE u (rows.take (k+1))=if rows[k][u]!.k=1 then dE rows[k][u]!.n true (azE u (rows.take k))else azE u (rows.take k):=by
 unfold azE;rw[zts h,List.foldl_append];rfl
theorem aJq(m:Su){rows:List (List Vl)}{k:Nat}(h:k<rows.length):pD m (rows.take (k+1))=if rows[k][m.b.toNat]!.k=1 then dE rows[k][m.b.toNat]!.n ((cK rows[k][m.b.toNat]!.n (pD m (rows.take k))).getD 0+rows[k][m.n.toNat]!.n) (pD m (rows.take k))else pD m (rows.take k):=by
 unfold pD;rw[zts h,List.foldl_append];rfl
def pwU(u:Nat)(rows:List (List Vl)):Prop:=rows.Pairwise λx y=>qJ u x y=false
theorem aHg{rows:List (List Vl)}{k:Nat}(h:k<rows.length):pwU u (rows.take (k+1))↔pwU u (rows.take k)/\(rows[k][u]!.k=1->((rows.take k).any λr=>decide (r[u]!.k=1)&&decide (r[u]!.n=rows[k][u]!.n))=false):=by
 unfold pwU;rw[zts h,List.pairwise_append];constructor
 ·rintro⟨a,_,d⟩
  refine⟨a,λhk=>?_⟩;rw[List.any_eq_false];intro x hx q;have:=d x hx rows[k] (by simp);unfold qJ at this
  grind
 ·rintro⟨a,c⟩
  refine⟨a,List.pairwise_singleton ..,λx hx y hy=>?_⟩;rw[zms]at hy;subst hy;by_cases hk:rows[k][u]!.k=1
  ·have:=List.any_eq_false.1 (c hk) x hx
   unfold qJ;rw[zdt hk]
   simpa using this
  ·unfold qJ
   rw[zdj hk];simp
theorem arV{rows:List (List Vl)}(h:∀j (hj:j<t.u.length),pwU t.u[j].toNat rows):jZ t rows=true:=by
 unfold jZ;rw[zal];intro u hu;obtain⟨j,hj,rfl⟩:=zgo hu;exact zdt (h j _)
theorem aB2{rows:List (List Vl)}{k:Nat}(hj:j<t.u.length)(h:¬pwU t.u[j].toNat (rows.take k)):jZ t rows=false:=by
 unfold jZ;rw[<-znt,zal];intro q;exact h ((of_decide_eq_true (q _ (zgm _))).sublist (List.take_sublist ..))
theorem afA{n:Nat}(h:i<n)(a:∀j<i,f j=0)(c:f i≠0):dH f (List.range n)=f i:=by
 have:=yD (f:=f) (l:=List.range n) (by simpa) (λj hj=>by grind) (by grind)
 grind
theorem uW{n:Nat}(h:∀j<n,f j=0):dH f (List.range n)=0:=eW.2 λj hj=>h j (zmr.1 hj)
theorem fV{f:α->Int}{l:List α}(h:∀j (hj:j<l.length),f l[j]=0):dH f l=0:=eW.2 λx hx=>by
 obtain⟨j,hj,rfl⟩:=zgo hx
 exact h j _
theorem lF{f:α->Int}{l:List α}(c:∀j (h:j<l.length),j<i->f l[j]=0)(h:i<l.length)(hf:f l[i]=0):∀j (h:j<l.length),j<i+1->f l[j]=0:=λj hj a=>by grind
theorem lG{f:α->Int}{l:List α}(a:∀j (h:j<l.length),j<i->f l[j]=0)(h:i<l.length)(hf:f l[i]≠0):dH f l=f l[i]:=yD h (λj hj=>a j _ hj) hf
end
end
section
attribute [local irreducible] Ev PWp
theorem azG(c:Co):qf 297 [.agg c.z] (vi (bW c)):=by
 unfold bW;refine pF func297 rfl λst=>?_
 repeat' first|apply wZ;rfl|constructor|show(_:PV)=_;simp[*];done;done|intro h
theorem ayU(c:Co)(v:Vl):qf 212 [.agg c.z, .agg v.z] (vi (mW c v)):=by
 have hv:=lS v;have hk:=azG c;unfold mW;generalize cB v=A at*;generalize bW c=K at*;refine pF func212 rfl λst=>?_
 repeat' first|apply wZ;rfl|apply KR.mk;kernel_rfl|constructor|(first|apply hv|apply hk)|show(_:PV)=_;(first|simp[*];done|grind);done|apply wY;rfl|intro h;simp at h|intro h
theorem amH(t:Tb)(r:List Vl)(hc:t.o.length<1000000000000000)(l:r.length<1000000000000000):qf 135 [.seq (t.o.map Co.z), .seq (r.map Vl.z)] (vi (cY t r)):=by
 unfold cY;by_cases hl:¬t.o.length=r.length;rw[zn hl];refine pF func135 rfl λst=>?_;rotate_left
 replace hl:=zdn hl
 rw[zp hl];refine pF func135 rfl λst=>?_
 focus(repeat' first|apply wZ;rfl|constructor|simp<;>omega|intro h;simp at h)
 refine aC (X:={x:Nat//x<=r.length/\∀j<x,mW t.o[j]! r[j]! =0}) (λi=>(((((St.nil 30 st).pv 0 (.seq (t.o.map Co.z))).pv 13 (.seq (r.map Vl.z))).pv 14 (vi ((r.map Vl.z).length:Nat))).pv 15 (vi (i.1:Nat)))) (λi=>r.length-i.1) ⟨0,by omega,by omega⟩ ?_ λi=>?_;rotate_left;have⟨i,hi,d⟩:=i;dsimp only;by_cases g:r.length<=i;have e:dH (λk=>mW t.o[k]! r[k]!) (List.range r.length)=0:=uW λj hj=>d j (by omega);rotate_left;have a:i<r.length:=by omega
 have c:i<t.o.length:=by omega
 have hk:=ayU t.o[i] r[i];have e:=afA (f:=λk=>mW t.o[k]! r[k]!) a d;have hu:mW t.o[i] r[i]=0->∀j<i+1,mW t.o[j]! r[j]! =0:=λh j hj=>by
  rcases zls.1 hj with q|q
  ·exact d j q
  ·subst q;rw[zep t.o j c,zep r j a];exact h
 simp only[zep t.o i c,zep r i a]at e;generalize mW t.o[i] r[i]=E at*
 all_goals (repeat' first|refine⟨⟨i+1,by omega,hu ‹_›⟩,?_,?_⟩|apply wZ;rfl|apply KR.mk;kernel_rfl|omega|constructor|apply hk|show(_:PV)=_;rw[e ‹_›];done|apply wY;rfl|apply wI;rfl|apply gE;omega|show(_:PV)=_;rw[e];done|simp<;>omega|intro h;simp at h|intro h)
end
section
def oX(n:Int):PV:=(vi n)
def Ie(k:Int):Value:= .int .i64 k
theorem aaO :KeyOK qp 3 Ie (λk=> .val (Ie k)) where
 und:=rfl
 chk k b w:=jC rfl rfl rfl b w
 now kd h a b:=by
  have d:Tryz.prog.underlying 3=some _:=rfl;have c:kd= .int .i64:=by grind
  subst c;right;rfl
 eq a b w:=rfl
 rp k g v h:=aL h
 bits k:=aiW rfl
end
end Go.Proofs.YtigmnfepdlbcpaaGreatDoor
namespace Go.Proofs.YtigmnfepdlbcpaaGreatDoor.X
open Go Go.Abs Tryz
variable{l:List Int}{i:Nat}{a k' n' x:Int}{α β:Type}{b b':ByteArray}{f p:FuncId}{op:Int->Int->Int}{caps:List PV}{r:Vl->Vl->Vl×Int}{nb:Bool}{row:List Vl}
section
def v0 :Vl:=⟨0,0,e0⟩
inductive Ex where
 |mk (k n:Int) (v:Vl) (of:List Ex)
def Ex.k :Ex->Int| .mk k _ _ _=>k
def Ex.n :Ex->Int| .mk _ n _ _=>n
def Ex.v :Ex->Vl| .mk _ _ v _=>v
def Ex.of :Ex->List Ex| .mk _ _ _ o=>o
mutual
def Ex.z :Ex->List PV
 | .mk k n v o=>[vi k,vi n,vi v.k,vi v.n,vs v.s, .seq (Ex.rows o)]
def Ex.rows :List Ex->List (List PV)
 |[]=>[]
 |e::es=>e.z::Ex.rows es
end
theorem Ex.rows_map :∀l:List Ex,Ex.rows l=l.map Ex.z
 |[]=>rfl
 |e::es=>by simp[Ex.rows,Ex.rows_map _]
theorem Ex.rows_len :∀(l:List Ex),(Ex.rows l).length=l.length
 |[]=>rfl
 |e::es=>by simp[Ex.rows,Ex.rows_len _]
theorem Ex.rows_get :∀{l:List Ex}{i:Nat}{x:Ex},l[i]?=some x->(Ex.rows l)[i]?=some x.z
 |[],_,_,h=>by grind
 |e::es,0,x,h=>by simp at h;simp[Ex.rows,h]
 |e::es,i+1,x,h=>by simp at h;simpa[Ex.rows]using Ex.rows_get h
theorem Ex.cells_len :∀(x:Ex),x.z.length=6
 | .mk _ _ _ _=>rfl
mutual
def Ex.ok :Ex->Prop
 | .mk _ _ _ o=>o.length<2^62/\Ex.oks o
def Ex.oks :List Ex->Prop
 |[]=>True
 |e::es=>e.ok/\Ex.oks es
end
mutual
theorem Ex.ok_of :∀(e:Ex),qM e.z->e.ok
 | .mk k n v o,h=>by
  simp only[Ex.z,qM,lens,Ex.rows_len]at h
  simp only[Ex.ok]
  exact⟨h.2.2.2.2.2.1.1,Ex.oks_of o h.2.2.2.2.2.1.2⟩
theorem Ex.oks_of :∀(l:List Ex),wH (Ex.rows l)->Ex.oks l
 |[],_=>by simp[Ex.oks]
 |e::es,h=>by
  simp only[Ex.rows,wH]at h
  simp only[Ex.oks]
  exact⟨Ex.ok_of e h.1,Ex.oks_of es h.2⟩
end
theorem Ex.oks_mem :∀{l:List Ex}{x:Ex},Ex.oks l->x∈l->x.ok
 |[],_,_,hx=>by grind
 |e::es,x,h,hx=>by
  rcases zmc.1 hx with rfl|hx
  ·exact h.1
  ·exact Ex.oks_mem h.2 hx
def iN(l:List Int):List (List PV):=l.map I1
def aiQ(l:List Vl):List (List PV):=l.map Vl.z
theorem aaS(h:l[i]?=some x):(iN l)[i]?=some [vi x]:=by simp[iN,h,I1]
theorem vK(l:List Int):(iN l).length=l.length:=by simp[iN]
theorem alC(l:List Vl):(aiQ l).length=l.length:=by simp[aiQ]
theorem gL{l:List α}(h:i<l.length):∃x,l[i]?=some x:=⟨l[i],by simp⟩
end
section
attribute [local irreducible] Ev PWp
theorem pP{k n:Int}:qf 370 [.agg [vi k,vi n,vs b]] (vb (decide (k=0))):=by
 refine pF func370 rfl λst=>?_
 repeat' first|apply wZ;rfl|show Cn _;constructor|exact rfl
def rightV(v:Vl):Bool:=if v.k=0 then decide (v.n=0)&&decide (v.s=e0)else if v.k=1 then(decide (v.s=e0)&&decide (v.n>= -1099511627776))&&decide (v.n<=1099511627776)else if v.k=2 then decide (v.n=0)&&decide ((v.s.size:Int)<=200)else false
theorem right_spec{k n:Int}{b:ByteArray}:qf 355 [.agg [vi k,vi n,vs b]] (vb (rightV ⟨k,n,b⟩)):=by
 unfold rightV;dsimp only;by_cases h0:k=0;rw[zp h0];rotate_left;by_cases a:k=1;rw[zn h0,zp a];rotate_left;rw[zn h0,zn a];by_cases c:k=2;rw[zp c];rotate_left;rw[zn c]
 all_goals (refine pF func355 rfl λst=>?_;repeat'(first|apply wZ;rfl|omega|constructor|show(_:PV)=_;simp[h0];done;done|intro h))
theorem eO{n:Int}:qf 401 [vi n] (.agg [vi 1,vi n,vs e0]):=by
 refine pF func401 rfl λst=>?_
 repeat' first|apply wZ;rfl|constructor
theorem xV{x:Bool}:qf 368 [vb x] (.agg [vi 1,vi (if x then 1 else 0),vs e0]):=by
 refine pF func368 rfl λst=>?_
 repeat' first|apply wZ;rfl|constructor|apply eO|show(_:PV)=_;simp[*];done;done|apply wY;rfl|intro h
def auZ(v:Vl):Bool:=decide (v.k=1)&&(decide (v.n=0)&&decide (v.s=e0))
def aMI(v:Vl):Bool:=decide (v.k=1)&& !decide (v.n=0)
theorem aEC{k n:Int}:qf 364 [.agg [vi k,vi n,vs b]] (vb (auZ ⟨k,n,b⟩)):=by
 refine pF func364 rfl λst=>?_
 repeat' first|apply wZ;rfl|apply KR.mk;kernel_rfl|constructor|apply eO|apply wY;rfl
theorem aGD{k n:Int}:qf 365 [.agg [vi k,vi n,vs b]] (vb (aMI ⟨k,n,b⟩)):=by
 refine pF func365 rfl λst=>?_
 repeat' first|apply wZ;rfl|constructor
theorem aIR{k n:Int}:qf 361 [.agg [vi k,vi n,vs b], .agg [vi k',vi n',vs b']] (vb (decide (k=k')&&(decide (n=n')&&decide (b=b')))):=by
 refine pF func361 rfl λst=>?_
 repeat' first|apply wZ;rfl|constructor
def ajV(a b:ByteArray):Bool:=Op.bytesLess a.toList b.toList
theorem pU{k n:Int}:qf 362 [.agg [vi k,vi n,vs b], .agg [vi k',vi n',vs b']] (vb (decide (n<n')||ajV b b')):=by
 refine pF func362 rfl λst=>?_
 repeat' first|apply wZ;rfl|constructor
theorem aGH{k n:Int}:qf 367 [.agg [vi k,vi n,vs b], .agg [vi k',vi n',vs b']] (.tup [.agg [vi 1,vi (if decide (n=0)then 1 else 0),vs e0],vi 0]):=by
 refine pF func367 rfl λst=>?_
 repeat' first|apply wZ;rfl|constructor|apply xV|apply wY;rfl
theorem awN{k n:Int}:qf 369 [.agg [vi k,vi n,vs b], .agg [vi k',vi n',vs b']] (.tup [.agg [vi 1,vi (if decide (k=0)then 1 else 0),vs e0],vi 0]):=by
 refine pF func369 rfl λst=>?_
 repeat' first|apply wZ;rfl|constructor|(first|apply xV|apply pP)|apply wY;rfl
def asL(f:FuncId)(op:Int->Int->Int):Prop:=∀a b,qf f [vi a,vi b] (vi (IntKind.wrap .i64 (op a b)))
theorem aEQ :asL 357 (· + ·):=by
 intro a b;refine pF func357 rfl λst=>?_
 ((apply aGv pk 4);rfl;(focus repeat' constructor);(focus repeat'(exact All.nil)))
 refine iG ?_
 iterate 2 (apply jL aT;iterate 4 rfl)
 apply aJG;iterate 5 rfl
 apply jL aT;iterate 4 rfl
 refine rU ?_
 repeat' first|apply wZ;rfl|constructor
theorem aEm :asL 358 (· - ·):=by
 intro a b;refine pF func358 rfl λst=>?_
 ((apply aGv pk 4);rfl;(focus repeat' constructor);(focus repeat'(exact All.nil)))
 refine iG ?_
 iterate 2 (apply jL aT;iterate 4 rfl)
 apply aJ5;iterate 5 rfl
 apply jL aT;iterate 4 rfl
 refine rU ?_
 repeat' first|apply wZ;rfl|constructor
theorem aD0 :asL 359 (· * ·):=by
 intro a b;refine pF func359 rfl λst=>?_
 ((apply aGv pk 4);rfl;(focus repeat' constructor);(focus repeat'(exact All.nil)))
 refine iG ?_
 iterate 2 (apply jL aT;iterate 4 rfl)
 apply aJP;iterate 5 rfl
 apply jL aT;iterate 4 rfl
 refine rU ?_
 repeat' first|apply wZ;rfl|constructor
def lim(n:Int):Prop:= -4611686018427387904<=n/\n<=4611686018427387904
def aDU(op:Int->Int->Int)(a b:Int):Bool:=(((decide (max a (0-a)>0)&&decide (max b (0-b)>0))&&decide (IntKind.wrap .i64 (op 1 1)=1))&&decide (max a (0-a)>1099511627776/max b (0-b)))
def sF(op:Int->Int->Int)(a b:Int):Bool:=(aDU op a b||decide (IntKind.wrap .i64 (op a b)>1099511627776))||decide (IntKind.wrap .i64 (op a b)< -1099511627776)
theorem aE9(hf:asL f op){k n:Int}(c:lim n)(d:lim n'):qf 400 [.agg [vi k,vi n,vs b], .agg [vi k',vi n',vs b'], .rp [.fn f []]]
  (if sF op n n' then .tup [.agg [vi 0,vi 0,vs e0],vi 20]else .tup [.agg [vi 1,vi (IntKind.wrap .i64 (op n n')),vs e0],vi 0]):=by
 have⟨c,i⟩:=c
 have⟨d,j⟩:=d
 have e:=hf 1 1
 have g:=hf n n'
 have a:sF op n n'=((aDU op n n'||decide (IntKind.wrap .i64 (op n n')>1099511627776))||decide (IntKind.wrap .i64 (op n n')< -1099511627776)):=rfl
 unfold aDU at a
 generalize sF op n n'=R at*
 refine pF func400 rfl λst=>?_
 repeat' first|apply wZ;rfl|apply KR.mk;kernel_rfl|omega|constructor|(first|apply e|apply g|apply eO)|show(_:PV)=_;(first|rw[show R=true from by rw[a];simpa using h];rfl|rw[show R=false from by rw[a];simpa using h];rfl);done|intro h;have h:=(aOB h).2;simp only[zba,zde]at h;omega|apply wY;rfl|intro h;simp at h
def fS(r:Vl×Int):PV:= .tup [.agg [vi r.1.k,vi r.1.n,vs r.1.s],vi r.2]
def vN(n:Int):Vl:=⟨1,n,e0⟩
def fL(b:Bool):Vl:=vN (if b then 1 else 0)
def axJ(f:FuncId)(caps:List PV)(r:Vl->Vl->Vl×Int):Prop:=
 ∀k n b k' n' b',lim n->lim n'->qf f ([.agg [vi k,vi n,vs b], .agg [vi k',vi n',vs b']]++caps) (fS (r ⟨k,n,b⟩ ⟨k',n',b'⟩))
def aL5(f:FuncId)(op:Vl->Vl->Bool):Prop:=∀{k n b k' n' b'},qf f [.agg [vi k,vi n,vs b], .agg [vi k',vi n',vs b']] (vb (op ⟨k,n,b⟩ ⟨k',n',b'⟩))
def aNc(f:FuncId)(op:Vl->Bool):Prop:=∀{k n b},qf f [.agg [vi k,vi n,vs b]] (vb (op ⟨k,n,b⟩))
def rZ(op:Int->Int->Int)(a b:Vl):Vl×Int:=if sF op a.n b.n then(v0,20)else(vN (IntKind.wrap .i64 (op a.n b.n)),0)
theorem aaP(hf:asL f op):axJ 400 [.rp [.fn f []]] (rZ op):=by
 intro k n b k' n' b' a c;have:=aE9 hf (k:=k) (b:=b) (k':=k') (b':=b') a c;unfold rZ;split at this
 ·rename_i h;rw[zp h];exact this
 ·rename_i h;rw[zn h];exact this
theorem anB{op:Vl->Vl->Bool}(hf:aL5 f op):axJ 402 [.rp [.fn f []]] (λa b=>(fL (op a b),0)):=by
 intro k n b k' n' b' d e;have c:=@hf k n b k' n' b';refine pF func402 rfl λst=>?_
 repeat' first|apply wZ;rfl|constructor|(first|apply c|apply xV)|apply wY;rfl
def jK(r:Vl->Vl->Vl×Int)(a b:Vl):Vl×Int:=if(decide (a.k=0)||decide (b.k=0))then(v0,0)else r a b
theorem kS(hf:axJ f caps r):axJ 404 [.rp [.fn f caps]] (jK r):=by
 intro k n b k' n' b' c d;have a:=hf k n b k' n' b' c d;have hd:jK r ⟨k,n,b⟩ ⟨k',n',b'⟩=if(decide (k=0)||decide (k'=0))then(v0,0)else r ⟨k,n,b⟩ ⟨k',n',b'⟩:=rfl
 generalize jK r ⟨k,n,b⟩ ⟨k',n',b'⟩=R at*;generalize r ⟨k,n,b⟩ ⟨k',n',b'⟩=e at*;unfold fS at a⊢;refine pF func404 rfl λst=>?_
 repeat' first|apply wZ;rfl|constructor|(first|apply a|apply pP)|show(_:PV)=_;simp[*,v0];done;done|apply wY;rfl|intro h;simp at h
def acW(op:Vl->Bool)(c:Int)(a b:Vl):Vl×Int:=if(op a||op b)then(vN c,0)else if(decide (a.k=0)||decide (b.k=0))then(v0,0)else(vN (1-c),0)
theorem agY{op:Vl->Bool}(hf:aNc f op)(h0:0<=a)(e:a<=1):axJ 403 [.rp [.fn f []], .rp [vi a]] (acW op a):=by
 intro k n b k' n' b' _ _;have c:=@hf k n b;have d:=@hf k' n' b';have hd:acW op a ⟨k,n,b⟩ ⟨k',n',b'⟩=if(op ⟨k,n,b⟩||op ⟨k',n',b'⟩)then(vN a,0)else if(decide (k=0)||decide (k'=0))then(v0,0)else(vN (1-a),0):=rfl
 generalize acW op a ⟨k,n,b⟩ ⟨k',n',b'⟩=R at*;generalize op ⟨k,n,b⟩=A at*;generalize op ⟨k',n',b'⟩=B at*;unfold fS;refine pF func403 rfl λst=>?_
 repeat' first|apply wZ;rfl|omega|constructor|(first|apply c|apply d|apply pP|apply eO)|show(_:PV)=_;simp[*,v0,vN];done;done|apply wY;rfl|intro h;simp at h
theorem aGY :axJ 367 [] (λa _=>(fL (decide (a.n=0)),0)):=λ_ _ _ _ _ _ _ _=>aGH
theorem auJ :axJ 369 [] (λa _=>(fL (decide (a.k=0)),0)):=λ_ _ _ _ _ _ _ _=>awN
theorem ajG:qf 366 [.fn p caps] (.fn 404 [.rp [.fn p caps]]):=by
 refine pF func366 rfl λst=>?_
 repeat' first|apply wZ;rfl|constructor|apply bO 1;rfl;rfl
theorem ayW:qf 356 [.fn f []] (.agg [vi 2,vb true, .fn 404 [.rp [.fn 400 [.rp [.fn f []]]]]]):=by
 refine pF func356 rfl λst=>?_
 repeat' first|apply wZ;rfl|constructor|apply ajG|apply bO 1;rfl;rfl|apply wY;rfl
theorem aJ8:qf 360 [.fn f []] (.agg [vi 2,vb false, .fn 404 [.rp [.fn 402 [.rp [.fn f []]]]]]):=by
 refine pF func360 rfl λst=>?_
 repeat' first|apply wZ;rfl|constructor|apply ajG|apply bO 1;rfl;rfl|apply wY;rfl
theorem aHV:qf 363 [.fn f [],vi a] (.agg [vi 2,vb true, .fn 403 [.rp [.fn f []], .rp [vi a]]]):=by
 refine pF func363 rfl λst=>?_
 repeat' first|apply wZ;rfl|constructor|apply bO 2;rfl;rfl|apply bO 3;rfl;rfl
def aF8(f:FuncId):PV:= .agg [vi 2,vb true, .fn 404 [.rp [.fn 400 [.rp [.fn f []]]]]]
def aNd(f:FuncId):PV:= .agg [vi 2,vb false, .fn 404 [.rp [.fn 402 [.rp [.fn f []]]]]]
def aLe(f:FuncId)(a:Int):PV:= .agg [vi 2,vb true, .fn 403 [.rp [.fn f []], .rp [vi a]]]
def uZ :List (Value×PV):=[(.int .i64 2,aF8 357),(.int .i64 3,aF8 358),(.int .i64 4,aF8 359),(.int .i64 5,aNd 361),(.int .i64 6,aNd 362),(.int .i64 7,aLe 364 0),(.int .i64 8,aLe 365 1),
 (.int .i64 9, .agg [vi 1,vb true, .fn 404 [.rp [.fn 367 []]]]),(.int .i64 10, .agg [vi 1,vb false, .fn 369 []])]
theorem fB :qf 300 [] (.fmap uZ):=by
 refine pF func300 rfl λst=>?_
 focus(repeat' first|apply lK 0;rfl;exact aA _ _ _|exact Cn.any ⟨_,_,st,rfl,zwr _,StSub.via id a (λj h=>by repeat (first|refine Eq.trans (aB h) ?_|exact rfl)),rfl,rfl⟩|apply wZ;rfl|constructor|(first|apply ayW|apply aJ8|apply aHV|apply ajG)|refine rQ rfl λid a=>?_|apply vC aT;exact .inl rfl;(iterate 7 rfl);exact aA _ _ _;rfl|apply wY;rfl)
def eqV(a b:Vl):Bool:=decide (a.k=b.k)&&(decide (a.n=b.n)&&decide (a.s=b.s))
def dF(a b:Vl):Bool:=decide (a.n<b.n)||ajV a.s b.s
def dZ(k:Int):Int:=if k=9\/k=10 then 1 else 2
def jM(k:Int):Bool:= !decide (k=5\/k=6\/k=10)
def oJ(k:Int)(a b:Vl):Vl×Int:=
 if k=2 then jK (rZ (· + ·)) a b else if k=3 then jK (rZ (· - ·)) a b else if k=4 then jK (rZ (· * ·)) a b
 else if k=5 then jK (λa b=>(fL (eqV a b),0)) a b else if k=6 then jK (λa b=>(fL (dF a b),0)) a b
 else if k=7 then acW auZ 0 a b else if k=8 then acW aMI 1 a b
 else if k=9 then jK (λa _=>(fL (decide (a.n=0)),0)) a b else(fL (decide (a.k=0)),0)
theorem afC{k:Int}(a:2<=k)(c:k<=10):∃f caps,jI tt 315 uZ (.int .i64 k) false=some (.agg [vi (dZ k),vb (jM k), .fn f caps])/\axJ f caps (oJ k):=by
 have:k=2\/k=3\/k=4\/k=5\/k=6\/k=7\/k=8\/k=9\/k=10:=by omega
 rcases this with rfl|rfl|rfl|rfl|rfl|rfl|rfl|rfl|rfl
 ·exact⟨_,_,rfl,kS (aaP aEQ)⟩
 ·exact⟨_,_,rfl,kS (aaP aEm)⟩
 ·exact⟨_,_,rfl,kS (aaP aD0)⟩
 ·exact⟨_,_,rfl,kS (anB (op:=eqV) (fun{_ _ _ _ _ _}=>aIR))⟩
 ·exact⟨_,_,rfl,kS (anB (op:=dF) (fun{_ _ _ _ _ _}=>pU))⟩
 ·exact⟨_,_,rfl,agY (op:=auZ) (fun{_ _ _}=>aEC) (by omega) (by omega)⟩
 ·exact⟨_,_,rfl,agY (op:=aMI) (fun{_ _ _}=>aGD) (by omega) (by omega)⟩
 ·exact⟨_,_,rfl,kS aGY⟩
 ·exact⟨_,_,rfl,auJ⟩
theorem aHa{k:Int}(a:2<=k)(c:k<=10):∃f caps,jI tt 315 uZ (.int .i64 k) true=some (.tup [.agg [vi (dZ k),vb (jM k), .fn f caps],vb true]):=by
 have:k=2\/k=3\/k=4\/k=5\/k=6\/k=7\/k=8\/k=9\/k=10:=by omega
 rcases this with rfl|rfl|rfl|rfl|rfl|rfl|rfl|rfl|rfl<;>exact⟨_,_,rfl⟩
theorem aC9{k:Int}(h:¬(2<=k/\k<=10)):jI tt 315 uZ (.int .i64 k) true=some (.tup [.agg [vi 0,vb false, .val .nilFunc],vb false]):=by
 have hf:anM (.int .i64 k) uZ=some none:=by
  unfold uZ;simp only[anM,zF,rY,zqt];have c:¬k=2:=by omega
  have d:¬k=3:=by omega
  have e:¬k=4:=by omega
  have f:¬k=5:=by omega
  have g:¬k=6:=by omega
  have i:¬k=7:=by omega
  have j:¬k=8:=by omega
  have l:¬k=9:=by omega
  have a:¬k=10:=by omega
  simp[c,d,e,f,g,i,j,l,a]
 unfold jI;rw[hf];rfl
theorem aHs{l:List α}{x:α}{p:α->Bool}(h:l[i]?=some x):(l.take (i+1)).any p=((l.take i).any p||p x):=by
 obtain⟨hl,rfl⟩:=zge.1 h;rw[zts hl,List.any_append];simp
theorem avV{l:List α}{x:α}{p:α->Bool}(h:l[i]?=some x):(l.take (i+1)).all p=((l.take i).all p&&p x):=by
 obtain⟨hl,rfl⟩:=zge.1 h;rw[zts hl,List.all_append];simp
theorem aLX{l:List α}{x:α}{p:α->Bool}(h:l[i]?=some x)(hp:p x=true):l.any p=true:=
 zay.2 ⟨x,List.mem_of_getElem? h,hp⟩
theorem aCl{l:List α}{x:α}{p:α->Bool}(h:l[i]?=some x)(hp:p x=false):l.all p=false:=by grind
theorem aaC{l:List α}(h:¬i<l.length):l.take i=l:=ztl (by omega)
def eY :Nat->Ex->Bool
 |0,_=>true
 |l+1,e=>e.of.any (eY l)
theorem aDF :∀(left:Nat)(e:Ex)(z:Int),z=(left:Nat)->left<=1000->e.ok->qf 298 [.agg e.z,vi z] (vb (eY left e)):=by
 intro left
 induction left with
 |zero=>
  intro e z hz _ _;subst hz;have⟨k,n,v,of⟩:=e;refine pF func298 rfl λst=>?_
  (repeat' first|apply wZ;rfl|constructor)
 |succ left ih=>
  intro e z hz hl f;subst hz;have⟨k,n,v,of⟩:=e;simp only[Ex.ok]at f;have r:=Ex.rows_len of;refine pF func298 rfl λst=>?_
  focus(repeat' first|apply wZ;rfl|constructor)
  refine aC (X:={i:Nat//i<=of.length/\(of.take i).any (eY left)=false}) (λi=>(((((St.nil 21 st).pv 1 (vi (left+1:Nat))).pv 10 (.seq (Ex.rows of))).pv 11 (vi ((Ex.rows of).length:Nat))).pv 12 (vi (i.1:Nat)))) (λi=>of.length-i.1) ⟨0,by omega,by simp⟩ ?_ λi=>?_
  ·repeat' first|constructor
  have⟨i,hi,a⟩:=i;dsimp only;by_cases q:of.length<=i
  ·rw[aaC (by omega)]at a
   have e:eY (left+1) (.mk k n v of)=false:=a
   repeat' first|apply wZ;rfl|omega|constructor|show(_:PV)=_;rw[e];done|intro h;simp at h
  have⟨x,hx⟩:=gL (l:=of) (i:=i) (by omega);have c:=Ex.rows_get hx;have m:=Ex.oks_mem f.2 (List.mem_of_getElem? hx);have g:=aHs (p:=eY left) hx;have j:eY left x=true->eY (left+1) (.mk k n v of)=true:=λh=>aLX hx h;have hd:=ih x (left:Nat) rfl (by omega) m;generalize eY left x=D at*;have⟨k',n',s,o⟩:=x;have d:∀z:Int,z=(left:Nat)->qf 298 [.agg (Ex.mk k' n' s o).z,vi z] (vb D):=λz hz=>hz▸hd;cases D with
  |true=>
   have e:=j rfl
   (repeat' first|apply wZ;rfl|omega|constructor|apply cR pk;(iterate 6 rfl);rotate_left;rfl;intro hw;rfl;(intro hw;apply c<;>omega);intro _;exact Ex.cells_len _;rfl|apply d<;>(omega)|show(_:PV)=_;rw[e];done|apply wY;rfl|intro h;simp at h)
  |false=>
   rw[a]at g
   repeat' first|refine⟨⟨i+1,by omega,g⟩,?_,?_⟩|apply wZ;rfl|omega|constructor|apply cR pk;(iterate 6 rfl);rotate_left;rfl;intro hw;rfl;(intro hw;apply c<;>omega);intro _;exact Ex.cells_len _;rfl|apply d<;>(omega)|apply wY;rfl|simp<;>omega|intro h;simp at h
def vz(v:Vl):Bool:=decide (v.k=0)&&(decide (v.n=0)&&decide (v.s=e0))
def fG(k n:Int)(v:Vl)(l:Int):Bool:=
 if k=0 then(decide (n>=0)&&vz v)&&decide (l=0)
 else if k=1 then(decide (n=0)&&rightV v)&&decide (l=0)
 else decide (2<=k/\k<=10)&&decide (n=0)&&vz v&&decide (l=dZ k)
mutual
def bE :Ex->Bool
 | .mk k n v o=>fG k n v o.length&&(decide (k=0)||decide (k=1)||sZ o)
def sZ :List Ex->Bool
 |[]=>true
 |e::es=>bE e&&sZ es
end
theorem mQ :∀l,sZ l=l.all bE
 |[]=>rfl
 |e::es=>by simp[sZ,mQ es]
mutual
theorem oL :∀(e:Ex),e.ok->qf 299 [.agg e.z] (vb (bE e))
 | .mk k n v of,hok=>by
  simp only[Ex.ok]at hok
  have F:=yG of
  have s:=Ex.rows_len of
  have⟨d,g,j⟩:=v
  have B:=@right_spec d g j
  by_cases hk:2<=k/\k<=10
  ·have⟨f,caps,c⟩:=aHa hk.1 hk.2
   have o:¬k=0:=by omega
   have r:¬k=1:=by omega
   have a:bE (.mk k n ⟨d,g,j⟩ of)=(fG k n ⟨d,g,j⟩ of.length&&sZ of):=by simp[bE,o,r]
   have C:fG k n ⟨d,g,j⟩ of.length=(decide (n=0)&&vz ⟨d,g,j⟩&&decide ((of.length:Int)=dZ k)):=by simp[fG,o,r,hk]
   by_cases hh:n=0/\(d=0/\g=0/\j=e0)/\(of.length:Int)=dZ k
   ·have w:fG k n ⟨d,g,j⟩ of.length=true:=by rw[C];simp[vz,hh]
    rw[w,Bool.true_and,mQ]at a;refine pF func299 rfl λst=>?_
    focus(repeat' first|apply wZ;rfl|apply KR.mk;kernel_rfl|omega|constructor|apply fB|apply sH pk;(iterate 4 rfl);(focus repeat' constructor);rfl;exact c;rfl|apply wY;rfl|exfalso;simp_all;done|intro h;simp at h|intro h)
    refine aC (X:={i:Nat//i<=of.length/\(of.take i).all bE=true}) (λi=>((((St.nil 84 st).pv 74 (.seq (Ex.rows of))).pv 75 (vi ((Ex.rows of).length:Nat))).pv 76 (vi (i.1:Nat)))) (λi=>of.length-i.1) ⟨0,by omega,by simp⟩ ?_ λi=>?_
    ·repeat' first|constructor
    have⟨i,hi,m⟩:=i;dsimp only;by_cases E:of.length<=i
    ·rw[aaC (by omega)]at m
     rw[m]at a
     repeat' first|apply wZ;rfl|omega|constructor|show(_:PV)=_;rw[a];done|intro h;simp at h
    have⟨x,hx⟩:=gL (l:=of) (i:=i) (by omega);have u:=Ex.rows_get hx;have hm:=List.mem_of_getElem? hx;have z:=F x hm (Ex.oks_mem hok.2 hm);have y:=avV (p:=bE) hx;have A:=λh=>aCl (p:=bE) hx h;generalize bE x=D at*;have⟨k',n',H,G⟩:=x;cases D with
    |false=>
     rw[A rfl]at a
     (repeat' first|apply wZ;rfl|omega|constructor|apply cR pk;(iterate 6 rfl);rotate_left;rfl;intro hw;rfl;(intro hw;apply u<;>omega);intro _;exact Ex.cells_len _;rfl|apply z|show(_:PV)=_;rw[a];done|apply wY;rfl|intro h;simp at h)
    |true=>
     rw[m]at y
     repeat' first|refine⟨⟨i+1,by omega,y⟩,?_,?_⟩|apply wZ;rfl|omega|constructor|apply cR pk;(iterate 6 rfl);rotate_left;rfl;intro hw;rfl;(intro hw;apply u<;>omega);intro _;exact Ex.cells_len _;rfl|apply z|apply wY;rfl|simp<;>omega|intro h;simp at h
   ·have w:fG k n ⟨d,g,j⟩ of.length=false:=by
     rw[C,<-znt];simp only[vz,zba,zde];exactλq=>hh ⟨q.1.1,q.1.2,q.2⟩
    rw[w,Bool.false_and]at a;refine pF func299 rfl λst=>?_
    repeat' first|apply wZ;rfl|apply KR.mk;kernel_rfl|omega|constructor|apply fB|show(_:PV)=_;rw[a];done|apply sH pk;(iterate 4 rfl);(focus repeat' constructor);rfl;exact c;rfl|apply wY;rfl|exfalso;simp_all;done|intro h;simp at h|intro h
  ·have c:=aC9 hk
   by_cases o:k=0
   ·subst o
    have e:bE (.mk 0 n ⟨d,g,j⟩ of)=((decide (n>=0)&&(decide (d=0)&&(decide (g=0)&&decide (j=e0))))&&decide ((of.length:Int)=0)):=by simp[bE,fG,vz]
    refine pF func299 rfl λst=>?_
    repeat' first|apply wZ;rfl|apply KR.mk;kernel_rfl|constructor|apply fB|show(_:PV)=_;rw[e,s];done;done|apply sH pk;(iterate 4 rfl);(focus repeat' constructor);rfl;exact c;rfl|apply wY;rfl
   by_cases r:k=1
   ·subst r
    have e:bE (.mk 1 n ⟨d,g,j⟩ of)=((decide (n=0)&&rightV ⟨d,g,j⟩)&&decide ((of.length:Int)=0)):=by simp[bE,fG]
    generalize rightV ⟨d,g,j⟩=R at*;refine pF func299 rfl λst=>?_
    repeat' first|apply wZ;rfl|apply KR.mk;kernel_rfl|constructor|(first|apply fB|apply B)|show(_:PV)=_;rw[e,s];done;done|apply sH pk;(iterate 4 rfl);(focus repeat' constructor);rfl;exact c;rfl|apply wY;rfl
   have e:bE (.mk k n ⟨d,g,j⟩ of)=false:=by simp[bE,fG,o,r,hk]
   refine pF func299 rfl λst=>?_
   repeat' first|apply wZ;rfl|apply KR.mk;kernel_rfl|omega|constructor|apply fB|show(_:PV)=_;rw[e];done|apply sH pk;(iterate 4 rfl);(focus repeat' constructor);rfl;exact c;rfl|apply wY;rfl|intro h
theorem yG :∀(l:List Ex)(x:Ex),x∈l->x.ok->qf 299 [.agg x.z] (vb (bE x))
 |[],_,h,_=>by cases h
 |e::es,x,h,hok=>by
  rcases zmc.1 h with h|h
  ·rw[h]at hok⊢;exact oL e hok
  ·exact yG es x h hok
end
def oD(e:Ex):Int:=if eY 20 e then 2 else if bE e then 0 else 1
theorem jD{e:Ex}(a:e.ok):qf 213 [.agg e.z] (vi (oD e)):=by
 have c:=aDF 20 e 20 rfl (by omega) a;have d:=oL e a;unfold oD;generalize eY 20 e=D at*;generalize bE e=F at*;have⟨k,n,v,of⟩:=e;refine pF func213 rfl λst=>?_
 repeat' first|apply wZ;rfl|constructor|(first|apply c|apply d)|show(_:PV)=_;simp[*];done;done|apply wY;rfl|intro h
mutual
def dS(m:Int):Ex->Bool
 | .mk k n _ o=>(!decide (k=0)||decide (n<m))&&aeX m o
def aeX(m:Int):List Ex->Bool
 |[]=>true
 |e::es=>dS m e&&aeX m es
end
theorem oG(m:Int):∀l,aeX m l=l.all (dS m)
 |[]=>rfl
 |e::es=>by simp[aeX,oG m _]
mutual
theorem ahO(m:Int):∀(e:Ex),e.ok->qf 269 [.agg e.z,vi m] (vb (dS m e))
 | .mk k n v of,hok=>by
  simp only[Ex.ok]at hok
  have q:=acJ m of
  have o:=Ex.rows_len of
  have hT:dS m (.mk k n v of)=((!decide (k=0)||decide (n<m))&&of.all (dS m)):=by rw[dS,oG]
  refine pF func269 rfl λst=>?_
  focus(repeat' first|apply wZ;rfl|constructor)
  refine aC (X:={i:Nat//i<=of.length/\(of.take i).all (dS m)=true}) (λi=>((((((St.nil 28 st).pv 1 (vi m)).var 2 80 ((Ex.mk k n v of).z)).pv 8 (.seq (Ex.rows of))).pv 9 (vi ((Ex.rows of).length:Nat))).pv 10 (vi (i.1:Nat)))) (λi=>of.length-i.1) ⟨0,by omega,by simp⟩ ?_ λi=>?_
  ·repeat' first|constructor
  have⟨i,hi,a⟩:=i
  dsimp only
  by_cases j:of.length<=i
  ·rw[aaC (by omega)]at a
   rw[a,Bool.and_true]at hT
   repeat' first|apply wZ;rfl|omega|constructor|show(_:PV)=_;rw[hT];done;done|intro h;simp at h
  have⟨x,hx⟩:=gL (l:=of) (i:=i) (by omega)
  have c:=Ex.rows_get hx
  have hm:=List.mem_of_getElem? hx
  have f:=q x hm (Ex.oks_mem hok.2 hm)
  have d:=avV (p:=dS m) hx
  have g:=λh=>aCl (p:=dS m) hx h
  generalize dS m x=D at*
  have⟨k',n',s,r⟩:=x
  cases D with
  |false=>
   rw[g rfl,Bool.and_false]at hT
   (repeat' first|apply wZ;rfl|omega|constructor|apply cR pk;(iterate 6 rfl);rotate_left;rfl;intro hw;rfl;(intro hw;apply c<;>omega);intro _;exact Ex.cells_len _;rfl|apply f|show(_:PV)=_;rw[hT];done|apply wY;rfl|intro h;simp at h)
  |true=>
   rw[a]at d
   repeat' first|refine⟨⟨i+1,by omega,d⟩,?_,?_⟩|apply wZ;rfl|omega|constructor|apply cR pk;(iterate 6 rfl);rotate_left;rfl;intro hw;rfl;(intro hw;apply c<;>omega);intro _;exact Ex.cells_len _;rfl|apply f|apply wY;rfl|simp<;>omega|intro h;simp at h
theorem acJ(m:Int):∀(l:List Ex)(x:Ex),x∈l->x.ok->qf 269 [.agg x.z,vi m] (vb (dS m x))
 |[],_,h,_=>by cases h
 |e::es,x,h,hok=>by
  rcases zmc.1 h with h|h
  ·rw[h]at hok⊢;exact ahO m e hok
  ·exact acJ m es x h hok
end
def pE(nb:Bool):Int->List Int->Bool
 |_,[]=>true
 |last,x::xs=>if((nb&& !decide (x=0))&& !decide (x=1))||((!decide (x=0)&& !decide (last=0))&& !decide (x=last))then false else pE nb (if x=0 then last else x) xs
theorem afU{l:List α}{x:α}(h:l[i]?=some x):l.drop i=x::l.drop (i+1):=by
 obtain⟨hl,rfl⟩:=zge.1 h;simp
theorem aCm{l:List α}(h:¬i<l.length):l.drop i=[]:=List.drop_eq_nil_of_le (by omega)
theorem wA{m:Int}(hl:l.length<2^62):qf 301 [.agg [vi m,vb nb, .fn f caps], .seq (iN l)] (vb (pE nb 0 l)):=by
 have g:=vK l;refine pF func301 rfl λst=>?_
 focus(repeat' first|apply wZ;rfl|constructor)
 refine aC (X:={x:Nat×Int//x.1<=l.length/\pE nb 0 l=pE nb x.2 (l.drop x.1)}) (λi=>((((((St.nil 41 st).var 2 314 ([vi m,vb nb, .fn f caps])).pv 5 (vi i.1.2)).pv 8 (.seq (iN l))).pv 9 (vi ((iN l).length:Nat))).pv 10 (vi (i.1.1:Nat)))) (λi=>l.length-i.1.1) ⟨(0,0),by simp,by simp⟩ ?_ λi=>?_;rotate_left;obtain⟨⟨i,last⟩,hi,a⟩:=i;dsimp only at hi a;dsimp only;generalize pE nb 0 l=R at*;by_cases e:l.length<=i;rw[aCm (by omega)]at a;rotate_left;have⟨x,hx⟩:=gL (l:=l) (i:=i) (by omega);have c:=aaS hx;rw[afU hx]at a;simp only[pE]at a;by_cases hc:(((nb&& !decide (x=0))&& !decide (x=1))||((!decide (x=0)&& !decide (last=0))&& !decide (x=last)))=true;rw[zp hc]at a;rotate_left;rw[zn hc]at a;by_cases d:x=0;rw[zp d]at a;rotate_left;rw[zn d]at a
 all_goals (repeat' first|refine⟨⟨(i+1,x),by simp only;omega,a⟩,?_,?_⟩|refine⟨⟨(i+1,last),by simp only;omega,a⟩,?_,?_⟩|apply wZ;rfl|omega|constructor|apply cR pk;(iterate 6 rfl);rotate_left;rfl;intro hw;rfl;(intro hw;apply c<;>omega);intro _;rfl;rfl|show(_:PV)=_;rw[a];done|show(_:PV)=_;rw[a];rfl;done|simp<;>omega|intro h;simp at h;omega|exfalso;simp at*;grind|intro h;simp at h|intro h)
mutual
def bD(l:List Int):Ex->Int×Int
 | .mk k n v o=>if k=0 then(l.getD n.toNat 0,0)else if k=1 then(v.k,0)else
   match gK l o with
   |(_,some no)=>(0,no)
   |(got,none)=>if pE (jM k) 0 got then(1,0)else(0,6)
def gK(l:List Int):List Ex->List Int×Option Int
 |[]=>([],none)
 |e::es=>if(bD l e).2=0 then((bD l e).1::(gK l es).1,(gK l es).2)else([],some (bD l e).2)
end
theorem zW{l:List Int}:∀{os:List Ex},(∀x∈os,(bD l x).2=0)->gK l os=(os.map λx=>(bD l x).1,none)
 |[],_=>rfl
 |e::es,h=>by
  have a:=zW (os:=es) λx hx=>h x (by grind)
  simp[gK,h e _,a]
theorem aaB{l:List Int}:∀{os:List Ex}{i:Nat}{x:Ex},(∀j y,j<i->os[j]?=some y->(bD l y).2=0)->os[i]?=some x->(bD l x).2≠0->(gK l os).2=some (bD l x).2
 |[],_,_,_,h,_=>by simp at h
 |e::es,0,x,_,h,hx=>by
  simp at h;subst h
  simp[gK,hx]
 |e::es,i+1,x,h0,h,hx=>by
  have a:=h0 0 e (by omega) (by simp)
  have c:=aaB (i:=i) (λj y hj hy=>h0 (j+1) y (by omega) ‹_›) h hx
  simp[gK,a,c]
theorem rI{k n:Int}{v:Vl}{of:List Ex}(h:bE (.mk k n v of)=true)(a:¬k=0)(c:¬k=1):(2<=k/\k<=10)/\n=0/\vz v=true/\(of.length:Int)=dZ k/\∀x∈of,bE x=true:=by
 simp only[bE,fG,mQ,zal]at h
 grind
theorem awT(k:Int):dZ k<=2/\1<=dZ k:=by unfold dZ;omega
theorem mJ :Tryz.prog.bytesOf 3=8:=rfl
theorem vX{l:List α}{x:α}(h:l[i]?=some x)(f:α->β):(l.take (i+1)).map f=(l.take i).map f++[f x]:=by
 obtain⟨hl,rfl⟩:=zge.1 h;rw[zts _,zmd];rfl
theorem azA{k n:Int}{v:Vl}{of:List Ex}(l:List Int)(hl:l.length<2^62)(hk:k=0\/k=1)(hf:bE (.mk k n v of)=true)(ht:dS l.length (.mk k n v of)=true):
  qf 270 [.agg (Ex.mk k n v of).z, .seq (iN l)] (.tup [vi ((bD l (.mk k n v of)).1),vi ((bD l (.mk k n v of)).2)]):=by
 by_cases c:k=0
 ·subst c
  simp[bE,fG]at hf;simp[dS]at ht;have hn:n.toNat<l.length:=by omega
  have⟨x,hx⟩:=gL hn;have a:=aaS hx;have e:bD l (.mk 0 n v of)=(x,0):=by simp[bD,hx]
  rw[e];have f:n=((n.toNat:Nat):Int):=by omega
  refine pF func270 rfl λst=>?_
  repeat' first|apply wZ;rfl|constructor|apply cR pk;(iterate 6 rfl);rotate_left;rfl;intro hw;exact f;(intro hw;apply a<;>omega);intro _;rfl;rfl
 ·have d:k=1:=by omega
  subst d;have e:bD l (.mk 1 n v of)=(v.k,0):=by simp[bD]
  rw[e];refine pF func270 rfl λst=>?_
  repeat' first|apply wZ;rfl|constructor
mutual
theorem afW(l:List Int)(hl:l.length<2^62):∀(e:Ex),e.ok->bE e=true->dS l.length e=true->qf 270 [.agg e.z, .seq (iN l)] (.tup [vi ((bD l e).1),vi ((bD l e).2)])
 | .mk k n v of,hok,hf,ht=>by
  have S:=acO l hl of
  by_cases B:k=0\/k=1
  ·exact azA l hl B hf ht
  have A:¬k=0:=by omega
  have C:¬k=1:=by omega
  have⟨hk,hn,hv,Q,u⟩:=rI hf A C
  simp only[dS,zba,oG,zal]at ht
  simp only[Ex.ok]at hok
  have hm:=awT k
  have R:=Ex.rows_len of
  have⟨H,caps,d,_⟩:=afC hk.1 hk.2
  have p:bD l (.mk k n v of)=match gK l of with|(_,some no)=>(0,no)|(got,none)=>if pE (jM k) 0 got then(1,0)else(0,6):=by simp only[bD,zn A,zn C];try rfl
  generalize bD l (.mk k n v of)=E at*
  refine pF func270 rfl λst=>?_
  focus(repeat' first|apply wZ;rfl|omega|constructor|intro h)
  refine yQ 6 3 rfl rfl λid c=>?_
  have c:st id=none:=c
  refine aC (X:={x:Nat×Nat//x.1<=of.length/\st x.2=none/\∀j y,j<x.1->of[j]?=some y->(bD l y).2=0}) (λi=>(((((((St.nil 53 (upd st i.1.2 (some (.tok 3)))).pv 1 (.seq (iN l))).var 2 80 ((Ex.mk k n v of).z)).pv 6 (.own i.1.2 (((of.take i.1.1).map λy=>(bD l y).1).map I1))).pv 26 (.seq (Ex.rows of))).pv 27 (vi ((Ex.rows of).length:Nat))).pv 28 (vi (i.1.1:Nat)))) (λi=>of.length-i.1.1) ⟨(0,id),by simp,c,by simp⟩ ?_ λi=>?_
  ·repeat' first|exact Cn.t0|constructor
  obtain⟨⟨i,id⟩,hi,c,hz⟩:=i
  simp only at hi c hz
  dsimp only
  by_cases P:of.length<=i
  ·have K:of.take i=of:=aaC (by omega)
   have w:gK l of=(of.map λy=>(bD l y).1,none):=zW λx hx=>by
    have⟨j,hj⟩:=List.mem_iff_getElem?.1 hx
    exact hz j x (by have:=(zge.1 hj).1;omega) hj
   rw[w]at p;simp only at p;rw[K];have s:=wA (m:=dZ k) (nb:=jM k) (f:=H) (caps:=caps) (l:=of.map λy=>(bD l y).1) (by simp;omega);unfold iN at s;generalize pE (jM k) 0 (of.map λy=>(bD l y).1)=G at*;cases G with
   |true=>
    rw[zp rfl]at p
    (repeat' first|apply Cn.cf;focus(((apply fB));done)|apply cV;focus(((apply s));done)|refine Cn.any ?_;refine⟨_,_,_,rfl,zwr _,eE ‹_›,?_,rfl⟩;((rw[p]);done)|apply wZ;rfl|apply KR.mk;kernel_rfl|omega|constructor|apply sH pk;(iterate 4 rfl);(focus repeat' constructor);rfl;exact d;rfl|apply wY;rfl|intro h;simp at h)
   |false=>
    rw[zn (by simp)]at p
    repeat' first|apply Cn.cf;focus(((apply fB));done)|apply cV;focus(((apply s));done)|refine Cn.any ?_;refine⟨_,_,_,rfl,zwr _,eE ‹_›,?_,rfl⟩;((rw[p]);done)|apply wZ;rfl|apply KR.mk;kernel_rfl|omega|constructor|apply sH pk;(iterate 4 rfl);(focus repeat' constructor);rfl;exact d;rfl|apply wY;rfl|intro h;simp at h
  have⟨x,hx⟩:=gL (l:=of) (i:=i) (by omega)
  have q:=Ex.rows_get hx
  have o:=List.mem_of_getElem? hx
  have F:=S x o (Ex.oks_mem hok.2 o) (u x o) (ht.2 x o)
  have g:=λh0=>aaB (l:=l) hz hx h0
  have M:(bD l x).2=0->∀j y,j<i+1->of[j]?=some y->(bD l y).2=0:=λh0 j y hj hy=>by
   by_cases J:j=i
   ·subst J;rw[hx]at hy;injection hy with hy;subst hy;exact h0
   ·exact hz j y (by omega) hy
  have D:((of.take (i+1)).map λy=>(bD l y).1).map I1=((of.take i).map λy=>(bD l y).1).map I1++[I1 (bD l x).1]:=by rw[vX hx λy=>(bD l y).1,zmd];rfl
  have I:(bD l x).2≠0->E=(0,(bD l x).2):=λh0=>by
   have:=g h0
   rw[p]
   revert this
   cases gK l of with|mk a b=>intro this;simp only at this;subst this;rfl
  clear g p
  generalize W:bD l x=r at*
  have⟨U,V⟩:=r
  have⟨k',n',Y,T⟩:=x
  dsimp only at*
  by_cases O:V=0
  ·have L:=M O
   repeat' first|refine⟨⟨(i+1,N),by simp only;omega,gM z,L⟩,?_,?_⟩;dsimp only;rw[D]|exact Cn.any (aM ‹_›)|apply wZ;rfl|omega|constructor|apply cR pk;(iterate 6 rfl);rotate_left;rfl;intro hw;rfl;(intro hw;apply q<;>omega);intro _;exact Ex.cells_len _;rfl|apply F|show _=_;simp[I1];done|apply apS pk (U) 8;(iterate 8 rfl);exact aA _ _ _;exactλ_=>rfl;exactλ_=>rfl;exact mJ;simp;omega;simp;omega;rfl;intro N z|apply wY;rfl|simp<;>omega|intro h;simp at h|intro h
  ·have e:=I O
   repeat' first|refine Cn.any ?_;refine⟨_,_,_,rfl,zwr _,eE ‹_›,?_,rfl⟩;((rw[e]);done)|apply wZ;rfl|omega|constructor|apply cR pk;(iterate 6 rfl);rotate_left;rfl;intro hw;rfl;(intro hw;apply q<;>omega);intro _;exact Ex.cells_len _;rfl|apply F|apply wY;rfl|intro h;simp at h|intro h
theorem acO(l:List Int)(hl:l.length<2^62):∀(os:List Ex)(x:Ex),x∈os->x.ok->bE x=true->dS l.length x=true->qf 270 [.agg x.z, .seq (iN l)] (.tup [vi ((bD l x).1),vi ((bD l x).2)])
 |[],_,h,_=>by cases h
 |e::es,x,h,hok=>by
  rcases zmc.1 h with h|h
  ·rw[h]at hok⊢;exact afW l hl e hok
  ·exact acO l hl es x h hok
end
def gP(e:Ex)(l:List Int):Int×Int:=if oD e≠0 then(0,oD e)else if dS l.length e then bD l e else(0,4)
theorem kH{e:Ex}(h:oD e=0):eY 20 e=false/\bE e=true:=by
 unfold oD at h
 grind
theorem aCZ{e:Ex}(f:e.ok)(hl:l.length<2^62):qf 183 [.agg e.z, .seq (iN l)] (.tup [vi ((gP e l).1),vi ((gP e l).2)]):=by
 have g:=jD f;have d:=ahO ((l.length:Nat):Int) e f;have a:=vK l;rw[<-a]at d;by_cases hm:oD e=0;rw[hm]at g;rcases ht:dS l.length e with _|_
 rw[a,ht]at d;rw[<-a]at d;have c:gP e l=(0,4):=by unfold gP;rw[zn λq=>q hm,zn (by rw[ht];simp)]
 rw[c];clear hm ht c;have⟨k,n,v,of⟩:=e;rotate_left;have i:=afW l hl e f (kH hm).2 ht;rw[a,ht]at d;rw[<-a]at d;have c:gP e l=bD l e:=by unfold gP;rw[zn λq=>q hm,zp ht]
 rw[c];generalize bD l e=R at*;clear hm ht c;have⟨k,n,v,of⟩:=e;rotate_left;have c:gP e l=(0,oD e):=by unfold gP;rw[zp hm]
 rw[c];generalize oD e=M at*;clear c d;have⟨k,n,v,of⟩:=e
 all_goals (refine pF func183 rfl λst=>?_;repeat'(first|apply wZ;rfl|omega|constructor|apply g|(first|apply d|apply i)|apply wY;rfl|intro h))
mutual
def bM(row:List Vl):Ex->Vl×Int
 | .mk k n v o=>if k=0 then(if n>=row.length then(v0,4)else(row.getD n.toNat v0,0))else if k=1 then(v,0)else
   match kV row o with
   |(_,some no)=>(v0,no)
   |(got,none)=>if pE (jM k) 0 (got.map Vl.k)then oJ k (got.getD 0 v0) (got.getD (dZ k-1).toNat v0)else(v0,6)
def kV(row:List Vl):List Ex->List Vl×Option Int
 |[]=>([],none)
 |e::es=>if(bM row e).2=0 then((bM row e).1::(kV row es).1,(kV row es).2)else([],some (bM row e).2)
end
theorem aeA{row:List Vl}:∀{os:List Ex},(∀x∈os,(bM row x).2=0)->kV row os=(os.map λx=>(bM row x).1,none)
 |[],_=>rfl
 |e::es,h=>by
  have a:=aeA (os:=es) λx hx=>h x (by grind)
  simp[kV,h e _,a]
theorem adD{row:List Vl}:∀{os:List Ex}{i:Nat}{x:Ex},(∀j y,j<i->os[j]?=some y->(bM row y).2=0)->os[i]?=some x->(bM row x).2≠0->(kV row os).2=some (bM row x).2
 |[],_,_,_,h,_=>by simp at h
 |e::es,0,x,_,h,hx=>by
  simp at h;subst h
  simp[kV,hx]
 |e::es,i+1,x,h0,h,hx=>by
  have a:=h0 0 e (by omega) (by simp)
  have c:=adD (os:=es) (i:=i) (λj y hj hy=>h0 (j+1) y (by omega) ‹_›) h hx
  simp[kV,a,c]
theorem aD5{v:Vl}(h:rightV v=true):lim v.n:=by
 unfold rightV at h;split at h
 ·simp at h;unfold lim;omega
 ·split at h
  ·simp at h;unfold lim;omega
  ·split at h
   ·simp at h;unfold lim;omega
   ·cases h
theorem xC :lim v0.n:=by trivial
theorem anJ(b:Bool):lim (fL b).n:=by unfold lim fL vN;grind
theorem aFH{a b:Vl}:lim (rZ op a b).1.n:=by
 unfold rZ;split
 ·exact xC
 ·rename_i h
  simp[sF]at h;unfold lim vN;grind
theorem amG{a b:Vl}(h:lim (r a b).1.n):lim (jK r a b).1.n:=by
 unfold jK;split
 ·exact xC
 ·exact h
theorem aIx(k:Int)(a b:Vl):lim (oJ k a b).1.n:=by
 unfold oJ
 repeat' split
 all_goals first
  |exact amG aFH
  |exact amG (anJ _)
  |exact anJ _
  |(unfold acW;(repeat' split)<;>first|exact xC|unfold lim vN;simp only;omega)
theorem aHK(h:∀v∈row,lim v.n)(i:Nat):lim (row.getD i v0).n:=by
 rw[List.getD_eq_getElem?_getD];cases hi:row[i]? with
 |none=>exact xC
 |some x=>grind
theorem aHv(c:∀v∈row,lim v.n):∀{e:Ex},bE e=true->lim (bM row e).1.n
 | .mk k n v of,hf=>by
  simp only[bM]
  split
  ·split
   ·exact xC
   ·exact aHK c _
  ·split
   ·rename_i h0 a
    subst a;simp[bE,fG]at hf;exact aD5 hf.1.2
   ·split
    ·exact xC
    ·split
     ·exact aIx _ _ _
     ·exact xC
def rowOK(row:List Vl):Prop:=row.length<2^62/\∀v∈row,lim v.n
theorem aE8{k n:Int}{v:Vl}{of:List Ex}(j:rowOK row)(hk:k=0\/k=1)(hf:bE (.mk k n v of)=true):
  qf 214 [.agg (Ex.mk k n v of).z, .seq (row.map Vl.z)] (fS (bM row (.mk k n v of))):=by
 have i:(row.map Vl.z).length=row.length:=zql _
 have l:=j.1
 by_cases c:k=0
 ·subst c
  simp[bE,fG]at hf;by_cases g:n>=row.length
  ·have e:bM row (.mk 0 n v of)=(v0,4):=by simp only[bM,zp];rw[zp g]
   rw[e];refine pF func214 rfl λst=>?_
   repeat' first|apply wZ;rfl|omega|constructor|intro h;simp at h
  ·have hn:n.toNat<row.length:=by omega
   have hx:=getElem?_pos row n.toNat hn;have e:bM row (.mk 0 n v of)=(row[n.toNat],0):=by simp only[bM,zp];rw[zn g];simp[hx]
   rw[e];have a:(row.map Vl.z)[n.toNat]?=some row[n.toNat].z:=by rw[List.getElem?_map,hx];rfl
   have f:n=((n.toNat:Nat):Int):=by omega
   refine pF func214 rfl λst=>?_
   repeat' first|apply wZ;rfl|omega|constructor|apply cR pk;(iterate 6 rfl);rotate_left;rfl;intro hw;exact f;(intro hw;apply a<;>omega);intro _;rfl;rfl|intro h;simp at h
 ·have d:k=1:=by omega
  subst d;have e:bM row (.mk 1 n v of)=(v,0):=by simp[bM]
  rw[e];refine pF func214 rfl λst=>?_
  repeat' first|apply wZ;rfl|constructor
def aBT :List PV:=[vi 0,vi 0,vs e0]
def aOp :List Vl->List PV
 |[]=>aBT++aBT
 |[a]=>a.z++aBT
 |a::b::_=>a.z++b.z
mutual
theorem anE{row:List Vl}(hr:rowOK row):∀(e:Ex),e.ok->bE e=true->qf 214 [.agg e.z, .seq (row.map Vl.z)] (fS (bM row e))
 | .mk k n v of,hok,hf=>by
  have ih:=aiP hr of
  by_cases U:k=0\/k=1
  ·exact aE8 hr U hf
  have T:¬k=0:=by omega
  have V:¬k=1:=by omega
  have⟨hk,hn,hv,hlen,J⟩:=rI hf T V
  simp only[Ex.ok]at hok
  have hm:=awT k
  have W:=Ex.rows_len of
  have⟨fid,caps,d,F⟩:=afC hk.1 hk.2
  have p:bM row (.mk k n v of)=match kV row of with|(_,some no)=>(v0,no)|(c,none)=>if pE (jM k) 0 (c.map Vl.k)then oJ k (c.getD 0 v0) (c.getD (dZ k-1).toNat v0)else(v0,6):=by simp only[bM,zn T,zn V];try rfl
  generalize bM row (.mk k n v of)=E at*
  refine pF func214 rfl λst=>?_
  focus(repeat' first|apply wZ;rfl|omega|constructor|intro h)
  refine yQ 7 3 rfl rfl λid z=>?_
  have z:st id=none:=z
  refine aC (X:={x:List Vl×Nat//x.1.length<=of.length/\st x.2=none/\x.1=(of.take x.1.length).map (λy=>(bM row y).1)/\∀j y,j<x.1.length->of[j]?=some y->(bM row y).2=0}) (λi=>(((((((((St.nil 81 (upd st i.1.2 (some (.tok 3)))).pv 1 (.seq (row.map Vl.z))).var 2 80 ((Ex.mk k n v of).z)).var 4 46 (aBT)).var 6 311 (aOp i.1.1)).pv 7 (.own i.1.2 ((i.1.1.map Vl.k).map I1))).pv 33 (.seq (Ex.rows of))).pv 34 (vi ((Ex.rows of).length:Nat))).pv 35 (vi (i.1.1.length:Nat)))) (λi=>of.length-i.1.1.length) ⟨([],id),by simp,z,by simp,by simp⟩ ?_ λi=>?_
  ·repeat' first|exact Cn.t0|constructor
  obtain⟨⟨c,id⟩,hi,z,g,hz⟩:=i
  simp only at hi z g hz
  dsimp only
  by_cases K:of.length<=c.length
  ·have I:c.length=of.length:=by omega
   have Y:of.take c.length=of:=aaC (by omega);rw[Y]at g;have u:∀x∈of,(bM row x).2=0:=λx hx=>by
    have⟨j,hj⟩:=List.mem_iff_getElem?.1 hx
    exact hz j x (by have:=(zge.1 hj).1;omega) hj
   have w:kV row of=(c,none):=by rw[g];exact aeA u
   have B:∀v∈c,lim v.n:=λv hv=>by
    rw[g]at hv
    obtain⟨e,he,rfl⟩:=zmq.1 hv
    exact aHv hr.2 (J e he)
   have o:=wA (m:=dZ k) (nb:=jM k) (f:=fid) (caps:=caps) (l:=c.map Vl.k) (by simp;omega);unfold iN at o;rw[w]at p;simp only at p;clear w u hz g Y;generalize pE (jM k) 0 (c.map Vl.k)=G at*;cases G with
   |false=>
    rw[zn (by simp)]at p
    (repeat' first|apply Cn.cf;focus(((apply fB));done)|apply cV;focus(((apply o));done)|refine Cn.any ?_;refine⟨_,_,_,rfl,zwr _,eE ‹_›,?_,rfl⟩;((rw[p];rfl);done)|apply wZ;rfl|apply KR.mk;kernel_rfl|omega|constructor|apply sH pk;(iterate 4 rfl);(focus repeat' constructor);rfl;exact d;rfl|apply wY;rfl|intro h;simp at h)
   |true=>
    rw[zp rfl]at p;rcases c with _|⟨a,_|⟨b,_|⟨_,_⟩⟩⟩
    ·simp only[List.length_nil]at I;omega
    ·have N:dZ k=1:=by simp only[zlc,List.length_nil]at I;omega
     have ha:=B a (by simp);have hs:=F a.k a.n a.s a.k a.n a.s ha ha;rw[N]at p o d;have e:E=oJ k a a:=p;rw[e];generalize oJ k a a=R at*
     repeat' first|apply Cn.cf;focus(((first|apply fB|apply hs));done)|apply cV;focus(((apply o));done)|refine Cn.any ?_;refine⟨_,_,_,rfl,zwr _,eE ‹_›,?_,rfl⟩;rfl|apply wZ;rfl|apply KR.mk;kernel_rfl|omega|constructor|apply sH pk;(iterate 4 rfl);(focus repeat' constructor);rfl;exact d;rfl|apply mG pk 0;(iterate 5 rfl);(focus repeat' constructor);rfl;intro _;rfl;intro _;omega;rfl|apply wY;rfl|intro h;simp at h
    ·have N:dZ k=2:=by simp only[zlc,List.length_nil]at I;omega
     have ha:=B a (by simp);have hb:=B b (by simp);have hs:=F a.k a.n a.s b.k b.n b.s ha hb;rw[N]at p o d;have e:E=oJ k a b:=p;rw[e];generalize oJ k a b=R at*
     repeat' first|apply Cn.cf;focus(((first|apply fB|apply hs));done)|apply cV;focus(((apply o));done)|refine Cn.any ?_;refine⟨_,_,_,rfl,zwr _,eE ‹_›,?_,rfl⟩;rfl|apply wZ;rfl|apply KR.mk;kernel_rfl|omega|constructor|apply sH pk;(iterate 4 rfl);(focus repeat' constructor);rfl;exact d;rfl|apply mG pk 0;(iterate 5 rfl);(focus repeat' constructor);rfl;intro _;rfl;intro _;omega;rfl|apply mG pk 1;(iterate 5 rfl);(focus repeat' constructor);rfl;intro _;rfl;intro _;omega;rfl|apply wY;rfl|intro h;simp at h
    ·simp only[zlc]at I;omega
  have⟨x,hx⟩:=gL (l:=of) (i:=c.length) (by omega)
  have D:=Ex.rows_get hx
  have M:=List.mem_of_getElem? hx
  have P:=ih x M (Ex.oks_mem hok.2 M) (J x M)
  have H:=λh0=>adD (row:=row) hz hx h0
  have hzs:(bM row x).2=0->∀j y,j<c.length+1->of[j]?=some y->(bM row y).2=0:=λh0 j y hj hy=>by
   by_cases hji:j=c.length
   ·subst hji;rw[hx]at hy;injection hy with hy;subst hy;exact h0
   ·exact hz j y (by omega) hy
  have C:=vX hx λy=>(bM row y).1
  rw[<-g]at C
  have hE2:(bM row x).2≠0->E=(v0,(bM row x).2):=λh0=>by
   have:=H h0
   rw[p]
   revert this
   cases kV row of with|mk a b=>intro this;simp only at this;subst this;rfl
  clear H p
  generalize hrr:bM row x=r at*
  obtain⟨⟨L,Q,S⟩,re⟩:=r
  have⟨k',n',v',of'⟩:=x
  dsimp only at*
  by_cases h2:re=0
  ·have Z:=hzs h2
   have hg2:c.length<2:=by omega
   rcases c with _|⟨a,_|⟨b,_⟩⟩
   ·simp only[List.length_nil]at K hi
    have hne:¬(Ex.rows of=[]):=λq=>by rw[q]at W;simp only[List.length_nil]at W;omega
    have hz1:(List.map Vl.k ([]:List Vl)).length=0:=rfl;have w1:([⟨L,Q,S⟩]:List Vl).length<=of.length:=by show 1<=of.length;omega
    have w2:([⟨L,Q,S⟩]:List Vl).length=1:=rfl;have w3:([]:List Vl).length=0:=rfl;have hz3:(List.map I1 (List.map Vl.k ([]:List Vl))).length=0:=rfl
    repeat' first|refine⟨⟨([⟨L,Q,S⟩],O),w1,gM A,C.symm,Z⟩,?_,?_⟩;dsimp only|exact Cn.any (aM ‹_›)|apply wZ;rfl|omega|constructor|apply cR pk;(iterate 6 rfl);rotate_left;rfl;intro hw;rfl;(intro hw;apply D<;>omega);intro _;exact Ex.cells_len _;rfl|apply P|apply mG pk 0;(iterate 5 rfl);(focus repeat' constructor);rfl;intro _;rfl;intro _;omega;rfl|apply apS pk (L) 8;(iterate 8 rfl);exact aA _ _ _;exactλ_=>rfl;exactλ_=>rfl;exact mJ;omega;omega;rfl;intro O A|apply wY;rfl|simp<;>omega|intro h;simp at h
   ·simp only[zlc,List.length_nil]at K hi
    have hz1:(List.map Vl.k [a]).length=1:=rfl;have w1:([a,⟨L,Q,S⟩]:List Vl).length<=of.length:=by show 2<=of.length;omega
    have w2:([a,⟨L,Q,S⟩]:List Vl).length=2:=rfl;have w3:[a].length=1:=rfl;have hz3:(List.map I1 (List.map Vl.k [a])).length=1:=rfl
    repeat' first|refine⟨⟨([a,⟨L,Q,S⟩],O),w1,gM A,C.symm,Z⟩,?_,?_⟩;dsimp only|exact Cn.any (aM ‹_›)|apply wZ;rfl|omega|constructor|apply cR pk;(iterate 6 rfl);rotate_left;rfl;intro hw;rfl;(intro hw;apply D<;>omega);intro _;exact Ex.cells_len _;rfl|apply P|apply mG pk 1;(iterate 5 rfl);(focus repeat' constructor);rfl;intro _;rfl;intro _;omega;rfl|apply apS pk (L) 8;(iterate 8 rfl);exact aA _ _ _;exactλ_=>rfl;exactλ_=>rfl;exact mJ;omega;omega;rfl;intro O A|apply wY;rfl|simp<;>omega|intro h;simp at h
   ·exact absurd hg2 (by simp)
  ·have e:=hE2 h2
   repeat' first|refine Cn.any ?_;refine⟨_,_,_,rfl,zwr _,eE ‹_›,?_,rfl⟩;((rw[e];rfl);done)|apply wZ;rfl|omega|constructor|apply cR pk;(iterate 6 rfl);rotate_left;rfl;intro hw;rfl;(intro hw;apply D<;>omega);intro _;exact Ex.cells_len _;rfl|apply P|apply wY;rfl|intro h;simp at h
theorem aiP{row:List Vl}(a:rowOK row):∀(os:List Ex)(x:Ex),x∈os->x.ok->bE x=true->qf 214 [.agg x.z, .seq (row.map Vl.z)] (fS (bM row x))
 |[],_,h,_=>by cases h
 |e::es,x,h,hok=>by
  rcases zmc.1 h with h|h
  ·rw[h]at hok⊢;exact anE a e hok
  ·exact aiP a es x h hok
end
def EvalR(e:Ex)(row:List Vl):Vl×Int:=if oD e≠0 then(v0,oD e)else bM row e
theorem Eval_spec{e:Ex}(c:e.ok)(g:rowOK row):qf 136 [.agg e.z, .seq (row.map Vl.z)] (fS (EvalR e row)):=by
 have d:=jD c;by_cases hm:oD e=0;have f:=anE g e c (kH hm).2;rw[hm]at d;have a:EvalR e row=bM row e:=by unfold EvalR;rw[zn λq=>q hm]
 rw[a];generalize bM row e=R at*;clear hm a;have⟨k,n,v,of⟩:=e;rotate_left;have a:EvalR e row=(v0,oD e):=by unfold EvalR;rw[zp hm]
 rw[a];generalize oD e=M at*;clear a;have⟨k,n,v,of⟩:=e
 all_goals (refine pF func136 rfl λst=>?_;repeat'(first|apply wZ;rfl|omega|constructor|apply d|apply f|apply wY;rfl|intro h))
def qU(f:Ex->Int->Int)(left:Int):Int->List Ex->Int
 |n,[]=>n
 |n,x::xs=>if n<=left then qU f left (n+f x (left-n)) xs else n
def nodesR :Nat->Ex->Int->Int
 |0,_,left=>left+1
 |d+1,e,left=>qU (nodesR d) left 1 e.of
theorem anU{f:Ex->Int->Int}{left:Int}(hf:∀x l,0<=l->1<=f x l/\f x l<=l+1):∀(l:List Ex)(n:Int),1<=n->n<=left+1->1<=qU f left n l/\qU f left n l<=left+1
 |[],n,h1,h2=>⟨h1,h2⟩
 |x::xs,n,h1,h2=>by
  simp only[qU]
  split
  ·have:=hf x (left-n) (by omega)
   exact anU hf _ _ (by omega) (by omega)
  grind
theorem anS :∀(d:Nat)(e:Ex)(left:Int),0<=left->1<=nodesR d e left/\nodesR d e left<=left+1
 |0,_,left,h=>by simp only[nodesR];omega
 |d+1,e,left,h=>by
  exact anU (λx l hl=>anS d x l hl) _ _ (by simp) (by omega)
theorem aBe :∀(d:Nat)(e:Ex)(left z:Int),z=(d:Nat)->d<=1000->0<=left->left<=1000->e.ok->qf 55 [.agg e.z,vi left,vi z] (vi (nodesR d e left)):=by
 intro d
 induction d with
 |zero=>
  intro e left z hz _ w y g;subst hz;have⟨k,n,v,of⟩:=e;refine pF func55 rfl λst=>?_
  (repeat' first|apply wZ;rfl|omega|constructor)
 |succ d ih=>
  intro e left z hz hd w y g;subst hz;have⟨k,n,v,of⟩:=e;simp only[Ex.ok]at g;have A:=Ex.rows_len of;refine pF func55 rfl λst=>?_
  focus(repeat' first|apply wZ;rfl|constructor)
  refine aC (X:={x:Nat×Int//x.1<=of.length/\1<=x.2/\x.2<=left+1/\nodesR (d+1) (.mk k n v of) left=qU (nodesR d) left x.2 (of.drop x.1)}) (λi=>((((((St.nil 39 st).pv 1 (vi left)).pv 2 (vi (d+1:Nat))).var 3 80 ((Ex.mk k n v of).z)).pv 7 (vi i.1.2)).pv 8 (vi (i.1.1:Nat)))) (λi=>of.length-i.1.1) ⟨(0,1),by simp,by simp,by simp only;omega,rfl⟩ ?_ λi=>?_
  ·repeat' first|constructor
  obtain⟨⟨i,m⟩,hi,o,p,a⟩:=i;simp only at hi o p a;dsimp only;by_cases f:¬(i<of.length/\m<=left)
  ·have j:qU (nodesR d) left m (of.drop i)=m:=by
    by_cases c:i<of.length
    ·have⟨x,hx⟩:=gL c
     rw[afU hx];simp only[qU];rw[zn λq=>f ⟨c,q⟩]
    ·rw[aCm c];rfl
   rw[j]at a
   repeat' first|apply wZ;rfl|constructor|show(_:PV)=_;rw[a];done|intro h;simp at h;omega|intro h;simp at h
  have⟨c,s⟩:=zdn f;have⟨x,hx⟩:=gL c;have l:=Ex.rows_get hx;have B:=anS d x (left-m) (by omega);have u:=λz hz=>ih x (left-m) z hz (by omega) (by omega) (by omega) (Ex.oks_mem g.2 (List.mem_of_getElem? hx));rw[afU hx]at a;simp only[qU]at a;rw[zp s]at a;generalize nodesR d x (left-m)=r at*;have⟨k',n',D,C⟩:=x
  repeat' first|refine⟨⟨(i+1,m+r),by simp only;omega,by simp only;omega,by simp only;omega,a⟩,?_,?_⟩|apply wZ;rfl|omega|constructor|apply cR pk;(iterate 6 rfl);rotate_left;rfl;intro hw;rfl;(intro hw;apply l<;>omega);intro _;exact Ex.cells_len _;rfl|apply u<;>(omega)|apply wY;rfl|simp<;>omega|intro h;simp at h;omega|intro h;simp at h
theorem Few_spec{e:Ex}(a:e.ok):qf 25 [.agg e.z] (vb (decide (nodesR 25 e 60<=60))):=by
 have h:=aBe 25 e 60 25 rfl (by omega) (by omega) (by omega) a;generalize nodesR 25 e 60=N at*;have⟨k,n,v,of⟩:=e;refine pF func25 rfl λst=>?_
 repeat' first|apply wZ;rfl|constructor|apply h|apply wY;rfl
end
end Go.Proofs.YtigmnfepdlbcpaaGreatDoor.X
namespace Go.Proofs.YtigmnfepdlbcpaaGreatDoor
open Go Go.Abs
namespace X
mutual
theorem Ex.inj :∀(a b:Ex),a.z=b.z->a=b
 | .mk k n v o, .mk k' n' v' o',h=>by
  simp only[Ex.z,List.cons.injEq,PV.val.injEq,PV.seq.injEq,Value.int.injEq,Value.string.injEq,true_and,and_true]at h
  obtain⟨rfl,rfl,d,f,g,h4⟩:=h
  have e:=Ex.injs o o' h4
  have⟨a,b,c⟩:=v
  have⟨i,b',j⟩:=v'
  simp only at d f g
  subst d f g e
  rfl
theorem Ex.injs :∀(a b:List Ex),Ex.rows a=Ex.rows b->a=b
 |[],[],_=>rfl
 |[],_::_,h=>by simp[Ex.rows]at h
 |_::_,[],h=>by simp[Ex.rows]at h
 |a::l,b::m,h=>by
  simp only[Ex.rows,List.cons.injEq]at h
  rw[Ex.inj a b h.1,Ex.injs l m h.2]
end
def RightR(e:Ex)(l:List Int):Int:=if(gP e l).2=0 then(if(gP e l).1=2 then 6 else 0)else(gP e l).2
end X
open Classical in
noncomputable def exOf(c:List PV):X.Ex:=if h:∃e:X.Ex,e.ok/\e.z=c then h.choose else .mk 0 0 X.v0 []
theorem zR{c:List PV}(h:∃e:X.Ex,e.ok/\e.z=c):(exOf c).ok/\(exOf c).z=c:=by
 unfold exOf
 grind
def tH(t:Tb):Prop:=∀c∈t.h,∃e:X.Ex,e.ok/\e.z=c
def chE(p:Vl×Int):Int:=if p.2=0 then(if p.1=⟨1,0,e0⟩then 9 else 0)else p.2
noncomputable def exR(t:Tb)(r:List Vl):Int:=dH (λc=>chE (X.EvalR (exOf c) r)) t.h
noncomputable def rightX(t:Tb):Int:=dH (λc=>X.RightR (exOf c) (t.o.map bW)) t.h
noncomputable def rightC(s:Sc):Int:=if bY s=0 then dH rightX s else bY s
end Go.Proofs.YtigmnfepdlbcpaaGreatDoor
namespace Go.Proofs.YtigmnfepdlbcpaaGreatDoor
open Go Go.Abs Tryz
variable{st:aD}{i id:Nat}{a:Option AObj}{m:Su}
section
attribute [local irreducible] Ev PWp
def qP(t:Tb)(rows:List (List Vl))(b:Bs):List PV:=t.z++[.seq (rows.map roC), .seq (b.map Da.z)]
variable(t:Tb)(rows:List (List Vl))(b:Bs)
theorem aAu(hc:t.o.length<1000000000000000)(hl:rows.length<1000000000000000)(f:∀r∈rows,r.length<1000000000000000):qf 67 [.agg (qP t rows b)] (vi (dH (cY t) rows)):=by
 refine pF func67 rfl λst=>?_
 focus(repeat' first|apply wZ;rfl|constructor)
 refine aC (X:={x:Nat//x<=rows.length/\∀j (h:j<rows.length),j<x->cY t rows[j]=0}) (λi=>(((((St.nil 22 st).var 1 138 (qP t rows b)).pv 7 (.seq (rows.map roC))).pv 8 (vi ((rows.map roC).length:Nat))).pv 9 (vi (i.1:Nat)))) (λi=>rows.length-i.1) ⟨0,by omega,by omega⟩ ?_ λi=>?_;rotate_left;have⟨i,hi,c⟩:=i;dsimp only;by_cases d:rows.length<=i;have e:dH (cY t) rows=0:=fV λj hj=>c j hj (by omega);rotate_left;have a:i<rows.length:=by omega
 have hk:=amH t rows[i] hc (f _ (zgm a));have e:=lG c a;have hu:=lF c a;generalize cY t rows[i]=E at*
 all_goals (repeat' first|refine⟨⟨i+1,by omega,hu ‹_›⟩,?_,?_⟩|apply wZ;rfl|omega|constructor|apply hk|show(_:PV)=_;rw[e ‹_›];done|apply wY;rfl|apply wI;rfl|apply gE;omega|show(_:PV)=_;rw[e];done|simp<;>omega|intro h;simp at h|intro h)
def bF'(b:Bool):PV:=(vb b)
theorem uT{b:Option AObj}(h:st id=none):StSub st (upd (upd st id a) id b):=λj=>by
 by_cases hj:j=id
 ·grind
 ·right;rw[aB hj,aB hj]
theorem rR(h:st id=none):StSub st (upd st id a):=λj=>by
 by_cases hj:j=id
 ·grind
 ·right;rw[aB hj]
theorem awX(hl:rows.length<1000000000000000)(hu:t.u.length<1000000000000000)(O:∀u∈t.u,0<=u/\∀r∈rows,u<r.length):qf 68 [.agg (qP t rows b)] (vi (if jZ t rows=false then 8 else 0)):=by
 have G:=arV (t:=t) (rows:=rows);have g:=λj k hj h=>aB2 (t:=t) (rows:=rows) (j:=j) (k:=k) hj h;generalize jZ t rows=B at*;refine pF func68 rfl λst=>?_
 focus(repeat' first|apply wZ;rfl|constructor)
 refine aC (X:={x:Nat//x<=t.u.length/\∀j (h:j<t.u.length),j<x->pwU t.u[j].toNat rows}) (λi=>(((((St.nil 45 st).var 1 138 (qP t rows b)).pv 10 (.seq (t.u.map I1))).pv 11 (vi ((t.u.map I1).length:Nat))).pv 12 (vi (i.1:Nat)))) (λi=>t.u.length-i.1) ⟨0,by omega,by omega⟩ ?_ λi=>?_
 ·repeat' first|constructor
 have⟨i,hi,L⟩:=i;dsimp only;by_cases N:t.u.length<=i
 ·have e:B=true:=G λj hj=>L j hj (by omega)
  repeat' first|apply wZ;rfl|constructor|show(_:PV)=_;rw[e];rfl;done|simp<;>omega|intro h;simp at h
 have C:i<t.u.length:=by omega
 have⟨P,K⟩:=O _ (zgm C);have g:=λk=>g i k C;have F:pwU t.u[i].toNat rows->∀j (h:j<t.u.length),j<i+1->pwU t.u[j].toNat rows:=λh j hj H=>by
  rcases zls.1 H with q|q
  ·exact L j hj q
  ·subst q;exact h
 focus(repeat' first|apply mkM (enc:=Ie) (f:=bF');rfl;intro id w|apply wZ;rfl|constructor|apply wI;rfl|apply gE;omega|simp<;>omega|intro h;simp at h)
 have A:st id=none:=w;clear w;obtain⟨u,hu⟩:∃u:Nat,t.u[i]=(u:Int):=⟨t.u[i].toNat,by omega⟩;have J:t.u[i].toNat=u:=by omega
 rw[J]at g F;refine aC (X:={x:Nat//x<=rows.length/\pwU u (rows.take x)}) (λy=>((((((((((St.nil 45 (upd st id (some (.map (aY Ie bF' (azE u (rows.take y.1))))))).var 1 138 (qP t rows b)).pv 4 (vi (t.u[i]))).pv 5 (.mref id)).pv 10 (.seq (t.u.map I1))).pv 11 (vi ((t.u.map I1).length:Nat))).pv 12 (vi (i:Nat))).pv 18 (.seq (rows.map roC))).pv 19 (vi ((rows.map roC).length:Nat))).pv 20 (vi (y.1:Nat)))) (λy=>rows.length-y.1) ⟨0,by omega,by unfold pwU;simp⟩ ?_ λy=>?_
 ·repeat' first|exact Cn.t0|constructor
 have⟨y,hy,l⟩:=y;dsimp only;by_cases m:rows.length<=y
 ·rw[ztl m]at l
  repeat' first|refine⟨⟨i+1,by omega,F l⟩,?_,?_⟩|refine Cn.any ?_;exact Sub.nil _ _ _ (rR A) rfl|apply wZ;rfl|omega|constructor|simp<;>omega|intro h;simp at h
 have o:y<rows.length:=by omega
 have I:=K _ (zgm o);have E:u<rows[y].length:=by rw[hu]at I;omega
 have p:=zep rows[y] u E;have c:=aHg (u:=u) o;have D:=g (y+1);have d:=aFK u rows[y][u]!.n (rows.take y);have a:=aKP u o;rw[p]at c d a;clear p;generalize R:azE u (rows.take y)=M at*;generalize((rows.take y).any λr=>decide (r[u]!.k=1)&&decide (r[u]!.n=rows[y][u].n))=Q at*;by_cases hk:rows[y][u].k=1
 ·rw[zp hk]at a
  cases Q with
  |true=>
   have e:B=false:=D λh=>by have:=(c.1 h).2 hk;cases this
   (repeat' first|apply iX;intro hw;exact hu;apply gE;omega;rfl|refine Cn.any ?_;refine⟨_,_,_,rfl,zwr _,eE ‹_›,?_,rfl⟩;((rw[e];rfl);done)|apply wZ;rfl|omega|constructor|apply lkD pk aaO (f:=bF') (z:=false) (k:=rows[y][u].n) (n:=true);(iterate 5 rfl);rotate_left;rfl;exact aA _ _ _;rfl;exact d|apply wI;rfl|apply gE;omega|simp<;>omega|intro h;simp at h|intro h)
  |false=>
   have hw:=c.2 ⟨l,λ_=>rfl⟩
   repeat' first|apply iX;intro hw;exact hu;apply gE;omega;rfl|refine⟨⟨y+1,by omega,hw⟩,?_,?_⟩;dsimp only;rw[a]|exact Cn.any (cZ (by((simp only[St.pv,St.put,St.sst,St.setv,St.nil,St.var,eX]);(done))))|apply wZ;rfl|omega|constructor|apply lkD pk aaO (f:=bF') (z:=false) (k:=rows[y][u].n) (n:=false);(iterate 5 rfl);rotate_left;rfl;exact aA _ _ _;rfl;exact d|apply muA pk aaO (f:=bF') (k:=rows[y][u].n) (v:=true);exact .inr rfl;(iterate 5 rfl);exact aA _ _ _;rfl|apply wI;rfl|apply gE;omega|simp<;>omega|intro h;simp at h|intro h
 ·rw[zn hk]at a
  have hw:=c.2 ⟨l,λq=>absurd q hk⟩
  repeat' first|apply iX;intro hw;exact hu;apply gE;omega;rfl|refine⟨⟨y+1,by omega,hw⟩,?_,?_⟩;dsimp only;rw[a]|exact Cn.t0|apply wZ;rfl|omega|constructor|apply wI;rfl|apply gE;omega|simp<;>omega|intro h;simp at h|intro h
end
section
attribute [local irreducible] Ev PWp
variable(t:Tb)(rows:List (List Vl))(b:Bs)
theorem avZ(hl:rows.length<1000000000000000)(hx:t.h.length<1000000000000000)(hk:tH t)(L:∀r∈rows,X.rowOK r):qf 69 [.agg (qP t rows b)] (vi (dH (exR t) rows)):=by
 refine pF func69 rfl λst=>?_
 focus(repeat' first|apply wZ;rfl|constructor)
 refine aC (X:={x:Nat//x<=rows.length/\∀j (h:j<rows.length),j<x->exR t rows[j]=0}) (λi=>(((((St.nil 38 st).var 1 138 (qP t rows b)).pv 10 (.seq (rows.map roC))).pv 11 (vi ((rows.map roC).length:Nat))).pv 12 (vi (i.1:Nat)))) (λi=>rows.length-i.1) ⟨0,by omega,by omega⟩ ?_ λi=>?_;rotate_left;have⟨i,hi,A⟩:=i;dsimp only;by_cases G:rows.length<=i;have e:dH (exR t) rows=0:=fV λj hj=>A j hj (by omega);rotate_left;have g:i<rows.length:=by omega
 have E:=L _ (zgm g);have e:=lG A g;have hu:=lF A g
 focus(repeat' first|apply wZ;rfl|constructor|apply wI;rfl|apply gE;omega|simp<;>omega|intro h;simp at h)
 refine aC (X:={x:Nat//x<=t.h.length/\∀j (h:j<t.h.length),j<x->chE (X.EvalR (exOf t.h[j]) rows[i])=0}) (λy=>(((((((((St.nil 38 st).var 1 138 (qP t rows b)).pv 4 (.seq (rows[i].map Vl.z))).pv 10 (.seq (rows.map roC))).pv 11 (vi ((rows.map roC).length:Nat))).pv 12 (vi (i:Nat))).pv 18 (.seq t.h)).pv 19 (vi (t.h.length:Nat))).pv 20 (vi (y.1:Nat)))) (λy=>t.h.length-y.1) ⟨0,by omega,by omega⟩ ?_ λy=>?_;rotate_left;have⟨y,hy,k⟩:=y;dsimp only;by_cases C:t.h.length<=y;have I:exR t rows[i]=0:=fV λj hj=>k j hj (by omega);rotate_left;have d:y<t.h.length:=by omega
 have⟨D,B⟩:=zR (hk _ (zgm d));have F:=lG (f:=λc=>chE (X.EvalR (exOf c) rows[i])) k d;have u:=lF (f:=λc=>chE (X.EvalR (exOf c) rows[i])) k d;change chE _≠0->exR t rows[i]=chE _ at F;change chE (X.EvalR (exOf t.h[y]) rows[i])=0->_ at u;have K:=X.Eval_spec D E;have s:t.h[y]?=some (exOf t.h[y]).z:=by rw[B,zgg d]
 generalize X.EvalR (exOf t.h[y]) rows[i]=p at*;generalize exOf t.h[y]=x at*;have⟨M,N,P,O⟩:=x;obtain⟨⟨m,n,o⟩,l⟩:=p;have a:chE (⟨m,n,o⟩,l)≠0->dH (exR t) rows=chE (⟨m,n,o⟩,l):=λh=>by
  have:=F h
  rw[e (by rw[this];exact h),this]
 by_cases v:l=0;by_cases z:m=1/\n=0/\o=e0;have J:chE (⟨m,n,o⟩,l)=9:=by unfold chE;rw[zp v,zp (by simp[z])]
 rw[J]at a;have hf:=a (by decide);obtain⟨rfl,rfl,rfl⟩:=z;rotate_left;have w:chE (⟨m,n,o⟩,l)=0:=by unfold chE;rw[zp v,zn λq=>z (by simpa using q)]
 have hw:=u w;rotate_left;have H:chE (⟨m,n,o⟩,l)=l:=by unfold chE;rw[zn v]
 rw[H]at a;have hf:=a v
 all_goals (repeat' first|refine⟨⟨y+1,by omega,hw⟩,?_,?_⟩|refine⟨⟨i+1,by omega,hu I⟩,?_,?_⟩|apply wZ;rfl|omega|constructor|apply cR pk;(iterate 6 rfl);rotate_left;rfl;intro hw;rfl;(intro hw;apply s<;>omega);intro _;rfl;rfl|apply K|show(_:PV)=_;rw[hf];done|apply wY;rfl|show(_:PV)=_;rw[e];done|simp<;>omega|exfalso;simp_all;done|intro h;simp at h)
theorem aoZ(hl:rows.length<1000000000000000)(hx:t.f.length<1000000000000000)(A:∀f∈t.f,0<=f.n/\∀r∈rows,f.n<r.length){n:Nat}(hb:BsS n b)(hn:n<=1000):qf 70 [.agg (qP t rows b)] (vi (if pZ b t rows=false then 10 else 0)):=by
 have p:(∀j (h:j<t.f.length),(rows.all λr=> !decide (r[t.f[j].n.toNat]!.k=1)||(bJ (aF b t.f[j].t) r[t.f[j].n.toNat]!.n).isSome)=true)->pZ b t rows=true:=λh=>by
  unfold pZ
  rw[zal]
  intro f hf
  obtain⟨j,hj,rfl⟩:=zgo hf
  exact h j hj
 have g:∀j (h:j<t.f.length),(rows.all λr=> !decide (r[t.f[j].n.toNat]!.k=1)||(bJ (aF b t.f[j].t) r[t.f[j].n.toNat]!.n).isSome)=false->pZ b t rows=false:=λj hj h=>by
  unfold pZ
  rw[<-znt,zal]
  intro q
  rw[q _ (zgm hj)]at h;cases h
 generalize pZ b t rows=B at*;refine pF func70 rfl λst=>?_
 focus(repeat' first|apply wZ;rfl|constructor)
 refine aC (X:={x:Nat//x<=t.f.length/\∀j (h:j<t.f.length),j<x->(rows.all λr=> !decide (r[t.f[j].n.toNat]!.k=1)||(bJ (aF b t.f[j].t) r[t.f[j].n.toNat]!.n).isSome)=true}) (λi=>(((((St.nil 51 st).var 1 138 (qP t rows b)).pv 11 (.seq (t.f.map Fr.z))).pv 12 (vi ((t.f.map Fr.z).length:Nat))).pv 13 (vi (i.1:Nat)))) (λi=>t.f.length-i.1) ⟨0,by omega,by omega⟩ ?_ λi=>?_;rotate_left;have⟨i,hi,E⟩:=i;dsimp only;by_cases F:t.f.length<=i;have e:B=true:=p λj hj=>E j hj (by omega);rotate_left;have l:i<t.f.length:=by omega
 have⟨I,w⟩:=A _ (zgm l);have g:=g i l;have C:(rows.all λr=> !decide (r[t.f[i].n.toNat]!.k=1)||(bJ (aF b t.f[i].t) r[t.f[i].n.toNat]!.n).isSome)=true->∀j (h:j<t.f.length),j<i+1->(rows.all λr=> !decide (r[t.f[j].n.toNat]!.k=1)||(bJ (aF b t.f[j].t) r[t.f[j].n.toNat]!.n).isSome)=true:=λh j hj d=>by
  rcases zls.1 d with q|q
  ·exact E j hj q
  ·subst q;exact h
 focus(repeat' first|apply wZ;rfl|constructor|apply wI;rfl|apply gE;omega|simp<;>omega|intro h;simp at h)
 refine aC (X:={x:Nat//x<=rows.length/\∀j (h:j<rows.length),j<x->(!decide (rows[j][t.f[i].n.toNat]!.k=1)||(bJ (aF b t.f[i].t) rows[j][t.f[i].n.toNat]!.n).isSome)=true}) (λy=>(((((((((St.nil 51 st).var 1 138 (qP t rows b)).var 4 85 (t.f[i].z)).pv 11 (.seq (t.f.map Fr.z))).pv 12 (vi ((t.f.map Fr.z).length:Nat))).pv 13 (vi (i:Nat))).pv 18 (.seq (rows.map roC))).pv 19 (vi ((rows.map roC).length:Nat))).pv 20 (vi (y.1:Nat)))) (λy=>rows.length-y.1) ⟨0,by omega,by omega⟩ ?_ λy=>?_;rotate_left;have⟨y,hy,o⟩:=y;dsimp only;by_cases v:rows.length<=y;have hw:=C (by
  rw[zal]
  intro r A
  obtain⟨j,hj,rfl⟩:=zgo A
  exact o j hj (by omega))
 rotate_left;have s:y<rows.length:=by omega
 have H:=w _ (zgm s);have D:=abS hb hn t.f[i].t rows[y][t.f[i].n.toNat]!.n;have c:(!decide (rows[y][t.f[i].n.toNat]!.k=1)||(bJ (aF b t.f[i].t) rows[y][t.f[i].n.toNat]!.n).isSome)=false->B=false:=λh=>g (by
  rw[<-znt,zal]
  intro q
  rw[q _ (zgm s)]at h;cases h)
 have a:(!decide (rows[y][t.f[i].n.toNat]!.k=1)||(bJ (aF b t.f[i].t) rows[y][t.f[i].n.toNat]!.n).isSome)=true->∀j (h:j<rows.length),j<y+1->(!decide (rows[j][t.f[i].n.toNat]!.k=1)||(bJ (aF b t.f[i].t) rows[j][t.f[i].n.toNat]!.n).isSome)=true:=λh j hj d=>by
  rcases zls.1 d with q|q
  ·exact o j hj q
  ·subst q;exact h
 have u:t.f[i].n=((t.f[i].n.toNat:Nat):Int):=by omega
 have z:t.f[i].n.toNat<rows[y].length:=by omega
 have k:=zep rows[y] t.f[i].n.toNat z;rw[k]at D c a;clear k;generalize(bJ (aF b t.f[i].t) rows[y][t.f[i].n.toNat].n).isSome=G at*;cases G<;>by_cases m:rows[y][t.f[i].n.toNat].k=1
 have e:B=false:=c (by simp[m]);rotate_left;have hw:=a (by simp[m]);rotate_left;have hw:=a (by simp);rotate_left;have hw:=a (by simp)
 all_goals (repeat' first|apply iX;intro hw;exact u;apply gE;omega;rfl|refine⟨⟨y+1,by omega,hw⟩,?_,?_⟩|refine⟨⟨i+1,by omega,hw⟩,?_,?_⟩|apply wZ;rfl|apply KR.mk;kernel_rfl|omega|constructor|apply D|show(_:PV)=_;rw[e];rfl;done|apply wY;rfl|apply wI;rfl|apply gE;omega|simp<;>omega|intro h;simp at h;done|intro h;simp at h;omega|intro h;simp at h)
end
section
attribute [local irreducible] Ev PWp
structure TotOK (m:Su) (rows:List (List Vl)):Prop where
 len:rows.length<=2000
 c0:0<=m.n
 b0:0<=m.b
 cl:∀r∈rows,m.n<r.length/\m.b<r.length
 num:∀r∈rows,(-1099511627776<=r[m.n.toNat]!.n/\r[m.n.toNat]!.n<=1099511627776)/\(r[m.n.toNat]!.k≠1->r[m.n.toNat]!.n=0)
theorem TotOK.ns{rows:List (List Vl)}(h:TotOK m rows):aF2 m rows:=λr a=>(h.num r a).2
theorem vG{m:Su}{g:Int}:∀{rows:List (List Vl)},(∀r∈rows, -1099511627776<=r[m.n.toNat]!.n/\r[m.n.toNat]!.n<=1099511627776)-> -1099511627776*(rows.length:Int)<=gV m g rows/\gV m g rows<=1099511627776*(rows.length:Int)
 |[],_=>by simp[gV]
 |r::rows,h=>by
  have a:=vG (g:=g) λx hx=>h x (zmm _ hx)
  rw[arP]
  have: -1099511627776<=arW m g r/\arW m g r<=1099511627776:=by
   unfold arW
   grind
  grind
theorem aIq{rows:List (List Vl)}(h:aF2 m rows)(g:Int):(cK g (pD m rows)).getD 0=gV m g rows:=by
 have:=apL g [] h;simp only[cK,Option.getD_none,Int.zero_add]at this;exact this
theorem aIO{rows:List (List Vl)}{k:Nat}(h:k<rows.length):vU m (rows.take (k+1))=(vU m (rows.take k)&&decide (rows[k][m.n.toNat]!.n>=0)):=by
 unfold vU;rw[zts h,List.all_append];simp
theorem acN(m:Su)(rows:List (List Vl))(h:TotOK m rows):qf 77 [.agg m.z, .seq (rows.map roC)] (.tup [.fmap (aY Ie oX (pD m rows)),vb (vU m rows)]):=by
 have A:=h.len;refine pF func77 rfl λst=>?_
 focus(repeat' first|apply mkM (enc:=Ie) (f:=oX);rfl;intro id p|apply wZ;rfl|constructor)
 have q:st id=none:=p;clear p;refine aC (X:={x:Nat//x<=rows.length}) (λi=>(((((((St.nil 52 (upd st id (some (.map (aY Ie oX (pD m (rows.take i.1))))))).var 2 87 (m.z)).pv 6 (.mref id)).pv 7 (vb (vU m (rows.take i.1)))).pv 11 (.seq (rows.map roC))).pv 12 (vi ((rows.map roC).length:Nat))).pv 13 (vi (i.1:Nat)))) (λi=>rows.length-i.1) ⟨0,by omega⟩ ?_ λi=>?_
 ·repeat' first|exact Cn.t0|constructor
 have⟨i,hi⟩:=i;dsimp only;by_cases o:rows.length<=i
 ·rw[ztl o]
  repeat' first|apply lK 4;rfl;exact aA _ _ _|exact Cn.any ⟨_,_,st,rfl,zwr _,uT q,rfl,rfl⟩|apply wZ;rfl|constructor|simp<;>omega|intro h;simp at h
 have c:i<rows.length:=by omega
 have⟨c1,c2⟩:=h.cl _ (zgm c);have C:=h.c0;have B:=h.b0;have H:=(h.num _ (zgm c)).1;have w:aF2 m (rows.take i):=λr y=>h.ns r (List.mem_of_mem_take y);have hg:=aIq w rows[i][m.b.toNat]!.n;have e:=vG (m:=m) (g:=rows[i][m.b.toNat]!.n) (rows:=rows.take i) λr y=>(h.num r (List.mem_of_mem_take y)).1;have D:(rows.take i).length<=2000:=by rw[zlt];omega
 have a:=aJq m c;have d:=aIO (m:=m) c;have l:m.n=((m.n.toNat:Nat):Int):=by omega
 have j:m.b=((m.b.toNat:Nat):Int):=by omega
 have E:m.n.toNat<rows[i].length:=by omega
 have F:m.b.toNat<rows[i].length:=by omega
 rw[hg]at a;have s:=zep rows[i] m.n.toNat E;have u:=zep rows[i] m.b.toNat F;rw[u]at hg e;rw[s,u]at a;rw[s]at d H;clear s u;generalize pD m (rows.take i)=M at*;generalize vU m (rows.take i)=G at*;generalize gV m rows[i][m.b.toNat].n (rows.take i)=T at*;have t1: -2199023255552000<=T:=by omega
 have t2:T<=2199023255552000:=by omega
 clear e;by_cases hk:rows[i][m.b.toNat].k=1
 ·rw[zp hk]at a
  repeat' first|apply wD pk [15] [7];kernel_rfl;rfl;rfl|apply iX;intro hw;exact(by first|exact l|exact j);apply gE;omega;rfl|refine⟨⟨i+1,by omega⟩,?_,?_⟩;dsimp only;rw[a,d]|exact Cn.any (cZ (by((simp only[St.pv,St.put,St.sst,St.setv,St.nil,St.var,eX]);(done))))|apply wZ;rfl|omega|constructor|apply lkD pk aaO (f:=oX) (z:=0) (k:=rows[i][m.b.toNat].n) (n:=T);(iterate 5 rfl);rotate_left;rfl;exact aA _ _ _;rfl;exact hg|apply muA pk aaO (f:=oX) (k:=rows[i][m.b.toNat].n) (v:=T+rows[i][m.n.toNat].n);exact .inr rfl;(iterate 5 rfl);exact aA _ _ _;rfl|apply wI;rfl|apply gE;omega|simp<;>omega|intro h;simp at h|intro h
 ·rw[zn hk]at a
  repeat' first|apply iX;intro hw;exact(by first|exact l|exact j);apply gE;omega;rfl|refine⟨⟨i+1,by omega⟩,?_,?_⟩;dsimp only;rw[a,d]|exact Cn.t0|apply wZ;rfl|omega|constructor|apply wI;rfl|apply gE;omega|simp<;>omega|intro h;simp at h|intro h
theorem xY{α β:Type}(f:α->β):∀(l:List α)(i:Nat),(l.map f).eraseIdx i=(l.eraseIdx i).map f
 |[],_=>rfl
 |_::_,0=>rfl
 |a::l,i+1=>by simp only[zmp,List.eraseIdx_cons_succ,xY f l i]
theorem aDs(es:List (Int×Int))(i:Nat):(aY Ie oX es).eraseIdx i=aY Ie oX (es.eraseIdx i):=by unfold aY;rw[xY]
theorem aKC{es:List (Int×Int)}{e:Value×PV}(h:(aY Ie oX es)[i]?=some e):∃x,es[i]?=some x/\e=(Ie x.1,oX x.2):=by
 unfold aY at h
 grind
theorem aB7{es:List (Int×Int)}(h:aY Ie oX es=[]):es=[]:=by cases es with
 |nil=>rfl
 |cons x l=>cases h
theorem alV{α:Type}{p:α->Bool}:∀{l:List α}{i:Nat}{x:α},l[i]?=some x->l.all p=(p x&&(l.eraseIdx i).all p)
 |[],_,_,h=>by grind
 |a::l,0,x,h=>by grind
 |a::l,i+1,x,h=>by
  simp at h
  rw[List.all_cons,alV h]
  grind
theorem aKo(x:Int)(g:G):Rep g (vi x) (Ie x):=rfl
theorem ayB(t:Tb)(rows:List (List Vl))(b:Bs)(hx:t.s.length<1000000000000000)(hT:∀m∈t.s,TotOK m rows):qf 71 [.agg (qP t rows b)] (vi (if rE t rows=false then 11 else 0)):=by
 have u:(∀j (h:j<t.s.length),(vU t.s[j] rows&&(pD t.s[j] rows).all λe=>decide (e.2<=t.s[j].max))=true)->rE t rows=true:=λh=>by
  unfold rE
  rw[zal]
  intro m hm
  obtain⟨j,hj,rfl⟩:=zgo hm
  rw[<-aCQ (hT _ hm).ns];exact h j hj
 have f:∀j (h:j<t.s.length),(vU t.s[j] rows&&(pD t.s[j] rows).all λe=>decide (e.2<=t.s[j].max))=false->rE t rows=false:=λj hj h=>by
  unfold rE
  rw[<-znt,zal]
  intro q
  have:=q _ (zgm hj)
  rw[<-aCQ (hT _ (zgm hj)).ns,h]at this;cases this
 generalize rE t rows=B at*;refine pF func71 rfl λst=>?_
 focus(repeat' first|apply wZ;rfl|constructor)
 refine aC (X:={x:Nat//x<=t.s.length/\∀j (h:j<t.s.length),j<x->(vU t.s[j] rows&&(pD t.s[j] rows).all λe=>decide (e.2<=t.s[j].max))=true}) (λi=>(((((St.nil 40 st).var 1 138 (qP t rows b)).pv 11 (.seq (t.s.map Su.z))).pv 12 (vi ((t.s.map Su.z).length:Nat))).pv 13 (vi (i.1:Nat)))) (λi=>t.s.length-i.1) ⟨0,by omega,by omega⟩ ?_ λi=>?_
 ·repeat' first|constructor
 have⟨i,hi,F⟩:=i;dsimp only;by_cases H:t.s.length<=i
 ·have e:B=true:=u λj hj=>F j hj (by omega)
  repeat' first|apply wZ;rfl|constructor|show(_:PV)=_;rw[e];rfl;done|simp<;>omega|intro h;simp at h
 have n:i<t.s.length:=by omega
 have D:=acN t.s[i] rows (hT _ (zgm n));have f:=f i n;have r:(vU t.s[i] rows&&(pD t.s[i] rows).all λe=>decide (e.2<=t.s[i].max))=true->∀j (h:j<t.s.length),j<i+1->(vU t.s[j] rows&&(pD t.s[j] rows).all λe=>decide (e.2<=t.s[j].max))=true:=λh j hj z=>by
  rcases zls.1 z with q|q
  ·exact F j hj q
  ·subst q;exact h
 generalize pD t.s[i] rows=M at*;generalize vU t.s[i] rows=G at*
 focus(repeat' first|apply aIk pk;(iterate 5 rfl);intro E o|apply wZ;rfl|constructor|apply D|apply wY;rfl|apply wI;rfl|apply gE;omega|simp<;>omega|intro h;simp at h)
 have c:st E=none:=o;clear o;refine aC (X:={x:List (Int×Int)×Bool×Option (Value×PV)//(G&&M.all λe=>decide (e.2<=t.s[i].max))=(x.2.1&&x.1.all λe=>decide (e.2<=t.s[i].max))}) (λy=>((((((((St.nil 40 (upd st E (some (.iter y.1.2.2 (aY Ie oX y.1.1))))).var 1 138 (qP t rows b)).var 4 87 (t.s[i].z)).pv 6 (vb y.1.2.1)).pv 11 (.seq (t.s.map Su.z))).pv 12 (vi ((t.s.map Su.z).length:Nat))).pv 13 (vi (i:Nat))).pv 25 (.ref E 0))) (λy=>y.1.1.length) ⟨(M,G,none),rfl⟩ ?_ λy=>?_
 ·repeat' first|exact Cn.t0|constructor
 obtain⟨⟨a,g,cur⟩,d⟩:=y;dsimp only at d;dsimp only;have k:aY Ie oX a=[]->g=true->∀j (h:j<t.s.length),j<i+1->(vU t.s[j] rows&&(pD t.s[j] rows).all λe=>decide (e.2<=t.s[j].max))=true:=λv w=>r (by
  obtain rfl:=aB7 v
  rw[d,w];rfl)
 have l:aY Ie oX a=[]->g=false->B=false:=λv w=>f (by
  obtain rfl:=aB7 v
  rw[d,w];rfl)
 have p:∀{j:Nat}{x:Int×Int},a[j]?=some x->(a.eraseIdx j).length<a.length:=fun{j x} hx=>by
  have:=(zge.1 hx).1
  rw[List.length_eraseIdx_of_lt this];omega
 have C:∀{j:Nat}{x:Int×Int},a[j]?=some x->(G&&M.all λe=>decide (e.2<=t.s[i].max))=((g&&decide (x.2<=t.s[i].max))&&(a.eraseIdx j).all λe=>decide (e.2<=t.s[i].max)):=fun{j x} hx=>by
  rw[d,alV hx,Bool.and_assoc]
 clear r f d
 repeat' first|exact Cn.any ⟨_,_,st,rfl,zwr _,(by first|exact rR c|exact uT c),(by rw[l ‹_› ‹_›];rfl),rfl⟩|((refine⟨⟨i+1,by omega,k ‹_› ‹_›⟩,?_,by simp only;omega⟩);focus((repeat' first|refine Cn.any ?_;exact Sub.nil _ _ _ (by first|exact uT c|exact rR c) rfl|constructor);done))|((refine⟨⟨(a.eraseIdx j,g&&decide (x.2<=t.s[i].max),some (Ie x.1,oX x.2)),C hx⟩,?_,by simp only;omega⟩);dsimp only;focus((repeat' first|exact Cn.any (cZ (by((simp only[St.pv,St.put,St.sst,St.setv,St.nil,St.var,eX]);(done))))|constructor);done))|apply wZ;rfl|omega|constructor|apply aLj;rfl;exact aA _ _ _;rfl;rfl;rfl;intro A;rotate_left;intro j e I;obtain⟨x,hx,rfl⟩:=aKC I;rw[aDs];have J:=p hx;rotate_left|apply aHx;rfl;rfl;exact aA _ _ _;exact aKo x.1;rotate_left;rfl;rfl|intro h
end
end Go.Proofs.YtigmnfepdlbcpaaGreatDoor
namespace Go.Proofs.YtigmnfepdlbcpaaGreatDoor
open Go Go.Abs
attribute [local irreducible] Ev PWp
namespace X
theorem aAB(c:Co):qf 182 [.agg c.z] (vi (bW c)):=by
 unfold bW;refine pF Tryz.func182 rfl λst=>?_
 repeat' first|apply wZ;rfl|omega|constructor|show(_:PV)=_;simp[*];done;done|intro h
theorem Right_spec{e:Ex}(m:e.ok)(cols:List Co)(hl:cols.length<10000000000):qf 121 [.agg e.z, .seq (cols.map Co.z)] (vi (RightR e (cols.map bW))):=by
 have hT:=aCZ m (l:=cols.map bW) (by rw[zql];omega);have c:RightR e (cols.map bW)=if(gP e (cols.map bW)).2=0 then(if(gP e (cols.map bW)).1=2 then 6 else 0)else(gP e (cols.map bW)).2:=rfl
 generalize gP e (cols.map bW)=T at*;generalize RightR e (cols.map bW)=R at*;unfold iN at hT;obtain⟨k,n,v,of⟩:=e;obtain⟨q,T2⟩:=T;dsimp only at*;refine pF Tryz.func121 rfl λst=>?_
 focus(repeat' first|apply wZ;rfl|show Cn _;constructor)
 refine yQ 5 3 rfl rfl λid a=>?_;have a:st id=none:=a;refine aC (X:={x:Nat×Nat//x.1<=cols.length/\st x.2=none}) (λi=>((((((St.nil 35 (upd st i.1.2 (some (.tok 3)))).var 2 80 ((Ex.mk k n v of).z)).pv 5 (.own i.1.2 (((cols.take i.1.1).map bW).map I1))).pv 10 (.seq (cols.map Co.z))).pv 11 (vi ((cols.map Co.z).length:Nat))).pv 12 (vi (i.1.1:Nat)))) (λi=>cols.length-i.1.1) ⟨(0,id),by simp,a⟩ ?_ λi=>?_;rotate_left;obtain⟨⟨i,id⟩,hi,a⟩:=i;simp only at hi a;dsimp only;by_cases d:cols.length<=i;rw[ztl d];by_cases h0:T2=0<;>by_cases p:q=2;rw[zp h0,zp p]at c;subst c;rotate_left;rw[zp h0,zn p]at c;subst c;subst h0;rotate_left;rw[zn h0]at c;subst c;rotate_left;rw[zn h0]at c;subst c;rotate_left;have j:i<cols.length:=by omega
 have hs:=aAB cols[i];have g:((cols.take (i+1)).map bW).map I1=((cols.take i).map bW).map I1++[I1 (bW cols[i])]:=by rw[zts j,zmd,zmd];rfl
 have r:((cols.take i).map bW).length<=i:=by rw[zql];exact List.length_take_le ..
 generalize bW cols[i]=K at*
 all_goals (repeat' first|refine⟨⟨(i+1,o),by simp only;omega,gM f⟩,?_,?_⟩;dsimp only;rw[g]|exact Cn.any (aM ‹_›)|apply cV;focus((apply hT);done)|refine Cn.any ?_;refine⟨_,_,_,rfl,zwr _,eE ‹_›,?_,rfl⟩;rfl|apply wZ;rfl|exact Cn.t0|show Cn _;constructor|apply wY;rfl|omega|simp<;>omega|intro h;simp at h;omega|intro h;simp at h|intro h|exact rfl|apply hs|show _=_;simp[I1];done|apply apS pk (K) 8;(iterate 8 rfl);exact aA _ _ _;exactλ_=>rfl;exactλ_=>rfl;exact mJ;omega;omega;rfl;intro o f|apply wI;rfl|apply gE;omega)
end X
theorem auX(s:Sc)(hl:s.length<200000000000000)(A:∀t∈s,TbB t)(hT:∀t∈s,tH t)(hc:∀t∈s,t.o.length<10000000000):qf 61 [.agg (scC s)] (vi (rightC s)):=by
 have z:=acL s hl A;by_cases h0:¬bY s=0;have e:rightC s=bY s:=by unfold rightC;rw[zn h0]
 rw[e];generalize bY s=R at*;refine pF Tryz.func61 rfl λst=>?_;rotate_left
 replace h0:=zdn h0
 have e:rightC s=dH rightX s:=by unfold rightC;rw[zp h0]
 rw[e];rw[h0]at z;clear e h0;refine pF Tryz.func61 rfl λst=>?_
 focus(repeat' first|apply wZ;rfl|constructor|apply z|apply wY;rfl)
 refine aC (X:={x:Nat//x<=s.length/\∀j (h:j<s.length),j<x->rightX s[j]=0}) (λi=>((((St.nil 37 st).pv 15 (.seq (s.map Tb.z))).pv 16 (vi ((s.map Tb.z).length:Nat))).pv 17 (vi (i.1:Nat)))) (λi=>s.length-i.1) ⟨0,by omega,by omega⟩ ?_ λi=>?_;rotate_left;have⟨i,hi,o⟩:=i;dsimp only;by_cases B:s.length<=i;have e:dH rightX s=0:=fV λj hj=>o j hj (by omega);rotate_left;have a:i<s.length:=by omega
 have hk:=hT _ (zgm a);have r:=hc _ (zgm a);have E:=(A _ (zgm a)).k;have e:=lG o a;have hu:=lF o a
 focus(repeat' first|apply wZ;rfl|constructor|apply wI;rfl|apply gE;omega|simp<;>omega|intro h;simp at h)
 refine aC (X:={x:Nat//x<=s[i].h.length/\∀j (h:j<s[i].h.length),j<x->X.RightR (exOf s[i].h[j]) (s[i].o.map bW)=0}) (λy=>((((((((St.nil 37 st).var 5 77 (s[i].z)).pv 15 (.seq (s.map Tb.z))).pv 16 (vi ((s.map Tb.z).length:Nat))).pv 17 (vi (i:Nat))).pv 22 (.seq s[i].h)).pv 23 (vi (s[i].h.length:Nat))).pv 24 (vi (y.1:Nat)))) (λy=>s[i].h.length-y.1) ⟨0,by omega,by omega⟩ ?_ λy=>?_;rotate_left;have⟨y,hy,g⟩:=y;dsimp only;by_cases v:s[i].h.length<=y;have C:rightX s[i]=0:=fV λj hj=>g j hj (by omega);rotate_left;have d:y<s[i].h.length:=by omega
 have⟨w,q⟩:=zR (hk _ (zgm d));have u:=lG (f:=λc=>X.RightR (exOf c) (s[i].o.map bW)) g d;have n:=lF (f:=λc=>X.RightR (exOf c) (s[i].o.map bW)) g d;change X.RightR (exOf s[i].h[y]) (s[i].o.map bW)≠0->rightX s[i]=X.RightR (exOf s[i].h[y]) (s[i].o.map bW)at u;change X.RightR (exOf s[i].h[y]) (s[i].o.map bW)=0->_ at n;have D:=X.Right_spec w s[i].o r;have m:s[i].h[y]?=some (exOf s[i].h[y]).z:=by rw[q,zgg d]
 generalize X.RightR (exOf s[i].h[y]) (s[i].o.map bW)=p at*;generalize exOf s[i].h[y]=x at*;have⟨F,G,I,H⟩:=x;by_cases hp:p=0;rotate_left;have l:dH rightX s=p:=by rw[e (by rw[u hp];exact hp),u hp]
 all_goals (repeat' first|refine⟨⟨y+1,by omega,n hp⟩,?_,?_⟩|refine⟨⟨i+1,by omega,hu C⟩,?_,?_⟩|apply wZ;rfl|omega|constructor|apply cR pk;(iterate 6 rfl);rotate_left;rfl;intro hw;rfl;(intro hw;apply m<;>omega);intro _;rfl;rfl|apply D|show(_:PV)=_;rw[l];done|show(_:PV)=_;rw[e];done|simp<;>omega|intro h;simp at h|apply z|apply wY;rfl|intro h)
end Go.Proofs.YtigmnfepdlbcpaaGreatDoor
namespace Go.Proofs.YtigmnfepdlbcpaaGreatDoor
open Go Go.Abs Tryz
attribute [local irreducible] Ev PWp
variable{o xs:List Vl}{a i id:Nat}
def dU(xs:List Vl)(i:Nat)(a:List Vl):List Vl:=xs.take i++a++xs.drop i
theorem avM(xs:List Vl)(i:Nat)(a:List Vl):(dU xs i a).map Vl.z=(xs.map Vl.z).take i++a.map Vl.z++(xs.map Vl.z).drop i:=by
 unfold dU;simp
theorem adQ{a:List Vl}(hi:i<=xs.length):(dU xs i a).length=xs.length+a.length:=by
 unfold dU
 grind
def aM2(st:aD)(id:Nat)(zs:List Vl)(r:PV)(S:aD):Prop:=∃a,r= .vec a 3 0 zs.length/\upd st id none a=none/\S=upd (upd st id none) a (some (.arr 46 (zs.map Vl.z)))
theorem atS(xs g:List Vl)(i id n:Nat)(st:aD)(O:st id=some (.arr 46 (xs.map Vl.z)))(hn:xs.length=n)(hi:i<=n)(hy:g≠[])(hl:n+g.length<1000000000000):qc 385 [.vec id 3 0 n,vi (i:Nat), .seq (g.map Vl.z)] st (aM2 st id (dU xs i g)):=by
 obtain⟨m,hm⟩:∃m,g.length=m:=⟨_,rfl⟩;have u:(g.map Vl.z).length=m:=(zql _).trans hm;have V:0<m:=by rw[<-hm];exact List.length_pos_iff.2 hy
 rw[hm]at hl;have x:(dU xs i g).length=n+m:=by rw[adQ (by omega),hn,hm]
 have G:=avM xs i g;have R:=arH;refine pC func385 rfl ?_;by_cases N:i=n;subst N;have hz:dU xs i g=xs++g:=by unfold dU;rw[ztl (by omega),List.drop_of_length_le (by omega),List.append_nil]
 rotate_left;have U:i<n:=by omega
 have s:(xs.map Vl.z).length=n:=(zql _).trans hn;have y:∀r∈xs.map Vl.z,r.all PV.one=true:=λr q=>by obtain⟨a,_,rfl⟩:=zmq.1 q;rfl
 have A:∀r∈xs.map Vl.z,r.length=3:=λr q=>by obtain⟨a,_,rfl⟩:=zmq.1 q;rfl
 have C:∀r∈g.map Vl.z,r.all PV.one=true:=λr q=>by obtain⟨a,_,rfl⟩:=zmq.1 q;rfl
 have p:∀r∈g.map Vl.z,r.length=3:=λr q=>by obtain⟨a,_,rfl⟩:=zmq.1 q;rfl
 have hj:∀k,(xs.map Vl.z++aX k 3).length=n+k:=λk=>by rw[zla,s];unfold aX;rw[List.length_replicate]
 generalize S:xs.map Vl.z=X at*;generalize T:g.map Vl.z=Y at*;have J:Y≠[]:=λe=>by rw[e]at u;simp at u;omega
 obtain⟨yc,Z,yr,I⟩:∃c cs H,Y=(c::cs)::H:=by
  cases B:Y with
  |nil=>exact absurd B J
  |cons a b=>
   cases ha:a with
   |nil=>have:=p a (by rw[B];simp);rw[ha]at this;cases this
   |cons c cs=>exact⟨c,cs,b,rfl⟩
 refine yF 0 m (id:=id) (rows:=X) rfl O vI s (by omega) (by omega) (λk o hk d=>?_) λo d=>?_;have d:st o=none:=d;have P:(X++aX k 3).take i=X.take i:=List.take_append_of_le_length (by omega);have M:(X.take i++aX (n+m-i) 3).length=n+m:=by rw[zla,zlt];unfold aX;rw[List.length_replicate];omega
 have L:(aU (X.take i++aX (n+m-i) 3) i Y).length=n+m:=by rw[dX (by omega),M]
 have v:aU (aU (X.take i++aX (n+m-i) 3) i Y) (i+m) (X.drop i)=(dU xs i g).map Vl.z:=by rw[G];rw[<-s];exact yT u (by omega)
 rotate_left;have d:st o=none:=d;have L:(aU (X++aX m 3) (i+m) (X.drop i)).length=n+m:=by rw[dX (by rw[zld,hj];omega),hj]
 have v:aU (aU (X++aX m 3) (i+m) (X.drop i)) i Y=(dU xs i g).map Vl.z:=by rw[G];exact zQ u (by omega)
 all_goals (repeat' first|refine Cn.any ⟨_,_,upd (upd st id none) o (some (.arr 46 ((dU xs i g).map Vl.z))),rfl,zwr _,qX (by rw[v]),o,(by rw[x]),lX d,rfl⟩|refine Cn.any ⟨_,_,upd (upd st id none) id2 (some (.arr 46 ((dU xs i g).map Vl.z))),rfl,zwr _,qY (by rw[v]) d,id2,(by rw[x];congr 1;omega),oS l,rfl⟩|apply wD pk [8] [];kernel_rfl;rfl;rfl|refine Cn.rr ?_;exact⟨Q,(by rw[x,hm]),lX F,(by rw[hz];rfl)⟩;done|apply wZ;rfl|omega|constructor|refine asB pk (rows:=X++aX k 3) rfl rfl rfl rfl (.inr (aA _ _ _)) (by rw[hj];omega) rfl λc D E=>?_;have K:=E (aA _ _ _);rw[hj]at K|apply adK pk (j:=i) (rows:=X++aX k 3);(iterate 4 rfl);rotate_left;rfl;rfl;exact .inr (aA _ _ _);rw[hj];omega;exact bC rfl rfl;rw[hj];omega|refine apZ pk (kq:= .i64) (kn:= .i64) (i:=i) (m:=n+m-i) (sz:=3) (rows:=X++aX k 3) 32 rfl (congrArg (λz=>some (PV.val (.int .i64 z))) (show _=((n+m-i:Nat):Int)from by omega)) rfl (by kernel_rfl) rfl rfl rfl rfl (aA _ _ _) (by rw[hj];omega) (by rw[hj];omega) (by rw[hj];omega) R (by omega) (by omega) (by omega) rfl λid2 l=>?_;rw[P];have W:o≠id2:=(λe=>by rw[<-e]at l;have l:=(aA _ _ _).symm.trans l;cases l)|apply mL pk (i) (n+m-i);(iterate 4 rfl);rotate_left;rfl;intro _;exact⟨_,bC rfl rfl,by omega⟩;intro _;exact⟨_,bZ,by omega⟩;intro _;omega;intro _;omega;rfl|apply mL pk (i+m) (n-i);(iterate 4 rfl);rotate_left;rfl;intro _;exact⟨_,bC rfl (show _=((i+m:Nat):Int)from by omega),by omega⟩;intro _;exact⟨_,bZ,by omega⟩;intro _;omega;intro _;omega;rfl|apply mL pk (i) (n-i);(iterate 4 rfl);rotate_left;rfl;intro _;exact⟨_,bC rfl rfl,by omega⟩;intro _;exact⟨_,bZ,by omega⟩;intro _;omega;intro _;omega;rfl|refine asB pk (rows:=X++aX m 3) rfl rfl rfl rfl (.inl (aA _ _ _)) (by rw[hj];omega) rfl λc D E=>?_;rw[hj]at D|apply adK pk (j:=n+m) (rows:=X++aX m 3);(iterate 4 rfl);rotate_left;rfl;rfl;exact .inl (aA _ _ _);rw[hj];omega;exact bC rfl (show _=((n+m:Nat):Int)from by omega);rw[hj];omega|refine ovA pk (w:=true) (tS:=48) (tR:=4) (off:=i+m) (len:=n-i) (e:=46) (sz:=3) (rows:=X++aX m 3) rfl rfl func410 (by kernel_rfl) (by kernel_rfl) (by kernel_rfl) (by kernel_rfl) rfl rfl rfl I rfl (.inl (aA _ _ _)) (by rw[hj];omega) vI (by omega) ?_ rfl rfl ?_;rotate_left|refine mO pk (e:=46) (sz:=3) (rows:=X++aX m 3) (new:=X.drop i) (m:=n+m-i) (n:=n-i) (len:=n-i) rfl rfl rfl rfl rfl (aA _ _ _) (by rw[hj];omega) (oR (k:=m) rfl (.inl (aA _ _ _)) s (by omega) vI y (by omega) (by omega)) (by rw[zld];omega) (λr q=>A r (List.mem_of_mem_drop q)) (by omega) (by omega) rfl ?_|refine mO pk (e:=46) (sz:=3) (rows:=aU (X++aX m 3) (i+m) (X.drop i)) (new:=Y) (m:=Y.length) (n:=Y.length) (len:=n+m-i) rfl rfl rfl rfl rfl (aA _ _ _) (by omega) (uP aT rfl rfl rfl p C) rfl p (by omega) (by omega) rfl ?_|refine mO pk (e:=46) (sz:=3) (rows:=X.take i++aX (n+m-i) 3) (new:=Y) (m:=Y.length) (n:=Y.length) (len:=n+m-i) rfl rfl rfl rfl rfl (aA _ _ _) (by omega) (uP aT rfl rfl rfl p C) rfl p (by omega) (by omega) rfl ?_|refine mO pk (e:=46) (sz:=3) (rows:=aU (X.take i++aX (n+m-i) 3) i Y) (new:=X.drop i) (m:=n-i) (n:=n-i) (len:=n-i) rfl rfl rfl rfl rfl (aA _ _ _) (by omega) (oR (k:=k) rfl (.inr ((aB ‹_›).trans ((aB ‹_›).trans (aA _ _ _)))) s (by omega) vI y (by omega) (by omega)) (by rw[zld];omega) (λr q=>A r (List.mem_of_mem_drop q)) (by omega) (by omega) rfl ?_|apply apV pk (f:=Vl.z) g 32;(iterate 9 rfl);(assumption);omega;exactλ_=>rfl;exactλ_=>rfl;exact R;omega;omega;rfl;intro Q F|apply aCq pk i i;(iterate 4 rfl);rotate_left;rfl;intro _;exact bC rfl rfl;intro _;exact bZ;intro _;omega;intro _;omega;rfl|intro h;simp at h|intro h)
def dF(a b:Vl):Bool:=if a.k≠b.k then decide (a.k<b.k)else if a.n≠b.n then decide (a.n<b.n)else Op.bytesLess a.s.toList b.s.toList
def zA(a b:Vl):Bool:= !dF a b&& !dF b a
theorem wV(a b:Vl):qf 383 [.agg a.z, .agg b.z] (vb (dF a b)):=by
 unfold dF;refine pF func383 rfl λst=>?_
 repeat' first|apply wZ;rfl|constructor|show(_:PV)=_;simp[*];done;done|intro h
theorem azX(a b:Vl):qf 384 [.agg a.z, .agg b.z] (vb (zA a b)):=by
 have c:=wV a b;have d:=wV b a;unfold zA;refine pF func384 rfl λst=>?_
 repeat' first|apply wZ;rfl|constructor|(first|apply c|apply d)|apply wY;rfl
def atV(o:List Vl)(v:Vl):Nat:=(o.findIdx? λx=> !dF x v).getD o.length
def aeJ(o:List Vl)(v:Vl):List Vl:=if atV o v<o.length/\zA o[atV o v]! v=true then o else dU o (atV o v) [v]
def gR(l:List Pt):List Vl:=l.foldl (λo p=>aeJ o p.val) []
theorem aHr(o:List Vl)(v:Vl):atV o v<=o.length:=by
 unfold atV;cases h:o.findIdx? _ with
 |none=>simp
 |some k=>exact Nat.le_of_lt (zfi.1 h).1
theorem aFS{v:Vl}(ha:a<=o.length)(c:∀j (h:j<o.length),j<a->dF o[j] v=true)(d:∀h:a<o.length,dF o[a] v=false):atV o v=a:=by
 unfold atV;rcases Nat.lt_or_ge a _ with h|h
 ·rw[zfi.2 ⟨h,by grind,λj hj=>by grind⟩];rfl
 ·rw[List.findIdx?_eq_none_iff.2 λx hx=>by
   obtain⟨j,hj,rfl⟩:=zgo hx
   grind]
  grind
theorem aH5(o:List Vl)(v:Vl):(aeJ o v).length<=o.length+1:=by
 unfold aeJ;split
 ·omega
 ·rw[adQ (aHr o v)];simp
theorem apT{l:List Pt}(h:i<l.length):gR (l.take (i+1))=aeJ (gR (l.take i)) l[i].val:=by
 unfold gR;rw[zts h,List.foldl_append];rfl
theorem awY(l:List Pt):(gR l).length<=l.length:=by
 have key:∀i,i<=l.length->(gR (l.take i)).length<=i:=by
  intro i
  induction i with
  |zero=>simp[gR]
  |succ i ih=>
   intro h;rw[apT ‹_›];have:=aH5 (gR (l.take i)) l[i].val;omega
 have:=key _ (znr _)
 grind
theorem aJk(c:Cl)(hl:c.p.length<1000000000)(st:aD):qc 318 [.agg c.z] st λr S=>∃id,r= .vec id 3 0 (gR c.p).length/\st id=none/\S=upd st id (some (.arr 46 ((gR c.p).map Vl.z))):=by
 refine pC func318 rfl ?_
 focus(repeat' first|apply wZ;rfl|constructor)
 refine cL 3 46 3 rfl rfl rfl λid k=>?_;refine aC (X:={x:Nat×Nat×List Vl//x.1<=c.p.length/\st x.2.1=none/\x.2.2=gR (c.p.take x.1)}) (λi=>(((((St.nil 51 (upd st i.1.2.1 (some (.arr 46 (i.1.2.2.map Vl.z))))).pv 3 (.vec i.1.2.1 3 0 i.1.2.2.length)).pv 8 (.seq (c.p.map Pt.z))).pv 9 (vi ((c.p.map Pt.z).length:Nat))).pv 10 (vi (i.1.1:Nat)))) (λi=>c.p.length-i.1.1) ⟨(0,id,[]),by simp,k,rfl⟩ ?_ λi=>?_
 ·dsimp only
  repeat' first|exact Cn.t0|constructor
 obtain⟨⟨i,id,o⟩,hi,k,ho⟩:=i;simp only at hi k ho;dsimp only;have E:o.length<=i:=by rw[ho];have:=awY (c.p.take i);rw[zlt]at this;omega
 by_cases n:c.p.length<=i;have e:o=gR c.p:=by rw[ho,ztl n]
 subst e
 focus(repeat' first|refine Cn.rr ?_;exact⟨id,rfl,k,rfl⟩;done|apply wZ;rfl|constructor|simp<;>omega|intro h;simp at h)
 have B:i<c.p.length:=by omega
 have hu:=apT B;rw[<-ho]at hu
 focus(repeat' first|apply wZ;rfl|constructor|apply wI;rfl|apply gE;omega|simp<;>omega|intro h;simp at h)
 refine aC (X:={x:Nat//x<=o.length/\∀j (h:j<o.length),j<x->dF o[j] c.p[i].val=true}) (λy=>(((((((St.nil 51 (upd st id (some (.arr 46 (o.map Vl.z))))).pv 3 (.vec id 3 0 o.length)).var 5 154 (c.p[i].z)).pv 6 (vi (y.1:Nat))).pv 8 (.seq (c.p.map Pt.z))).pv 9 (vi ((c.p.map Pt.z).length:Nat))).pv 10 (vi (i:Nat)))) (λy=>o.length-y.1) ⟨0,by omega,by omega⟩ ?_ λy=>?_
 ·repeat' first|exact Cn.t0|constructor
 have⟨a,ha,w⟩:=y;dsimp only;by_cases l:a<o.length;have p:o.toArray[a]! =o[a]:=by rw[getElem!_pos o.toArray a (by simpa using l)];simp
 have d:=wV o.toArray[a]! c.p[i].val;have g:=azX o.toArray[a]! c.p[i].val;have D:dF o[a] c.p[i].val=true->∀j (h:j<o.length),j<a+1->dF o[j] c.p[i].val=true:=λh j hj C=>by
  rcases zls.1 C with q|q
  ·exact w j hj q
  ·subst q;exact h
 have A:=λh:dF o[a] c.p[i].val=false=>aFS (v:=c.p[i].val) ha w λ_=>h;have f:aeJ o c.p[i].val=if atV o c.p[i].val<o.length/\zA o[atV o c.p[i].val]! c.p[i].val=true then o else dU o (atV o c.p[i].val) [c.p[i].val]:=rfl
 cases s:dF o[a] c.p[i].val with
 |true=>
  rw[show dF o.toArray[a]! c.p[i].val=true from by rw[p];exact s]at d;have z:=D s
  (repeat' first|apply wDx pk;rfl;kernel_rfl;rfl;rfl|apply Cn.cf;focus((apply d);done)|refine⟨⟨a+1,by omega,z⟩,?_,?_⟩|exact Cn.t0|apply wZ;rfl|omega|constructor|apply ixA pk;(iterate 5 rfl);rotate_left;rfl;intro hw;exact(show _=((a:Nat):Int)from by omega);intro hw;omega;rfl;exact Nat.zero_add _|apply ldA pk Vl.elem;rfl;rfl;rotate_left;rfl;exact aA _ _ _;intro hw;omega;rfl|apply wY;rfl|simp<;>omega|intro h;simp at h;omega|intro h;simp at h)
 |false=>
  rw[show dF o.toArray[a]! c.p[i].val=false from by rw[p];exact s]at d;rw[A s,zep o a l]at f;cases u:zA o[a] c.p[i].val with
  |true=>
   rw[show zA o.toArray[a]! c.p[i].val=true from by rw[p];exact u]at g;rw[u]at f;rw[zp ⟨l,rfl⟩]at f;rw[f]at hu;have m:o=gR (c.p.take (i+1)):=hu.symm
   (repeat' first|apply wDx pk;rfl;kernel_rfl;rfl;rfl|apply Cn.cf;focus(((first|apply d|apply g));done)|refine⟨⟨(i+1,id,o),by simp only;omega,k,m⟩,?_,?_⟩|exact Cn.t0|apply wZ;rfl|omega|constructor|apply ixA pk;(iterate 5 rfl);rotate_left;rfl;intro hw;exact(show _=((a:Nat):Int)from by omega);intro hw;omega;rfl;exact Nat.zero_add _|apply ldA pk Vl.elem;rfl;rfl;rotate_left;rfl;exact aA _ _ _;intro hw;omega;rfl|apply wY;rfl|simp<;>omega|intro h;simp at h;done|intro h;simp at h;omega|intro h;simp at h)
  |false=>
   rw[show zA o.toArray[a]! c.p[i].val=false from by rw[p];exact u]at g;rw[u]at f;rw[zn (by simp)]at f;rw[f]at hu;have m:dU o a [c.p[i].val]=gR (c.p.take (i+1)):=hu.symm
   repeat' first|apply wDx pk;rfl;kernel_rfl;rfl;rfl|apply Cn.cf;focus(((first|apply d|apply g));done)|apply cP;rfl;apply(atS o [c.p[i].val] a id o.length _ (aA _ _ _) rfl (by omega) (by simp) (by simp;omega));rintro _ st' (⟨id2,rfl,hid2,rfl⟩)|refine⟨⟨(i+1,id2,dU o a [c.p[i].val]),by simp only;omega,fA k hid2,m⟩,?_,?_⟩|exact Cn.any (aM ‹_›)|apply wZ;rfl|omega|constructor|apply ixA pk;(iterate 5 rfl);rotate_left;rfl;intro hw;exact(show _=((a:Nat):Int)from by omega);intro hw;omega;rfl;exact Nat.zero_add _|apply ldA pk Vl.elem;rfl;rfl;rotate_left;rfl;exact aA _ _ _;intro hw;omega;rfl|apply wY;rfl|simp<;>omega|intro h;simp at h;done|intro h;simp at h
 have f:aeJ o c.p[i].val=dU o a [c.p[i].val]:=by
  unfold aeJ;rw[aFS (v:=c.p[i].val) ha w λh=>absurd h l,zn (by simp[l])]
 rw[f]at hu;have m:dU o a [c.p[i].val]=gR (c.p.take (i+1)):=hu.symm;obtain rfl:a=o.length:=by omega
 repeat' first|apply wDx pk;rfl;kernel_rfl;rfl;rfl|apply cW;focus(intro _;apply(show qf 383 [_,_] (vb false)from by rename_i hh;simp[gw]at hh);done)|apply cW;focus(intro _;apply(show qf 384 [_,_] (vb false)from by rename_i hh;simp[gw]at hh);done)|apply cP;rfl;apply(atS o [c.p[i].val] o.length id o.length _ (aA _ _ _) rfl (by omega) (by simp) (by simp;omega));rintro _ st' (⟨id2,rfl,hid2,rfl⟩)|refine⟨⟨(i+1,id2,dU o o.length [c.p[i].val]),by simp only;omega,fA k hid2,m⟩,?_,?_⟩|exact Cn.any (aM ‹_›)|apply wZ;rfl|omega|constructor|apply ixA pk;(iterate 5 rfl);rotate_left;rfl;intro hw;exact(show _=((o.length:Nat):Int)from by omega);intro hw;(focus(simp[gw]at hw;done));rfl;exact Nat.zero_add _|apply ldA pk Vl.elem;rfl;rfl;rotate_left;rfl;exact aA _ _ _;intro hw;(focus(simp[gw]at hw;done));rfl|apply wY;rfl|simp<;>omega|intro h;simp at h;done|intro h;simp at h
def dN(xs:Array Int):Nat->Nat
 |0=>0
 |1=>0
 |i+2=>dN xs (i+1)+if xs[i+1]! =xs[i]! then 0 else 1
theorem adN(xs:Array Int){k:Nat}(h:1<=k):dN xs (k+1)=dN xs k+if xs[k]! =xs[k-1]! then 0 else 1:=by
 obtain⟨i,rfl⟩:∃i,k=i+1:=⟨k-1,by omega⟩;rfl
theorem aCp(xs:Array Int)(k:Nat):∀y,1<=k->dN xs (k+y)<=dN xs k+y
 |0,_=>znr _
 |y+1,h=>by
  have:=aCp xs k y h
  rw[show k+(y+1)=k+y+1 from rfl,adN _ (by omega)]
  grind
def aeK(xs:Array Int):Nat:=if xs.size<2 then xs.size else 1+dN xs xs.size
theorem azS(xs:Array Int){st:aD}{n:Nat}(o:st id=some (.arr 3 (xs.toList.map I1)))(hn:xs.size=n)(D:n<1000000000000):
  qc 36 [.vec id 1 0 n] st λr S=>r= .vec id 1 0 (aeK xs)/\∃rows,S=upd st id (some (.arr 3 rows)):=by
 by_cases p:n<2
 ·have e:aeK xs=n:=by unfold aeK;rw[zp (by omega),hn]
  rw[e];refine pC func36 rfl ?_
  repeat' first|refine Cn.rr ?_;exact⟨rfl,_,(mT o).symm⟩;done|apply wZ;rfl|omega|constructor|intro h
 have e:aeK xs=1+dN xs n:=by unfold aeK;rw[zn (by omega),hn]
 rw[e]
 refine pC func36 rfl ?_
 focus(repeat' first|apply wZ;rfl|omega|constructor|intro h;simp at h)
 refine aC (X:={x:Nat//1<=x/\x<=n/\dN xs x+1=x}) (λi=>(((St.nil 61 (st)).pv 0 (.vec id 1 0 n)).pv 3 (vi (i.1:Nat)))) (λi=>n-i.1) ⟨1,by omega,by omega,rfl⟩ ?_ λi=>?_
 ·repeat' first|exact Cn.t0|constructor
 have⟨k,u,E,F⟩:=i
 dsimp only
 by_cases A:n<=k
 ·obtain rfl:k=n:=by omega
  have B:1+dN xs k=k:=by omega
  rw[B]
  repeat' first|refine Cn.rr ?_;exact⟨rfl,_,(mT o).symm⟩;done|apply wZ;rfl|omega|constructor|intro h;simp at h
 have G:k<n:=by omega
 have hu:=adN xs u
 by_cases hd:¬xs[k]! =xs[k-1]!
 ·rw[zn hd]at hu
  have v:dN xs (k+1)+1=k+1:=by omega
  repeat' first|apply wDx pk;rfl;kernel_rfl;rfl;rfl|refine⟨⟨k+1,by omega,by omega,v⟩,?_,?_⟩|exact Cn.t0|apply wZ;rfl|omega|constructor|apply ixA pk;(iterate 5 rfl);rotate_left;rfl;intro hw;(first|exact(show _=((k:Nat):Int)from by omega)|exact(show _=((k-1:Nat):Int)from by omega));intro hw;omega;rfl;exact Nat.zero_add _|apply ldA pk I1.elem;rfl;rfl;rotate_left;rfl;(assumption);intro hw;omega;rfl|simp<;>omega|intro h;simp at h|intro h
 replace hd:=zdn hd
 rw[zp hd]at hu
 focus(repeat' first|apply wDx pk;rfl;kernel_rfl;rfl;rfl|apply wZ;rfl|omega|constructor|apply ixA pk;(iterate 5 rfl);rotate_left;rfl;intro hw;(first|exact(show _=((k:Nat):Int)from by omega)|exact(show _=((k-1:Nat):Int)from by omega));intro hw;omega;rfl;exact Nat.zero_add _|apply ldA pk I1.elem;rfl;rfl;rotate_left;rfl;(assumption);intro hw;omega;rfl|apply mL pk k (n-k);(iterate 4 rfl);rotate_left;rfl;intro _;exact⟨_,bC rfl rfl,by omega⟩;intro _;exact⟨_,bZ,by omega⟩;intro _;omega;intro _;omega;rfl|intro h;simp at h|intro h)
 refine aC (X:={x:Nat×Array Int//1<=x.1/\x.1<=n-k/\x.2.size=n/\∀j,k+x.1<=j+1->j<n->x.2[j]! =xs[j]!}) (λy=>(((((St.nil 61 (upd st id (some (.arr 3 (y.1.2.toList.map I1))))).pv 0 (.vec id 1 0 n)).pv 3 (vi ((1+dN xs (k+y.1.1):Nat):Int))).pv 4 (.vec id 1 k (n-k))).pv 5 (vi (y.1.1:Nat)))) (λy=>n-y.1.1) ⟨(1,xs),by omega,by omega,hn,λ_ _ _=>rfl⟩ ?_ λy=>?_
 ·dsimp only
  repeat' first|exact Cn.any (cZ (by(exact mT ‹_›)))|constructor|congr 2;omega
 obtain⟨⟨y,c⟩,w,z,a,hy⟩:=y
 simp only at w z a hy
 dsimp only
 have g:=aCp xs (k+1) (y-1) (by omega)
 rw[show k+1+(y-1)=k+y by omega]at g
 by_cases s:n-k<=y
 ·obtain rfl:y=n-k:=by omega
  rw[show k+(n-k)=n by omega]at g⊢;have H:(c.toList.map I1).length=n:=by rw[zql,Array.length_toList,a]
  repeat' first|refine Cn.rr ?_;exact⟨rfl,_,eX _ _ _ _⟩;done|apply wZ;rfl|omega|constructor|apply mL pk (1+dN xs n) (n-(1+dN xs n));(iterate 4 rfl);rotate_left;rfl;intro _;exact⟨_,bC rfl rfl,by omega⟩;intro _;exact⟨_,bZ,by omega⟩;intro _;omega;intro _;omega;rfl|refine aGF pk (id:=id) (off:=1+dN xs n) (len:=n-(1+dN xs n)) (rows:=c.toList.map I1) rfl rfl rfl rfl rfl rfl rfl rfl (aA _ _ _) (by omega) (by omega) (by omega) rfl ?_|apply aHk pk (1+dN xs n);(iterate 4 rfl);rotate_left;rfl;intro _;exact bC rfl rfl;intro _;omega;intro _;omega;rfl|intro h;simp at h
 have l:=hy (k+y) (by omega) (by omega)
 have m:=hy (k+(y-1)) (by omega) (by omega)
 have d:=adN xs (show 1<=k+y by omega)
 rw[show k+y-1=k+(y-1) by omega,show k+y+1=k+(y+1)from rfl]at d
 by_cases q:xs[k+y]! =xs[k+(y-1)]!
 ·rw[zp q]at d
  have f:∀j,k+(y+1)<=j+1->j<n->c[j]! =xs[j]!:=λj C p=>hy j (by omega) p;rw[<-l,<-m]at q
  repeat' first|apply wDx pk;rfl;kernel_rfl;rfl;rfl|refine⟨⟨(y+1,c),by simp only;omega,by simp only;omega,a,f⟩,?_,?_⟩;dsimp only|exact Cn.t0|apply wZ;rfl|omega|constructor|show _=_;(congr 2;omega)|apply ixA pk;(iterate 5 rfl);rotate_left;rfl;intro hw;(first|exact(show _=((y:Nat):Int)from by omega)|exact(show _=((y-1:Nat):Int)from by omega));intro hw;omega;rfl;rfl|apply ldA pk I1.elem;rfl;rfl;rotate_left;rfl;exact aA _ _ _;intro hw;omega;rfl|simp<;>omega|intro h;simp at h|intro h
 ·rw[zn q]at d
  have f:∀j,k+(y+1)<=j+1->j<n->(c.setIfInBounds (1+dN xs (k+y)) c[k+y]!)[j]! =xs[j]!:=λj C p=>by
   rw[getElem!_pos _ j (by rw[zqs];omega),Array.getElem_setIfInBounds_ne (by omega) (by omega),<-getElem!_pos c j (by omega)]
   exact hy j (by omega) p
  rw[<-l,<-m]at q
  repeat' first|apply wDx pk;rfl;kernel_rfl;rfl;rfl|refine⟨⟨(y+1,c.setIfInBounds (1+dN xs (k+y)) c[k+y]!),by simp only;omega,by simp only;omega,by rw[zqs];exact a,f⟩,?_,?_⟩;dsimp only|exact Cn.any (cZ (by((simp only[St.pv,St.put,St.sst,St.setv,St.nil,St.var,eX]);(done))))|apply wZ;rfl|omega|constructor|show _=_;(congr 2;omega)|apply ixA pk;(iterate 5 rfl);rotate_left;rfl;intro hw;(first|exact(show _=((y:Nat):Int)from by omega)|exact(show _=((y-1:Nat):Int)from by omega)|exact(show _=((1+dN xs (k+y):Nat):Int)from by omega));intro hw;omega;rfl;(first|exact Nat.zero_add _|exact rfl)|apply ldA pk I1.elem;rfl;rfl;rotate_left;rfl;exact aA _ _ _;intro hw;omega;rfl|apply stA pk I1.elem;rfl;rfl;rfl;exact aA _ _ _;omega;rfl|simp<;>omega|intro h;simp at h|intro h
end Go.Proofs.YtigmnfepdlbcpaaGreatDoor
namespace Go.Proofs.YtigmnfepdlbcpaaGreatDoor.T
open Go Go.Abs Tryz
attribute [local irreducible] Ev PWp
variable{a i id:Nat}
def tT :List Pt->List Int->List Int
 |[],acc=>acc
 |p::r,acc=>tT r (if p.gone=false/\acc.length<200 then acc++[p.val.n]else acc)
def showP(c:Cl):Vl:=if rightP c=0 then⟨2,0,kF (tT c.p [])⟩else Vl.zero
theorem adY{l:List Pt}(h:i<l.length)(acc:List Int):tT (l.drop i) acc=tT (l.drop (i+1)) (if l[i].gone=false/\acc.length<200 then acc++[l[i].val.n]else acc):=by
 rw[List.drop_eq_getElem_cons h];rfl
theorem aME :Tryz.prog.bytesOf 5=1:=rfl
theorem gJ{c:Cl}(h:rightP c=0):c.k=4/\c.val=Vl.zero/\Whole c.p/\c.p.length<=2000/\cM c.p=c.p:=by
 unfold rightP at h;split at h
 ·cases h
 ·split at h
  ·cases h
  ·split at h
   ·cases h
   ·split at h
    ·cases h
    ·rename_i d a e h4
     simp at d a h4;exact⟨d,a.1,(eR _).1 a.2,by omega,h4⟩
theorem awI{p:Pt}(h:bP p=true):0<=p.val.n/\p.val.n<=255:=by
 simp only[bP,withinB,zde]at h
 grind
theorem gM{st:aD}{o:AObj}(h:upd st id (some o) a=none):st a=none:=by
 by_cases e:a=id
 ·rw[e,aA]at h;cases h
 ·rwa[aB e]at h
theorem show_spec(c:Cl)(hl:c.p.length<4611686018427387904):qf 238 [.agg c.z] (.agg (showP c).z):=by
 refine pF func238 rfl λst=>?_
 repeat' first|apply wZ;rfl|constructor|apply right_spec c hl|show(_:PV)=_;rw[showP,zn ‹_›];rfl;done|apply wY;rfl|intro h
 have h0:rightP c=0:=h;have hb:=λp (hp:p∈c.p)=>awI ((gJ h0).2.2.1.formed p hp);refine yQ 3 5 rfl rfl λid d=>?_;have d:st id=none:=d;refine aC (X:={x:Nat×List Int×Nat//x.1<=c.p.length/\st x.2.2=none/\x.2.1.length<=200/\tT (c.p.drop x.1) x.2.1=tT c.p []}) (λi=>((((((St.nil 36 (upd st i.1.2.2 (some (.tok 5)))).var 2 46 ([vi 0,vi 0,vs e0])).pv 3 (.own i.1.2.2 (i.1.2.1.map U8))).pv 11 (.seq (c.p.map Pt.z))).pv 12 (vi (c.p.length:Nat))).pv 13 (vi (i.1.1:Nat)))) (λi=>c.p.length-i.1.1) ⟨(0,[],id),by simp,d,by simp,rfl⟩ ?_ λi=>?_;rotate_left;obtain⟨⟨i,acc,id⟩,hi,d,ha,a⟩:=i;simp only at hi d ha a;dsimp only;have hs:=λh:i<c.p.length=>adY h acc;have f:=λh:i<c.p.length=>hb _ (zgm h)
 all_goals (repeat' first|refine Cn.any ?_;refine⟨_,_,_,rfl,zwr _,eE ‹_›,?_,rfl⟩;((rw[showP,zp h0,<-a,List.drop_eq_nil_of_le (by omega)];rfl);done)|((first|refine⟨⟨(i+1,acc++[(c.p[i]'‹_›).val.n],j),by simp only;omega,gM g,by simp only[zla,List.length_singleton];omega,by rw[<-a,hs ‹_›,zp ⟨h.1,by omega⟩]⟩,?_,by simp only;omega⟩|refine⟨⟨(i+1,acc,id),by simp only;omega,d,ha,by rw[<-a,hs ‹_›,zn λq=>by have:=h q.1;omega]⟩,?_,by simp only;omega⟩);focus((repeat' first|exact Cn.t0|exact Cn.any (aM ‹_›)|constructor);done))|apply wZ;rfl|exact Cn.t0|omega|constructor|apply cvA pk.htt;(iterate 5 rfl);(refine⟨?_,?_⟩<;>(first|exact(f ‹_›).1|have:=(f ‹_›).2;omega));rfl|apply aNw pk acc;(iterate 6 rfl);rotate_left;rfl;rfl|apply apS pk ((c.p[i]'‹_›).val.n) 1;(iterate 8 rfl);exact aA _ _ _;exactλ_=>rfl;exactλ_=>rfl;exact aME;omega;omega;rfl;intro j g|apply wI;rfl|apply gE;omega|intro h;simp at h|simp)
end Go.Proofs.YtigmnfepdlbcpaaGreatDoor.T
namespace Go.Proofs.YtigmnfepdlbcpaaGreatDoor
open Go Go.Abs Tryz
attribute [local irreducible] Ev PWp
def gC(c:Cl):List Int:=(c.p.map (·.val.n)).mergeSort λx y=>decide (x<=y)
theorem aKO{c:Cl}{i:Nat}(h:i<c.p.length):(c.p.take (i+1)).map (·.val.n)=(c.p.take i).map (·.val.n)++[c.p[i].val.n]:=by
 rw[zts h,zmd];rfl
theorem aJb(c:Cl)(hl:c.p.length<1000000000)(st:aD):qc 319 [.agg c.z] st λr S=>∃id,r= .vec id 1 0 (aeK (gC c).toArray)/\st id=none/\∃o,S=upd st id (some o):=by
 refine pC func319 rfl ?_
 focus(repeat' first|apply wZ;rfl|constructor)
 refine cL 3 3 1 rfl rfl rfl λid a=>?_;refine aC (X:={x:Nat×Nat//x.1<=c.p.length/\st x.2=none}) (λi=>(((((St.nil 24 (upd st i.1.2 (some (.arr 3 (((c.p.take i.1.1).map (·.val.n)).map I1))))).pv 3 (.vec i.1.2 1 0 i.1.1)).pv 7 (.seq (c.p.map Pt.z))).pv 8 (vi ((c.p.map Pt.z).length:Nat))).pv 9 (vi (i.1.1:Nat)))) (λi=>c.p.length-i.1.1) ⟨(0,id),by simp,a⟩ ?_ λi=>?_;dsimp only;rotate_left;obtain⟨⟨i,id⟩,hi,a⟩:=i;simp only at hi a;dsimp only;by_cases p:c.p.length<=i;obtain rfl:i=c.p.length:=by omega
 rw[List.take_length];have l:=amX (c.p.map (·.val.n)) (st:=upd st id (some (.arr 3 ((c.p.map (·.val.n)).map I1)))) (id:=id) (n:=c.p.length) (aA _ _ _) (zql _) (by omega);have k:(gC c).toArray.size=c.p.length:=by simp[gC]
 have g:=azS (gC c).toArray (st:=upd (upd st id (some (.arr 3 ((c.p.map (·.val.n)).map I1)))) id (some (.arr 3 ((gC c).map I1)))) (id:=id) (n:=c.p.length) (aA _ _ _) k (by omega);rotate_left;have j:i<c.p.length:=by omega
 have q:((c.p.take i).map (·.val.n)).length=i:=by rw[zql,zlt];omega
 have e:=aKO j
 all_goals (repeat' first|refine⟨⟨(i+1,m),by simp only;omega,aI d⟩,?_,?_⟩;(dsimp only;try rw[e])|exact Cn.any (aM ‹_›)|apply cP;rfl;apply l;rintro _ st' (rfl)|apply cP;rfl;apply g;rintro _ st' (⟨rfl,rows,rfl⟩)|refine Cn.rr ?_;exact⟨id,rfl,a,_,(eX _ _ _ _).trans (eX _ _ _ _)⟩;done|apply wZ;rfl|exact Cn.t0|omega|constructor|apply wY;rfl|simp<;>omega|intro h;simp at h|exact rfl|apply apV pk (f:=I1) [c.p[i].val.n] 8;(iterate 9 rfl);exact aA _ _ _;omega;exactλ_=>rfl;exactλ_=>rfl;exact mJ;(focus(simp;omega));(focus(simp;omega));rfl;intro m d|apply wI;rfl|apply gE;omega)
def arN(c:Cl):Vl:=⟨1,(aeK (gC c).toArray:Nat),e0⟩
theorem ayM(c:Cl)(hl:c.p.length<1000000000):qf 237 [.agg c.z] (.agg (arN c).z):=by
 intro st;have hn:=aJb c hl st;refine pC func237 rfl ?_
 repeat' first|exact Cn.any ⟨_,_,st,rfl,zwr _,aG (zsr _) hid,rfl,rfl⟩|apply cP;rfl;apply hn;rintro _ st' (⟨id,rfl,hid,o,rfl⟩)|apply wZ;rfl|constructor|apply wY;rfl
def agB(c:Cl):Vl:=((gR c.p).getLast?).getD Vl.zero
theorem aA8(c:Cl)(hl:c.p.length<1000000000):qf 235 [.agg c.z] (.agg (agB c).z):=by
 intro st;have hn:=aJk c hl st;have a:=awY c.p;unfold agB;generalize gR c.p=o at*;rcases Nat.eq_zero_or_pos o.length with h0|h0
 obtain rfl:o=[]:=List.eq_nil_of_length_eq_zero h0;rotate_left;have e:o.getLast?.getD Vl.zero=o.toArray[o.length-1]!:=by
  rw[List.getLast?_eq_getElem?,zgg (by omega),getElem!_pos o.toArray (o.length-1) (by simp;omega)];simp
 rw[e]
 all_goals (refine pC func235 rfl ?_;repeat'(first|exact Cn.any ⟨_,_,st,rfl,zwr _,aG (zsr _) hid,rfl,rfl⟩|apply cP;rfl;apply hn;rintro _ st' (⟨id,rfl,hid,rfl⟩)|apply wZ;rfl|omega|constructor|apply ixA pk;(iterate 5 rfl);rotate_left;rfl;intro hw;exact(show _=((o.length-1:Nat):Int)from by omega);intro hw;omega;rfl;exact Nat.zero_add _|apply ldA pk Vl.elem;rfl;rfl;rotate_left;rfl;exact aA _ _ _;intro _;exact(show o.length-1<o.length by omega);rfl|apply wY;rfl|intro h;simp at h))
def bH(c:Cl):Vl:=if c.k=0 then c.val else if c.k=1 then agB c else if c.k=2 then ahP c else if c.k=3 then arN c else if c.k=4 then T.showP c else Vl.zero
theorem aJ3(c:Cl)(hl:c.p.length<=1000):aGt bH c:=by
 have a:=aA8 c (by omega);have d:=aAe c;have e:=ayM c (by omega);have h4:=T.show_spec c (by omega);show qf 140 [.agg c.z] (.agg (bH c).z);unfold bH;generalize agB c=A at*;generalize ahP c=B at*;generalize arN c=C at*;generalize T.showP c=D at*;refine pF func140 rfl λst=>?_
 repeat' first|apply wZ;rfl|constructor|(first|apply a|apply d|apply e|apply h4)|show(_:PV)=_;((repeat first|rw[zp ‹_›]|rw[zn ‹_›]);rfl);done|apply wY;rfl|intro h
end Go.Proofs.YtigmnfepdlbcpaaGreatDoor
