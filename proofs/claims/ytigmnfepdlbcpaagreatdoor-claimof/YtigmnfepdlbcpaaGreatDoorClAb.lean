import Derived.Test.YtigmnfepdlbcpaaGreatDoorClBa
import Derived.Sort.LotD5
set_option linter.all false
set_option maxHeartbeats 4000000
set_option maxRecDepth 10000
namespace Go.Proofs.YtigmnfepdlbcpaaGreatDoor
open Go Go.Abs Tryz
variable{f:Nat->Bool}{i j k n:Nat}{R:Prop}{α β:Type}{t:Tb}{s:Sc}{b:Bs}{x y:Operand}{q u:IntKind}{args ps qs:List PV}{st:aD}{R':PV->aD->Prop}{L ls:List Ln}{a:Ln}{c d:Dt}{o:Option AObj}
section
attribute [local irreducible] Ev PWp
def akK(f:Nat->Bool)(n:Nat):Bool:=(List.range n).all f
theorem aeU(h:k<n)(hf:f k=false):akK f n=false:=by
 unfold akK
 grind
theorem tY(hf:∀k<n,f k=true):akK f n=true:=by
 unfold akK
 grind
theorem qF:akK f n=true↔∀k<n,f k=true:=by
 unfold akK;simp
theorem aKn(a:∀j<i,f j=true)(h:f i=true):∀j<i+1,f j=true:=λj hj=>by grind
theorem sJ{p:Prop}(a:∀j<i,f j=true)(e:f i=true↔p)(h:p):∀j<i+1,f j=true:=aKn a (e.2 h)
theorem adT{p:Prop}(h:f i=false->R)(e:f i=true↔p)(hp:¬p):R:=h (by grind)
theorem aGO[Inhabited α]{f:α->β}{l:List α}(h:i<l.length):(l.map f)[i]?=some (f l[i]!):=by grind
variable(tx:Cl->Int)
def aJV(c:Cl):Prop:=c.p.length<1000000000000/\(c.k=4->qf 233 [.agg c.z] (vi (tx c)))
def mK(c:Cl):Bool:=if c.k=0 then cB c.val&&decide (c.p.length=0)else if c.k=1 then kJ c else if c.k=2 then decide (bL c=0)else if c.k=3 then iI c else if c.k=4 then decide (tx c=0)else false
theorem aDm(c:Cl)(h:aJV tx c):qf 138 [.agg c.z] (vb (mK tx c)):=by
 have⟨hl,ht⟩:=h;have a:=atI c (by omega);have e:=asD c (by omega);have hv:=lS c.val;have b:=oQ c;unfold mK;generalize cB c.val=A at*;generalize kJ c=B at*;generalize bL c=C at*;generalize iI c=D at*;generalize tx c=E at*;refine pF func138 rfl λst=>?_
 repeat' first|apply wZ;rfl|constructor|(first|apply hv|apply a|apply b|apply e|apply ht ‹_›)|show(_:PV)=_;simp[*];done;done|apply wY;rfl|intro h
def xS(l:List Dt)(k:Nat):Bool:=eG l[k]! &&(decide (k=0)||aW l[k]! l[k-1]!)
def oK(l:List Dt):Bool:=akK (xS l) l.length
def sI(t:Tb)(l:Ln)(k:Nat):Bool:=decide (l.c[k]!.k=t.o[k]!.k)&&mK tx l.c[k]!
def sG(t:Tb)(l:Ln):Bool:=decide (0<=l.key/\l.key<1073741824/\l.c.length=t.o.length)&&decide (l.c[0]!.val=⟨1,l.key,e0⟩)
def jX(t:Tb)(l:Ln):Bool:=sG t l&&(akK (sI tx t l) l.c.length&&oK l.b)
theorem apO{l:Ln}(h:sG t l=false):jX tx t l=false:=by unfold jX;rw[h];rfl
theorem aCB{l:Ln}(h:k<l.c.length)(hf:sI tx t l k=false):jX tx t l=false:=by unfold jX;rw[aeU h hf];simp
theorem aH6{l:Ln}(h:k<l.b.length)(hf:xS l.b k=false):jX tx t l=false:=by unfold jX oK;rw[aeU h hf];simp
theorem aGI{l:Ln}(h:sG t l=true)(hc:∀k<l.c.length,sI tx t l k=true)(hd:∀k<l.b.length,xS l.b k=true):jX tx t l=true:=by
 unfold jX oK;rw[h,tY hc,tY hd];rfl
theorem aD6(t:Tb)(l:Ln)(ht:0<t.o.length)(hl:l.c.length<1000000000000/\l.b.length<1000000000000)(hp:∀c∈l.c,aJV tx c):qf 73 [.agg t.z, .agg l.z] (vb (jX tx t l)):=by
 by_cases h0:¬((0<=l.key/\l.key<1073741824)/\l.c.length=t.o.length)
 ·rw[apO tx (by unfold sG;rw[zdj λh=>h0 ⟨⟨h.1,h.2.1⟩,h.2.2⟩];rfl)]
  refine pF func73 rfl λst=>?_
  repeat' first|apply wZ;rfl|show Cn _;constructor|exact rfl|apply KR.mk;kernel_rfl|apply cR pk;(iterate 6 rfl);rotate_left;rfl;intro hw;rfl;(intro hw;apply aGO<;>first|omega|exfalso;simp[gw]at hw;omega);intro _;rfl;rfl|intro h;simp at h;omega|intro h;simp at h
 obtain⟨⟨a,q⟩,u⟩:=zdn h0;have hh:¬l.c[0].val=⟨1,l.key,e0⟩->sG t l=false:=λh=>by unfold sG;rw[zep l.c 0 (by omega),zdj h];simp
 rw[Vl.ext_iff]at hh;have hy:l.c[0].val=⟨1,l.key,e0⟩->sG t l=true:=λh=>by unfold sG;rw[zep l.c 0 (by omega),zdt h,zdt ⟨a,q,u⟩];rfl
 rw[Vl.ext_iff]at hy;refine pF func73 rfl λst=>?_
 repeat' first|apply wZ;rfl|show Cn _;constructor|exact rfl|apply KR.mk;kernel_rfl|show(_:PV)=_;rw[apO tx (hh (by grind))];done;done|apply wI;rfl|apply gE;show 0<_;omega|intro h;simp at h
 have n:sG t l=true:=hy (by grind);refine aC (X:={x:Nat//x<=l.c.length/\∀j<x,sI tx t l j=true}) (λi=>((((((St.nil 102 st).var 2 77 (t.z)).var 3 96 (l.z)).pv 38 (.seq (l.c.map Cl.z))).pv 39 (vi ((l.c.map Cl.z).length:Nat))).pv 40 (vi (i.1:Nat)))) (λi=>l.c.length-i.1) ⟨0,by omega,by omega⟩ ?_ λi=>?_
 ·repeat' first|show Cn _;constructor|exact rfl
 obtain⟨i,hi,o⟩:=i;dsimp only;by_cases p:l.c.length<=i
 ·repeat' first|apply wZ;rfl|show Cn _;constructor|simp only[zql];omega|intro h;simp at h
  refine aC (X:={x:Nat//x<=l.b.length/\∀j<x,xS l.b j=true}) (λy=>(((((St.nil 102 st).var 3 96 (l.z)).pv 61 (.seq (l.b.map Dt.z))).pv 62 (vi ((l.b.map Dt.z).length:Nat))).pv 63 (vi (y.1:Nat)))) (λy=>l.b.length-y.1) ⟨0,by omega,by omega⟩ ?_ λy=>?_
  ·repeat' first|show Cn _;constructor|exact rfl
  obtain⟨y,hy,b⟩:=y;dsimp only;by_cases m:l.b.length<=y;have e:=aGI tx n (λk hk=>o k (by omega)) λk hk=>b k (by omega);rotate_left;have a:y<l.b.length:=by omega
  have e:=Iff.refl (xS l.b y=true);by_cases h0:y=0;subst h0
  conv at e=>rhs;simp only[xS,eG,zep l.b 0 a,zba,zde,decide_true,Bool.true_or,and_true]
  have g:=adT (aH6 tx (t:=t) a) e;have f:=sJ b e;rotate_left;obtain⟨k,rfl⟩:∃k,y=k+1:=⟨y-1,by omega⟩;have hd:=auC l.b[k] l.b[k+1];have hb:=aBH l.b[k] l.b[k+1]
  conv at e=>rhs;simp only[xS,eG,zep l.b (k+1) a,show k+1-1=k from rfl,zep l.b k (by omega),zba,zde,Bool.or_eq_true,h0,false_or]
  have g:=adT (aH6 tx (t:=t) a) e;have f:=sJ b e;rotate_left
  all_goals (repeat' first|apply iX;intro hw;exact(show _=((0:Nat):Int)from by exact(lZ hw).elim);apply gE;omega;rfl|apply iX;intro hw;exact(show((((k+1:Nat):Int))-1=((k:Nat):Int))from by omega);apply gE;omega;rfl|apply cW;focus(intro _;apply(show qf 139 [_,_] (vi 0)from by rename_i hh;exact(lZ hh).elim);done)|((first|refine⟨⟨1,by omega,f (by grind)⟩,?_,by simp only;omega⟩|refine⟨⟨k+2,by omega,f (by grind)⟩,?_,by simp only;omega⟩);focus((repeat' first|show Cn _;constructor|exact rfl);done))|apply wZ;rfl|show Cn _;constructor|exact rfl|apply KR.mk;kernel_rfl|apply hd|show(_:PV)=_;(first|(rw[e]);done|(rw[g (by grind)];done);done);done|apply wY;rfl|apply wI;rfl|apply gE;omega|omega|simp only[zql];omega|intro h;simp at h)
 have a:i<l.c.length:=by omega
 have hc:=aDm tx l.c[i] (hp _ (zgm a));have e:=Iff.refl (sI tx t l i=true)
 conv at e=>rhs;simp only[sI,zep l.c i a,zep t.o i (show i<t.o.length by omega),zba,zde]
 have g:=adT (aCB tx (t:=t) a) e;have f:=sJ o e
 repeat' first|refine⟨⟨i+1,by omega,f (by grind)⟩,?_,?_⟩|apply wZ;rfl|show Cn _;constructor|exact rfl|apply KR.mk;kernel_rfl|apply hc|show(_:PV)=_;rw[g (by grind)];done|apply wY;rfl|apply wI;rfl|apply gE;omega|omega|simp only[zql];omega|intro h;simp at h
end
section
attribute [local irreducible] Ev PWp
theorem aaH :∀{l:List Int},orI l=0->∀x∈l,x=0
 |[],_,_,h=>by grind
 |a::l,h,x,hx=>by
  rw[orI]at h
  split at h
  ·rename_i e
   rcases zmc.1 hx with rfl|q
   ·exact e
   ·exact aaH h x q
  grind
theorem rB{f:Nat->Int}(h:eV f n=0)(hk:k<n):f k=0:=
 aaH h _ (zmq.2 ⟨k,zmr.2 hk,rfl⟩)
theorem gG(h:bY s=0)(hk:k<s.length):∀x∈lks s k,x=0:=by
 unfold bY at h;split at h
 ·cases h
 ·exact aaH (rB h hk)
theorem adZ(h:bY s=0)(hk:k<s.length):0<s[k].o.length:=by
 have:=gG h hk (lk1 s[k]!) (by simp[lks]);unfold lk1 at this
 grind
variable(tx:Cl->Int)
def aOt(l:Ln):Prop:=(l.c.length<1000000000000/\l.b.length<1000000000000)/\∀c∈l.c,aJV tx c
def aNq(d:Da):Prop:=d.l.length<1000000000000/\∀l∈d.l,aOt tx l
def lnR(t:Tb)(L:List Ln)(i:Nat):Bool:=jX tx t L[i]! &&(decide (i=0)||decide (L[i-1]!.key<L[i]!.key))
def vY(t:Tb)(L:List Ln):Bool:=decide (L.length<=2000)&&akK (lnR tx t L) L.length
def zP(s:Sc)(b:Bs)(k:Nat):Bool:=vY tx s[k]! b[k]!.l
def bA(s:Sc)(b:Bs):Bool:=decide (bY s=0/\b.length=s.length)&&akK (zP tx s b) b.length
theorem aCJ(h:¬(bY s=0/\b.length=s.length)):bA tx s b=false:=by unfold bA;grind
theorem aCj(h:k<b.length)(hf:zP tx s b k=false):bA tx s b=false:=by unfold bA;rw[aeU h hf];simp
theorem atE(h:bY s=0/\b.length=s.length)(hf:∀k<b.length,zP tx s b k=true):bA tx s b=true:=by unfold bA;rw[tY hf,zdt h];rfl
theorem aAE(s:Sc)(b:Bs)(hl:s.length<1000000000000)(G:∀t∈s,TbB t)(hb:b.length<1000000000000)(hd:∀d∈b,aNq tx d):qf 32 [.agg (scC s), .agg (bsC b)] (vb (bA tx s b)):=by
 have hs:=acL s (by omega) G;by_cases h0:¬(bY s=0/\b.length=s.length);rw[aCJ tx h0];generalize bY s=R at*;refine pF func32 rfl λst=>?_;rotate_left
 replace h0:=zdn h0
 obtain⟨o,F⟩:=h0;rw[o]at hs;refine pF func32 rfl λst=>?_
 repeat' first|apply wZ;rfl|show Cn _;constructor|apply hs|apply wY;rfl|simp only[zql];omega|intro h;simp at h
 refine aC (X:={x:Nat//x<=b.length/\∀j<x,zP tx s b j=true}) (λi=>(((((St.nil 67 st).var 2 24 (scC s)).pv 22 (.seq (b.map Da.z))).pv 23 (vi ((b.map Da.z).length:Nat))).pv 24 (vi (i.1:Nat)))) (λi=>b.length-i.1) ⟨0,by omega,by omega⟩ ?_ λi=>?_;rotate_left;obtain⟨i,hi,C⟩:=i;dsimp only;by_cases D:b.length<=i;have e:=atE tx ⟨o,F⟩ λk hk=>C k (by omega);rotate_left;have g:i<b.length:=by omega
 have n:i<s.length:=by omega
 have v:=adZ o n;obtain⟨M,E⟩:=hd _ (zgm g);have e:=Iff.refl (zP tx s b i=true)
 conv at e=>rhs;simp only[zP,vY,zep s i n,zep b i g,zba,zde,qF]
 have B:=adT (aCj tx (s:=s) g) e;have H:=sJ C e;by_cases p:¬b[i].l.length<=2000;have u:=B λq=>p q.1;rotate_left
 all_goals (repeat' first|apply wZ;rfl|show Cn _;constructor|exact rfl|show(_:PV)=_;(first|(rw[e]);done|(rw[u]);done);done|apply wI;rfl|apply gE;omega|simp only[zql];omega|intro h;simp at h)
 focus(repeat'(fail))
 refine aC (X:={x:Nat//x<=b[i].l.length/\∀j<x,lnR tx s[i] b[i].l j=true}) (λy=>((((((((((St.nil 67 st).var 2 24 (scC s)).pv 5 (vi (i:Nat))).var 6 108 (b[i].z)).pv 22 (.seq (b.map Da.z))).pv 23 (vi ((b.map Da.z).length:Nat))).pv 24 (vi (i:Nat))).pv 34 (.seq (b[i].l.map Ln.z))).pv 35 (vi ((b[i].l.map Ln.z).length:Nat))).pv 36 (vi (y.1:Nat)))) (λy=>b[i].l.length-y.1) ⟨0,by omega,by omega⟩ ?_ λy=>?_;rotate_left;obtain⟨y,hy,m⟩:=y;dsimp only;by_cases w:b[i].l.length<=y;rotate_left;have a:y<b[i].l.length:=by omega
 obtain⟨I,J⟩:=E _ (zgm a);have z:=aD6 tx s[i] b[i].l[y] v I J;have e:=Iff.refl (lnR tx s[i] b[i].l y=true);have c:=λh:¬lnR tx s[i] b[i].l y=true=>B λq=>h (q.2 y a);by_cases h0:y=0;subst h0
 conv at e=>rhs;simp only[lnR,zep b[i].l 0 a,decide_true,Bool.true_or,Bool.and_true]
 have f:=sJ m e;rw[e]at c;rotate_left;obtain⟨k,rfl⟩:∃k,y=k+1:=⟨y-1,by omega⟩
 conv at e=>rhs;simp only[lnR,zep b[i].l (k+1) a,show k+1-1=k from rfl,zep b[i].l k (by omega),zba,zde,Bool.or_eq_true,h0,false_or]
 have f:=sJ m e;rw[e]at c;rotate_left
 all_goals (repeat' first|apply iX;intro hw;exact(show _=((0:Nat):Int)from by exact(lZ hw).elim);apply gE;omega;rfl|apply iX;intro hw;exact(show((((k+1:Nat):Int))-1=((k:Nat):Int))from by omega);apply gE;omega;rfl|((first|refine⟨⟨i+1,by omega,H ⟨by omega,λk hk=>m k (by omega)⟩⟩,?_,by simp only;omega⟩|refine⟨⟨1,by omega,f (by grind)⟩,?_,by simp only;omega⟩|refine⟨⟨k+2,by omega,f (by grind)⟩,?_,by simp only;omega⟩);focus((repeat' first|show Cn _;constructor|exact rfl);done))|apply wZ;rfl|show Cn _;constructor|exact rfl|apply KR.mk;kernel_rfl|apply z|show(_:PV)=_;rw[c (by grind)];done|apply wY;rfl|apply wI;rfl|apply gE;omega|omega|simp only[zql];omega|intro h;simp at h)
 all_goals (repeat'(fail))
end
section
attribute [local irreducible] Ev PWp
section
variable{P:Program}{tt:TT}{l:List Oper}{d:Md}{r:List Oper}{s:St}{K:St->Prop}{t:Nat}{ty:TypeId}{pos:String}{after:Array Edge}
theorem aJS{f:α->List PV}(pk:Pk P tt)(z0:α){T e:TypeId}{B sz:Nat}{z:List Value}{a b:Int}(hx:opd s x=some (.val (.int q a)))(hy:opd s y=some (.val (.int u b)))(hk:tiK tt T=some (.slice e))(hs:aP tt e=some sz)(hz:tiZ tt e=some z)(i:z.length=sz)(m:Nat.blt 0 sz=true)(h:z.map .val=f z0)(hf:bS s [x,y]=true)(hd:Nat.blt t s.n=true)(ht:jU d l r=true)(ha:a=n)(g:b=n)(p:P.bytesOf e=B)(hb:n*B<=140737488355328)(c:n<4611686018427387904)(k:∀id,s.st id=none->Ev P l d r ((s.sst (upd s.st id (some (.arr e ((List.replicate n z0).map f))))).pv t (.vec id sz 0 n)) K):Ev P l d (⟨some t, .makeSlice T x y,ty,pos,after,none⟩::r) s K:=by
 subst ha g
 refine eM (wG pk.htt hx hy hk hs hz i (by simp_all) p hb c) (λz hz=>aO (λ_ _ _ e=>by grind) hz) hf hd ht λv j=>?_
 obtain⟨id,o,rfl⟩:=j
 have:=k _ o
 rw[List.map_replicate,<-h]at this
 exact this
end
theorem dI{f:α->List PV}{id sz:Nat}{l:List α}(hn:l.length=n):Fz id sz (l.map f) (.vec id sz 0 n) (.seq (l.map f)):=by
 have e:(l.map f).length=n:=(zql _).trans hn;rw[<-e];exact .all
theorem aOl{f:FuncId}{R:PV->aD->Prop}(h:qc f args st R)(i:∀p st',R p st'->∃q,Wk p q/\R' q st'):qc f args st R':=
 ⟨h.1,λw g vs hm hv=>(h.2 w g _ hm hv).mono λe w' ⟨v,r,st',g',a,b,c,h4⟩=>by
  have⟨q,k1,k2⟩:=i _ _ b
  exact⟨v,q,st',g',a,k2,k1 _ _ c,h4⟩⟩
theorem RepA.wk{g:G}{b:Nat}(h:WkL ps qs):∀{off:Nat},RepA g b off ps->RepA g b off qs:=by
 induction h with
 |nil=>simp
 |cons h _ ih=>
  intro off e;obtain⟨⟨v,a,c,f⟩,i⟩:=e;exact⟨⟨v,a,c,h _ _ f⟩,ih i⟩
theorem aJ2(h:WkL ps qs):ps.length=qs.length:=by
 induction h with
 |nil=>rfl
 |cons _ _ ih=>simp[ih]
theorem RepR.wk{α:Type}{f k:α->List PV}{g:G}{b sz:Nat}:∀{l:List α}(_:∀x∈l,WkL (f x) (k x)){off:Nat},RepR g b off sz (l.map f)->RepR g b off sz (l.map k)
 |[],_,_,e=>e
 |x::l,h,off,e=>by
  exact⟨aJ2 (h x (by simp))▸e.1,RepA.wk (h x (by simp)) e.2.1,RepR.wk (λy hy=>h y (by grind)) e.2.2⟩
theorem Wk.rows{f k:α->List PV}{l:List α}(h:∀x∈l,WkL (f x) (k x)):Wk (.seq (l.map f)) (.seq (l.map k)):=λg v e=>by
 have⟨a,cap,c,i,j,h4⟩:=e
 rw[zql]at c i j
 refine⟨a,cap,by grind,by grind,by simpa,?_⟩
 rcases h4 with h4|⟨b,off,sz,m,n⟩
 ·simp_all
 ·exact .inr ⟨b,off,sz,m,RepR.wk h n⟩
def yU(_:Unit):List PV:=[.val (.slice none 0 0)]
def aJx(s:Sc):Bs:=List.replicate s.length ⟨[]⟩
theorem aMh(n:Nat):Wk (.agg [.seq ((List.replicate n ()).map yU)]) (.agg (bsC (List.replicate n ⟨[]⟩))):=by
 refine Wk.agg (.cons ?_ .nil);have:=Wk.rows (l:=List.replicate n ()) λ_ _=> .cons Wk.nil .nil
 simpa
theorem aIs(s:Sc)(hl:s.length<2000000000000):qf 28 [.agg (scC s)] (.agg (bsC (aJx s))):=λst=>
 aOl (eS (sz:=1) (R:=λr S=>∃id,r= .agg [.vec id 1 0 s.length]/\st id=none/\S=upd st id (some (.arr 108 ((List.replicate s.length ()).map yU)))) (R':=λr S=>r= .agg [.seq ((List.replicate s.length ()).map yU)]/\S=st) (by
  refine pC func28 rfl ?_
  (repeat' first|refine Cn.rr ?_;exact⟨id,rfl,a,rfl⟩;done|apply wZ;rfl|constructor|apply aJS pk () (f:=yU) (n:=s.length) (B:=24);(iterate 11 rfl);(focus(simp;done));(focus(simp;done));exact uX;omega;omega;intro id a)) λp st' h=>by
  obtain⟨id,rfl,b,rfl⟩:=h
  exact .inl ⟨id,108,(List.replicate s.length ()).map yU,_,st,aA _ _ _,aeR, .agg (.cons (dI (by simp)) .nil),bN b,rfl,rfl⟩) λp st' h=>⟨_,h.1▸aMh _,rfl,h.2⟩
variable(sh:Cl->Vl)
def aGt(c:Cl):Prop:=qf 140 [.agg c.z] (.agg (sh c).z)
theorem aL4(l:Ln)(hl:l.c.length<1000000000000)(hs:∀c∈l.c,aGt sh c)(st:aD):qc 134 [.agg l.z] st λr S=>∃id,r= .vec id 3 0 l.c.length/\st id=none/\S=upd st id (some (.arr 46 ((l.c.map sh).map Vl.z))):=by
 refine pC func134 rfl ?_
 repeat' first|apply wZ;rfl|constructor
 refine cL 3 46 3 rfl rfl rfl λid a=>?_;refine aC (X:={x:Nat×Nat//x.1<=l.c.length/\st x.2=none}) (λi=>(((((St.nil 20 (upd st i.1.2 (some (.arr 46 (((l.c.map sh).take i.1.1).map Vl.z))))).pv 3 (.vec i.1.2 3 0 i.1.1)).pv 7 (.seq (l.c.map Cl.z))).pv 8 (vi ((l.c.map Cl.z).length:Nat))).pv 9 (vi (i.1.1:Nat)))) (λi=>l.c.length-i.1.1) ⟨(0,id),by simp,a⟩ ?_ λi=>?_;dsimp only;rotate_left;obtain⟨⟨i,id⟩,hi,a⟩:=i;simp only at hi a;dsimp only;by_cases k:l.c.length<=i;have e:(l.c.map sh).take i=l.c.map sh:=ztl (by simp;omega);obtain rfl:i=l.c.length:=by omega
 rotate_left;have j:i<l.c.length:=by omega
 have hc:qf 140 [.agg l.c[i].z] (.agg (sh l.c[i]).z):=hs _ (zgm j);have e:(l.c.map sh).take (i+1)=(l.c.map sh).take i++[sh l.c[i]]:=by rw[zts (by simpa using j)];simp
 all_goals (repeat' first|refine⟨⟨(i+1,g),by simp only;omega,aI b⟩,?_,?_⟩;(dsimp only;try rw[e])|exact Cn.any (aM ‹_›)|refine Cn.rr ?_;exact⟨id,rfl,a,by rw[e];rfl⟩;done|apply wZ;rfl|exact Cn.t0|omega|constructor|simp<;>omega|intro h;simp at h|exact rfl|apply hc|apply apV pk (f:=Vl.z) [sh l.c[i]] 32;(iterate 9 rfl);exact aA _ _ _;(focus(simp;omega));exactλ_=>rfl;exactλ_=>rfl;exact arH;(focus(simp;omega));(focus(simp;omega));rfl;intro g b|apply wY;rfl|apply wI;rfl|apply gE;omega)
theorem aHB(l:Ln)(hl:l.c.length<1000000000000)(hs:∀c∈l.c,aGt sh c):qf 134 [.agg l.z] (.seq ((l.c.map sh).map Vl.z)):=λst=>
 eS (aL4 _ l hl hs _) λp st' h=>by
  obtain⟨id,rfl,a,rfl⟩:=h
  exact .inl ⟨id,46,(l.c.map _).map _,_,st,aA _ _ _,vI,dI (by simp),bN a,rfl,rfl⟩
def roC(r:List Vl):List PV:=[.seq (r.map Vl.z)]
theorem aBl :Tryz.prog.bytesOf 49=24:=rfl
theorem asC :Tryz.prog.cellsOf 49=1:=rfl
def aoA(l:Ln):List Vl:=l.c.map sh
theorem aFc(b:Bs)(k:Nat)(hk:k<b.length)(hl:b[k].l.length<1000000000000)(hs:∀l∈b[k].l,l.c.length<1000000000000/\∀c∈l.c,aGt sh c)(st:aD):qc 66 [.agg (bsC b),vi (k:Nat)] st λr S=>∃id,r= .vec id 1 0 b[k].l.length/\st id=none/\S=upd st id (some (.arr 49 ((b[k].l.map (aoA sh)).map roC))):=by
 have ho:=ahU b k hk;generalize b[k].l=L at*;refine pC func66 rfl ?_
 repeat' first|apply wZ;rfl|constructor|apply ho|apply wY;rfl
 refine cL 7 49 1 rfl rfl rfl λid a=>?_;refine aC (X:={x:Nat×Nat//x.1<=L.length/\st x.2=none}) (λi=>(((((St.nil 30 (upd st i.1.2 (some (.arr 49 (((L.map (aoA sh)).take i.1.1).map roC))))).pv 7 (.vec i.1.2 1 0 i.1.1)).pv 17 (.seq (L.map Ln.z))).pv 18 (vi ((L.map Ln.z).length:Nat))).pv 19 (vi (i.1.1:Nat)))) (λi=>L.length-i.1.1) ⟨(0,id),by simp,a⟩ ?_ λi=>?_;dsimp only;rotate_left;obtain⟨⟨i,id⟩,hi,a⟩:=i;simp only at hi a;dsimp only;by_cases n:L.length<=i;have e:(L.map (aoA sh)).take i=L.map (aoA sh):=ztl (by simp;omega);obtain rfl:i=L.length:=by omega
 rotate_left;have j:i<L.length:=by omega
 have hc:=aHB sh L[i] (hs _ (zgm j)).1 (hs _ (zgm j)).2;have e:(L.map (aoA sh)).take (i+1)=(L.map (aoA sh)).take i++[L[i].c.map sh]:=by rw[zts (by simpa using j)];simp[aoA]
 all_goals (repeat' first|refine⟨⟨(i+1,m),by simp only;omega,aI g⟩,?_,?_⟩;(dsimp only;try rw[e])|exact Cn.any (aM ‹_›)|refine Cn.rr ?_;exact⟨id,rfl,a,by rw[e];rfl⟩;done|apply wZ;rfl|exact Cn.t0|omega|constructor|simp<;>omega|intro h;simp at h|exact rfl|apply hc|apply apV pk (f:=roC) [L[i].c.map sh] 24;(iterate 9 rfl);exact aA _ _ _;(focus(simp;omega));exactλ_=>rfl;exactλ_=>rfl;exact aBl;(focus(simp;omega));(focus(simp;omega));rfl;intro m g|apply wY;rfl|apply wI;rfl|apply gE;omega)
theorem azJ(b:Bs)(k:Nat)(hk:k<b.length)(hl:b[k].l.length<1000000000000)(hs:∀l∈b[k].l,l.c.length<1000000000000/\∀c∈l.c,aGt sh c):qf 66 [.agg (bsC b),vi (k:Nat)] (.seq ((b[k].l.map (aoA sh)).map roC)):=λst=>
 eS (aFc _ b k _ hl hs _) λp st' h=>by
  obtain⟨id,rfl,a,rfl⟩:=h
  exact .inl ⟨id,49,(b[k].l.map _).map _,_,st,aA _ _ _,asC,dI (by simp),bN a,rfl,rfl⟩
end
section
attribute [local irreducible] Ev PWp
theorem axY(c:Cl)(h:c.k=0):qf 140 [.agg c.z] (.agg c.val.z):=by
 refine pF func140 rfl λst=>?_
 repeat' first|apply wZ;rfl|omega|constructor|intro h
def colId :Co:=⟨⟨#[105,100]⟩,0,1,false⟩
theorem zL{l:List α}{x:α}(h:i<l.length)(e:l[i]=x):l.take (i+1)=l.take i++[x]:=by rw[zts h,e]
def rG(b:Bs)(k:Int)(ls:List Ln):Bs:=if okT b k then b.set k.toNat ⟨ls⟩else b
theorem nL(b:Bs)(k:Int)(ls:List Ln):(rG b k ls).length=b.length:=by unfold rG;grind
theorem aqO{k:Int}(h:i<b.length)(hk:(i:Int)=k):(rG b k ls)[i]'(by rw[nL];exact h)=⟨ls⟩:=by
 subst hk;simp[rG,okT,h]
theorem aCs{k:Int}(h:i<b.length)(hk:¬(i:Int)=k):(rG b k ls)[i]'(by rw[nL];exact h)=b[i]:=by
 unfold rG;split
 ·rename_i q
  simp only[okT,zde]at q
  grind
 ·rfl
theorem aFJ(b:Bs)(k:Int)(ls:List Ln)(hb:b.length<100000000000)(st:aD):qc 170 [.agg (bsC b),vi k, .seq (ls.map Ln.z)] st λr S=>∃id,r= .agg [.vec id 1 0 b.length]/\st id=none/\S=upd st id (some (.arr 108 ((rG b k ls).map Da.z))):=by
 have o:=nL b k ls;refine pC func170 rfl ?_
 repeat' first|apply wZ;rfl|constructor
 refine jS 7 108 1 [] rfl rfl rfl λid a=>?_;refine aC (X:={x:Nat×Nat//x.1<=b.length/\st x.2=none}) (λi=>(((((((St.nil 37 (upd st i.1.2 (some (.arr 108 (((rG b k ls).take i.1.1).map Da.z))))).pv 1 (vi k)).pv 2 (.seq (ls.map Ln.z))).var 3 27 (bsC b)).var 6 27 ([.val (.slice none 0 0)])).var 7 27 ([.vec i.1.2 1 0 i.1.1])).pv 8 (vi (i.1.1:Nat)))) (λi=>b.length-i.1.1) ⟨(0,id),by simp,a⟩ ?_ λi=>?_
 ·dsimp only
  repeat' first|exact Cn.t0|constructor
 obtain⟨⟨i,id⟩,hi,a⟩:=i;simp only at hi a;dsimp only;have n:((rG b k ls).take i).length=i:=by rw[zlt];omega
 by_cases m:b.length<=i
 ·have e:(rG b k ls).take i=rG b k ls:=ztl (by omega)
  obtain rfl:i=b.length:=by omega
  repeat' first|refine Cn.rr ?_;exact⟨id,rfl,a,by rw[e];rfl⟩;done|apply wZ;rfl|constructor|simp<;>omega|intro h;simp at h
 have j:i<b.length:=by omega
 by_cases hk:(i:Int)=k;have e:=zL (by omega) (aqO (ls:=ls) j hk);rotate_left;have e:=zL (by omega) (aCs (ls:=ls) j hk);rotate_left
 all_goals (repeat' first|apply wD pk [8] [];kernel_rfl;rfl;rfl|refine⟨⟨(i+1,g),by simp only;omega,aI c⟩,?_,?_⟩;(dsimp only;try rw[e])|exact Cn.any (aM ‹_›)|apply wZ;rfl|omega|constructor|apply apV pk (f:=Da.z) [⟨ls⟩] 24;(iterate 9 rfl);exact aA _ _ _;omega;exactλ_=>rfl;exactλ_=>rfl;exact uX;(focus(simp;omega));(focus(simp;omega));rfl;intro g c|apply apV pk (f:=Da.z) [b[i]] 24;(iterate 9 rfl);exact aA _ _ _;omega;exactλ_=>rfl;exactλ_=>rfl;exact uX;(focus(simp;omega));(focus(simp;omega));rfl;intro g c|apply wI;rfl|apply gE;omega|simp<;>omega|intro h;simp at h|intro h)
end
section
theorem yM(L:List Ln)(k:Int):(∃j:Nat,∃h:j<L.length,atP L k=((j:Int),true)/\bJ L k=some L[j]/\L[j].key=k/\∀q (hq:q<j),L[q].key≠k)\/
  (∃j:Nat,j<=L.length/\atP L k=((j:Int),false)/\bJ L k=none/\(∀x∈L,x.key≠k)/\(∀q (hq:q<j) (h:q<L.length),¬L[q].key>k)/\∀h:j<L.length,L[j].key>k):=by
 unfold atP bJ
 cases h:L.findIdx? λx:Ln=>decide (x.key=k)with
 |some j=>
  left;have⟨hj,hf,hn⟩:=zfi.1 h;refine⟨j,hj,?_,aqI hj hf λq hq a=>by simpa using hn q hq,by simpa using hf,λq hq=>by simpa using hn q hq⟩;have e:dJ (λx:Ln=>decide (x.key=k)) L=j:=by unfold dJ;rw[h]
  rw[e,zp (by omega)]
 |none=>
  right;have e:dJ (λx:Ln=>decide (x.key=k)) L= -1:=by unfold dJ;rw[h]
  have b:∀x∈L,x.key≠k:=λx hx=>by simpa using List.findIdx?_eq_none_iff.1 h x hx
  have hg:L.find? (λx:Ln=>decide (x.key=k))=none:=List.find?_eq_none.2 λx hx=>by rw[List.findIdx?_eq_none_iff.1 h x hx];simp
  rw[e,zn (by omega)];cases a:L.findIdx? λx:Ln=>decide (x.key>k)with
  |some j=>
   have⟨hj,hf,hn⟩:=zfi.1 a;have c:dJ (λx:Ln=>decide (x.key>k)) L=j:=by unfold dJ;rw[a]
   rw[c,zp (by omega)];exact⟨j,by omega,rfl,hg,b,λq hq hl=>by simpa using hn q hq,λ_=>by simpa using hf⟩
  |none=>
   have c:dJ (λx:Ln=>decide (x.key>k)) L= -1:=by unfold dJ;rw[a]
   rw[c,zn (by omega)];exact⟨L.length,znr _,rfl,hg,b,λq hq hl=>by simpa using List.findIdx?_eq_none_iff.1 a L[q] (zgm hl),λh=>absurd h (Nat.lt_irrefl _)⟩
theorem aGT(b:Bs)(k:Int)(a:Ln):sM b k a=rG b k (sN (aF b k) a):=rfl
theorem aiO(h:j<=L.length):(cU L j [a]).length=L.length+1:=by rw[acV h];rfl
theorem aF5(h:i<j)(hj:j<=L.length):(cU L j [a])[i]?=some (L[i]'(by omega)):=by
 unfold cU
 grind
theorem aGc(hj:j<=L.length):(cU L j [a])[j]?=some a:=by
 unfold cU
 grind
theorem aHe(h:j<=i)(hi:i<L.length):(cU L j [a])[i+1]?=some L[i]:=by
 unfold cU
 grind
theorem iB{l:List α}{x:α}(e:l[i]?=some x):l.take (i+1)=l.take i++[x]:=by
 have⟨h,e⟩:=zge.1 e;exact zL h e
end
section
attribute [local irreducible] Ev PWp
theorem aiJ(b:Bs)(k:Int)(ls:List Ln)(hb:b.length<100000000000):qf 170 [.agg (bsC b),vi k, .seq (ls.map Ln.z)] (.agg (bsC (rG b k ls))):=λst=>
 eS (aFJ b k _ hb _) λp st' h=>by
  obtain⟨id,rfl,a,rfl⟩:=h
  exact .inl ⟨id,108,(rG b k _).map _,_,st,aA _ _ _,aeR, .agg (.cons (dI (nL b k _)) .nil),bN a,rfl,rfl⟩
theorem amT(b:Bs)(k:Int)(a:Ln)(hb:b.length<100000000000)(hL:(aF b k).length<100000000000):qf 99 [.agg (bsC b),vi k, .agg a.z] (.agg (bsC (sM b k a))):=by
 have hg:=mY b k a.key (by omega);have hl:=iL b k;rw[aGT];have T:=yM (aF b k) a.key;unfold sN;generalize aF b k=L at*;rcases T with⟨j,hj,E,w,Q,h4⟩|⟨j,hj,E,w,Q,h4,h5⟩
 rw[w]at hg;rw[E,zp rfl,zin];have F:(L.set j a).length=L.length:=by simp
 have hw:=aiJ b k (L.set j a) hb;have I:((L.set j a).map Ln.z).length=L.length:=(zql _).trans F;refine pF func99 rfl λst=>?_
 focus(repeat' first|apply wZ;rfl|constructor|(first|apply hg|apply hl)|apply wY;rfl)
 refine cL 10 96 3 rfl rfl rfl λid m=>?_;refine aC (X:={x:Nat×Nat×Bool//x.1<=L.length/\st x.2.1=none/\x.2.2=decide (j<x.1)}) (λi=>((((((((((St.nil 86 (upd st i.1.2.1 (some (.arr 96 (((L.set j a).take i.1.1).map Ln.z))))).pv 1 (vi k)).var 3 27 (bsC b)).var 5 96 (a.z)).var 6 27 ([.val (.slice none 0 0)])).pv 8 (vb true)).pv 9 (.seq (L.map Ln.z))).pv 10 (.vec i.1.2.1 3 0 i.1.1)).pv 11 (vb i.1.2.2)).pv 12 (vi (i.1.1:Nat)))) (λi=>L.length-i.1.1) ⟨(0,id,false),by simp,m,by simp⟩ ?_ λi=>?_;dsimp only;rotate_left;obtain⟨⟨i,id,f⟩,hi,m,hf⟩:=i;simp only at hi m hf;dsimp only;have D:((L.set j a).take i).length=i:=by rw[zlt];omega
 by_cases B:L.length<=i;obtain rfl:i=L.length:=by omega
 have e:(L.set j a).take L.length=L.set j a:=ztl (by omega);rw[zdt hj]at hf;subst hf;rw[e];rotate_left;have o:i<L.length:=by omega
 by_cases u:i=j;subst u;obtain rfl:f=false:=by rw[hf];simp
 have G:true=decide (i<i+1):=by simp
 have e:=zL (l:=L.set i a) (i:=i) (x:=a) (by omega) (by simp);rotate_left;have e:=zL (l:=L.set j a) (i:=i) (x:=L[i]) (by omega) (by rw[List.getElem_set_ne (Ne.symm u)]);have p:f=decide (j<i+1):=by rw[hf,decide_eq_decide];omega
 have hk:f=false->L[i].key≠a.key:=λq=>h4 i (by rw[hf]at q;simp at q;omega);clear hf;cases f
 replace hk:=hk rfl
 rotate_left;rotate_left;rw[w]at hg;rw[E,zn (by simp),zin];have F:=aiO (a:=a) hj;have N:=λi (h:i<j)=>aF5 (L:=L) (a:=a) h hj;have y:=aGc (a:=a) hj;have C:=λi (h:j<=i) (w:i<L.length)=>aHe (a:=a) h w;generalize cU L j [a]=R at*;have hw:=aiJ b k R hb;refine pF func99 rfl λst=>?_
 focus(repeat' first|apply wZ;rfl|constructor|(first|apply hg|apply hl)|apply wY;rfl)
 refine cL 10 96 3 rfl rfl rfl λid m=>?_;refine aC (X:={x:Nat×Nat×Bool×Nat//x.1<=L.length/\st x.2.1=none/\x.2.2.1=decide (j<x.1)/\x.2.2.2=x.1+x.2.2.1.toNat}) (λi=>((((((((((St.nil 86 (upd st i.1.2.1 (some (.arr 96 ((R.take i.1.2.2.2).map Ln.z))))).pv 1 (vi k)).var 3 27 (bsC b)).var 5 96 (a.z)).var 6 27 ([.val (.slice none 0 0)])).pv 8 (vb false)).pv 9 (.seq (L.map Ln.z))).pv 10 (.vec i.1.2.1 3 0 i.1.2.2.2)).pv 11 (vb i.1.2.2.1)).pv 12 (vi (i.1.1:Nat)))) (λi=>L.length-i.1.1) ⟨(0,id,false,0),by simp,m,by simp,by simp⟩ ?_ λi=>?_;dsimp only;rotate_left;obtain⟨⟨i,id,f,c⟩,hi,m,hf,hc⟩:=i;simp only at hi m hf hc;dsimp only;have D:(R.take c).length=c:=by rw[zlt];cases f<;>simp at hc<;>omega
 by_cases B:L.length<=i;obtain rfl:i=L.length:=by omega
 cases f
 obtain rfl:j=L.length:=by simp at hf;omega
 obtain rfl:c=L.length:=by simpa using hc
 have e:R.take L.length++[a]=R:=by rw[<-iB y];exact ztl (by omega)
 have J:((R.take L.length++[a]).map Ln.z).length=L.length+[a].length:=by rw[zql,e,F];rfl
 have O:qf 170 [.agg (bsC b),vi k, .seq ((R.take L.length++[a]).map Ln.z)] (.agg (bsC (rG b k R))):=by rw[e];exact hw
 rotate_left;obtain rfl:c=R.length:=by simp at hc;omega
 rw[List.take_length];have M:(R.map Ln.z).length=R.length:=zql _;rotate_left;have o:i<L.length:=by omega
 have hk:L[i].key≠a.key:=Q _ (zgm o);by_cases u:i=j;subst u;obtain rfl:f=false:=by rw[hf];simp
 obtain rfl:c=i:=by simpa using hc
 have e:R.take (c+2)=(R.take c++[a])++[L[c]]:=by rw[iB (C c (znr _) o),iB y]
 have v:=h5 o;have H:true=decide (c<c+1):=by simp
 rotate_left;have e:R.take (c+1)=R.take c++[L[i]]:=by
  cases f
  ·obtain rfl:c=i:=by simpa using hc
   exact iB (N _ (by simp at hf;omega))
  ·obtain rfl:c=i+1:=by simpa using hc
   exact iB (C i (by simp at hf;omega) o)
 have p:f=decide (j<i+1):=by rw[hf,decide_eq_decide];omega
 have z:c+1=i+1+f.toNat:=by omega
 have v:f=false->¬L[i].key>a.key:=λq=>h4 i (by rw[hf]at q;simp at q;omega) o;clear hf;cases f
 replace v:=v rfl
 rotate_left;rotate_left
 all_goals (repeat' first|exact Cn.any ⟨_,_,st,rfl,zwr _,aG (aG (zsr _) m) m,rfl,rfl⟩|exact Cn.any ⟨_,_,st,rfl,zwr _,aG (aG (aG (aG (zsr _) m) m) (aI g)) (aI g),rfl,rfl⟩|apply cP;rfl;apply PC.freezeN [_,_] (aA _ _ _) lH I (hw _);rintro _ st' (⟨rfl,rfl⟩)|apply cP;rfl;apply PC.freezeN [_,_] (aA _ _ _) lH J (O _);rintro _ st' (⟨rfl,rfl⟩)|apply cP;rfl;apply PC.freezeN [_,_] (aA _ _ _) lH M (hw _);rintro _ st' (⟨rfl,rfl⟩)|((first|refine⟨⟨(i+1,n,true),by simp only;omega,aI g,G⟩,?_,by simp only;omega⟩|refine⟨⟨(i+1,n,false),by simp only;omega,aI g,p⟩,?_,by simp only;omega⟩|refine⟨⟨(i+1,n,true),by simp only;omega,aI g,p⟩,?_,by simp only;omega⟩|refine⟨⟨(c+1,n,true,c+2),by simp only;omega,fA m (aI g),H,rfl⟩,?_,by simp only;omega⟩|refine⟨⟨(i+1,n,false,c+1),by simp only;omega,aI g,p,z⟩,?_,by simp only;omega⟩|refine⟨⟨(i+1,n,true,c+1),by simp only;omega,aI g,p,z⟩,?_,by simp only;omega⟩);(dsimp only;try rw[e]);focus((repeat' first|refine Cn.any ?_;exact Sub.nil _ _ _ (oB ‹_› ‹_› rfl) rfl|exact Cn.any (aM ‹_›)|constructor);done))|exact Cn.t0|apply wZ;rfl|apply KR.mk;kernel_rfl|omega|constructor|apply apV pk (f:=Ln.z) [a] 56;(iterate 9 rfl);exact aA _ _ _;omega;exactλ_=>rfl;exactλ_=>rfl;exact oI;(focus(simp;omega));(focus(simp;omega));rfl;intro n g|apply apV pk (f:=Ln.z) [L[i]] 56;(iterate 9 rfl);exact aA _ _ _;omega;exactλ_=>rfl;exactλ_=>rfl;exact oI;(first|focus(simp;omega)|focus(simp at*;omega));(first|focus(simp;omega)|focus(simp at*;omega));rfl;intro n g|apply apV pk (f:=Ln.z) [L[c]] 56;(iterate 9 rfl);exact aA _ _ _;(focus(simp;omega));exactλ_=>rfl;exactλ_=>rfl;exact oI;(focus(simp;omega));(focus(simp;omega));rfl;intro n g|apply wY;rfl|apply wI;rfl|apply gE;omega|simp<;>omega|intro h;simp at h|intro h)
 all_goals (repeat'(fail))
theorem aLF{L:List α}{a:α}(h:i<j)(hj:j<=L.length):(L.take j++[a]++L.drop j)[i]?=some (L[i]'(by omega)):=by grind
theorem aMf{L:List α}{a:α}(hj:j<=L.length):(L.take j++[a]++L.drop j)[j]?=some a:=by grind
theorem aL1{L:List α}{a:α}(h:j<=i)(hi:i<L.length):(L.take j++[a]++L.drop j)[i+1]?=some L[i]:=by grind
theorem axF{L:List Dt}{q:Nat}(h:q<iQ L d)(hq:q<L.length):aW L[q] d=false:=by
 unfold iQ at h;cases e:L.findIdx? λx=>aW x d with
 |none=>grind
 |some j=>rw[e]at h;simpa using(zfi.1 e).2.2 q h
theorem auL{L:List Dt}(hd:iQ L d=j)(hq:j<L.length):aW L[j] d=true:=by
 unfold iQ at hd;cases e:L.findIdx? λx=>aW x d with
 |none=>grind
 |some q=>rw[e]at hd;subst hd;exact(zfi.1 e).2.1
theorem agL{id id2:Nat}{b c:Option AObj}(a:st id=none)(hb:b=c):StSub (upd st id2 b) (upd (upd (upd st id o) id none) id2 c):=hb▸iR a
theorem aFb(a:Ln)(d:Dt)(st:aD)(hl:a.b.length<100000000000)(R:List Dt)(j:Nat)(o:iQ a.b d=j)(n:cJ a.b j [d]=R):qc 101 [.agg a.z, .agg d.z] st λr S=>(r= .agg a.z/\S=st/\d∈a.b)\/(d∉a.b/\∃id,r= .agg [vi a.key, .seq (a.c.map Cl.z), .vec id 2 0 R.length]/\st id=none/\S=upd st id (some (.arr 51 (R.map Dt.z)))):=by
 have hj:j<=a.b.length:=o▸ajI a.b d;have J:R.length=a.b.length+1:=n▸oT hj;have H:∀i (h:i<j),R[i]?=some (a.b[i]'(by omega)):=λi h=>n▸aLF h hj;have u:R[j]?=some d:=n▸aMf hj;have z:∀i (h:j<=i) (I:i<a.b.length),R[i+1]?=some a.b[i]:=λi h I=>n▸aL1 h I;have h4:∀q (_:q<j) (hq:q<a.b.length),aW a.b[q] d=false:=λq h hq=>axF (o▸h) hq;have h5:=auL o;clear o n;refine pC func101 rfl ?_
 focus(repeat' first|apply wZ;rfl|constructor)
 refine aC (X:={x:Nat//x<=a.b.length/\∀j (h:j<a.b.length),j<x->a.b[j]≠d}) (λi=>(((((St.nil 66 st).var 2 96 (a.z)).var 3 51 (d.z)).var 4 96 ([vi 0, .val (.slice none 0 0), .val (.slice none 0 0)])).pv 5 (vi (i.1:Nat)))) (λi=>a.b.length-i.1) ⟨0,by omega,by omega⟩ ?_ λi=>?_
 ·repeat' first|constructor
 have⟨i,hi,C⟩:=i;dsimp only;by_cases w:a.b.length<=i;rotate_left;have m:i<a.b.length:=by omega
 by_cases hk:a.b[i]=d;have hm:d∈a.b:=hk▸zgm m;rotate_left;have D:∀j (h:j<a.b.length),j<i+1->a.b[j]≠d:=λj h hj=>by
  rcases zls.1 hj with q|q
  ·exact C j h q
  ·subst q;exact hk
 rotate_left;have B:d∉a.b:=λhm=>by
  have⟨j,hj,e⟩:=zgo hm
  exact C j hj (by omega) e
 focus(repeat' first|apply wZ;rfl|constructor|simp<;>omega|intro h;simp at h)
 refine cL 6 51 2 rfl rfl rfl λid k=>?_;refine aC (X:={x:Nat×Nat×Bool×Nat//x.1<=a.b.length/\st x.2.1=none/\x.2.2.1=decide (j<x.1)/\x.2.2.2=x.1+x.2.2.1.toNat}) (λi=>(((((((St.nil 66 (upd st i.1.2.1 (some (.arr 51 ((R.take i.1.2.2.2).map Dt.z))))).var 2 96 (a.z)).var 3 51 (d.z)).var 4 96 ([vi 0, .val (.slice none 0 0), .val (.slice none 0 0)])).pv 6 (.vec i.1.2.1 2 0 i.1.2.2.2)).pv 7 (vb i.1.2.2.1)).pv 8 (vi (i.1.1:Nat)))) (λi=>a.b.length-i.1.1) ⟨(0,id,false,0),by simp,k,by simp,by simp⟩ ?_ λi=>?_
 ·dsimp only
  repeat' first|exact Cn.t0|constructor
 clear C;obtain⟨⟨i,id,f,c⟩,hi,k,hf,hc⟩:=i;simp only at hi k hf hc;dsimp only;have M:(R.take c).length=c:=by rw[zlt];cases f<;>simp at hc<;>omega
 by_cases w:a.b.length<=i;obtain rfl:i=a.b.length:=by omega
 cases f
 obtain rfl:j=a.b.length:=by simp at hf;omega
 obtain rfl:c=a.b.length:=by simpa using hc
 have e:R.take a.b.length++[d]=R:=by rw[<-iB u];exact ztl (by omega)
 have N:(R.take a.b.length++[d]).length=a.b.length+[d].length:=by rw[e,J];rfl
 rotate_left;obtain rfl:c=R.length:=by simp at hc;omega
 rw[List.take_length];rotate_left;have m:i<a.b.length:=by omega
 have p:=kG a.b[i] d;by_cases G:i=j;subst G;obtain rfl:f=false:=by rw[hf];simp
 obtain rfl:c=i:=by simpa using hc
 have e:R.take (c+2)=(R.take c++[d])++[a.b[c]]:=by rw[iB (z c (znr _) m),iB u]
 rw[h5 m]at p;have E:true=decide (c<c+1):=by simp
 rotate_left;have e:R.take (c+1)=R.take c++[a.b[i]]:=by
  cases f
  ·obtain rfl:c=i:=by simpa using hc
   exact iB (H _ (by simp at hf;omega))
  ·obtain rfl:c=i+1:=by simpa using hc
   exact iB (z i (by simp at hf;omega) m)
 have y:f=decide (j<i+1):=by rw[hf,decide_eq_decide];omega
 have v:c+1=i+1+f.toNat:=by omega
 have F:f=false->aW a.b[i] d=false:=λq=>h4 i (by rw[hf]at q;simp at q;omega) m;clear hf;cases f
 rw[F rfl]at p;rotate_left;rotate_left
 all_goals (repeat' first|exact Cn.any ⟨_,_,upd st g (some (.arr 51 (R.map Dt.z))),rfl,zwr _,agL k (by rw[e]), .inr ⟨B,g,by rw[J];rfl,aI b,rfl⟩⟩|apply Cn.cf;focus((apply p);done)|refine Cn.rr ?_;(first|exact .inl ⟨rfl,rfl,hm⟩|exact .inr ⟨B,id,rfl,k,rfl⟩);done|((refine⟨⟨i+1,by omega,D⟩,?_,by simp only;omega⟩);focus((repeat' first|exact Cn.t0|constructor);done))|((first|refine⟨⟨(c+1,g,true,c+2),by simp only;omega,fA k (aI b),E,rfl⟩,?_,by simp only;omega⟩|refine⟨⟨(i+1,g,false,c+1),by simp only;omega,aI b,y,v⟩,?_,by simp only;omega⟩|refine⟨⟨(i+1,g,true,c+1),by simp only;omega,aI b,y,v⟩,?_,by simp only;omega⟩);(dsimp only;try rw[e]);focus((repeat' first|refine Cn.any ?_;exact Sub.nil _ _ _ (oB ‹_› ‹_› rfl) rfl|exact Cn.any (aM ‹_›)|constructor);done))|apply wZ;rfl|apply KR.mk;kernel_rfl|omega|constructor|apply apV pk (f:=Dt.z) [d] 16;(iterate 9 rfl);exact aA _ _ _;omega;exactλ_=>rfl;exactλ_=>rfl;exact zN;(focus(simp;omega));(focus(simp;omega));rfl;intro g b|apply apV pk (f:=Dt.z) [a.b[c]] 16;(iterate 9 rfl);exact aA _ _ _;(focus(simp;omega));exactλ_=>rfl;exactλ_=>rfl;exact zN;(focus(simp;omega));(focus(simp;omega));rfl;intro g b|apply apV pk (f:=Dt.z) [a.b[i]] 16;(iterate 9 rfl);exact aA _ _ _;omega;exactλ_=>rfl;exactλ_=>rfl;exact zN;(focus(simp at*;omega));(focus(simp at*;omega));rfl;intro g b|apply wY;rfl|apply wI;rfl|apply gE;omega|simp<;>omega|exfalso;grind [Dt.ext_iff]|intro h;simp at h)
theorem adJ(a:Ln)(d:Dt)(hl:a.b.length<100000000000):qf 101 [.agg a.z, .agg d.z] (.agg (cF a d).z):=λst=>
 eS (aFb a d _ hl _ _ rfl rfl) λp st' h=>by
  rcases h with⟨rfl,rfl,hd⟩|⟨hd,id,rfl,b,rfl⟩
  ·exact .inr ⟨_,_,zwr _,zsr _,by rw[cF,zp hd],rfl⟩
  ·exact .inl ⟨id,51,(cJ _ _ _).map _,_,st,aA _ _ _,vP, .agg (.cons .refl (.cons .refl (.cons (dI rfl) .nil))),bN b,by rw[cF,zn hd];rfl,rfl⟩
end
section
attribute [local irreducible] Ev PWp
section
variable{P:Program}{tt:TT}{l:List Oper}{d:Md}{r:List Oper}{s:St}{K:St->Prop}{t:Nat}{ty:TypeId}{pos:String}{after:Array Edge}
theorem aNL{T T2:TypeId}{a b:Int}(hx:opd s x=some (.val (.int .i64 a)))(hy:opd s y=some (.val (.int .i64 b)))(hf:bS s [x,y]=true)(hd:Nat.blt t s.n=true)(ht:cX d l r=true)(k:∀c,Ev P l d r (s.put (some t) true (.pv (.val (.int .i64 c)))) K):Ev P l d (⟨some t, .binOp .add T x y T2,ty,pos,after,none⟩::r) s K:=
 nA rfl hx hy (λ_=> .inl ⟨rfl,rfl⟩) (by simp only[bS,zba]at hf;exact⟨λ_=>hf.1,λ_=>hf.2.1,trivial⟩) hd ht (k _)
end
def tot(b:Bs):Nat:=(b.map λd=>d.l.length).sum
theorem aF9(h:i<b.length):tot (b.take (i+1))=tot (b.take i)+b[i].l.length:=by
 unfold tot;rw[zts h,zmd,List.sum_append];simp
theorem aMr(b:Bs)(i:Nat):tot (b.take i)<=tot b:=by
 have:tot b=tot (b.take i)+tot (b.drop i):=by
  unfold tot;rw[<-List.sum_append,<-zmd,List.take_append_drop]
 omega
def aaD(b:Bs):Bool:=decide (b.length<=20)&&(decide (tot b<=100)&&b.all λd=>d.l.all gW)
theorem aMT{y:Nat}(hi:i<b.length)(hy:y<b[i].l.length)(h:gW b[i].l[y]=false):aaD b=false:=by
 unfold aaD
 grind
theorem aFG(b:Bs)(hb:b.length<200000000000000)(hd:∀d∈b,d.l.length<200000000000000/\∀l∈d.l,l.c.length<4611686018427387904):qf 24 [.agg (bsC b)] (vb (aaD b)):=by
 by_cases g:¬b.length<=20
 ·have o:aaD b=false:=by unfold aaD;rw[zdj g];rfl
  rw[o];refine pF func24 rfl λst=>?_
  focus(repeat' first|apply wZ;rfl|constructor)
  refine aC (X:={x:Nat×Int//x.1<=b.length}) (λi=>((((St.nil 56 st).var 1 27 (bsC b)).pv 3 (vi i.1.2)).pv 4 (vi (i.1.1:Nat)))) (λi=>b.length-i.1.1) ⟨(0,0),by simp⟩ ?_ λi=>?_
  ·repeat' first|constructor
  obtain⟨⟨i,n⟩,hi⟩:=i;simp only at hi;dsimp only;by_cases f:b.length<=i;rotate_left;have a:i<b.length:=by omega
  have J:=(hd _ (zgm a)).1
  focus(repeat' first|((iterate 3 (apply jL aT;(iterate 4 rfl)));apply aNL;(iterate 5 rfl);intro n')|apply wZ;rfl|constructor|apply wI;rfl|apply gE;omega|simp<;>omega|intro h;simp at h)
  refine aC (X:={x:Nat//x<=b[i].l.length}) (λy=>(((((St.nil 56 st).var 1 27 (bsC b)).pv 3 (vi n')).pv 4 (vi (i:Nat))).pv 5 (vi (y.1:Nat)))) (λy=>b[i].l.length-y.1) ⟨0,by omega⟩ ?_ λy=>?_
  ·repeat' first|constructor
  have⟨y,hy⟩:=y;dsimp only;by_cases k:b[i].l.length<=y;rotate_left;have c:y<b[i].l.length:=by omega
  have hs:=ajR b[i].l[y] ((hd _ (zgm a)).2 _ (zgm c));rotate_left
  all_goals (repeat' first|((first|refine⟨⟨(i+1,n'),by simp only;omega⟩,?_,by simp only;omega⟩|refine⟨⟨y+1,by omega⟩,?_,by simp only;omega⟩);focus((repeat' first|constructor);done))|apply wZ;rfl|omega|constructor|apply hs|show(_:PV)=_;rw[zql,zdj (by omega)];rfl;done|apply wY;rfl|apply wI;rfl|apply gE;omega|simp<;>omega|intro h;simp at h;omega|intro h;simp at h|intro h)
 replace g:=zdn g
 refine pF func24 rfl λst=>?_
 focus(repeat' first|apply wZ;rfl|constructor)
 refine aC (X:={x:Nat×Nat//x.1<=b.length/\x.2=tot (b.take x.1)/\x.2<=x.1*200000000000000/\(x.2<=100->∀j (h:j<b.length),j<x.1->∀l∈b[j].l,gW l=true)}) (λi=>((((St.nil 56 st).var 1 27 (bsC b)).pv 3 (vi (i.1.2:Nat))).pv 4 (vi (i.1.1:Nat)))) (λi=>b.length-i.1.1) ⟨(0,0),by simp,rfl,by simp,by simp⟩ ?_ λi=>?_;rotate_left;obtain⟨⟨i,n⟩,hi,hn,w,u⟩:=i;simp only at hi hn w u;dsimp only;by_cases f:b.length<=i;have e:decide ((n:Int)<=100)=(decide (tot b<=100)&&b.all λd=>d.l.all gW):=by
  rw[ztl f]at hn;subst hn;by_cases q:tot b<=100
  ·rw[zdt (by omega),zdt q,Bool.true_and,eq_comm,zal]
   intro d B;obtain⟨j,hj,rfl⟩:=zgo B;rw[zal];exact u q j hj (by omega)
  ·rw[zdj (by omega),zdj q];rfl
 have I:decide ((b.length:Int)<=20)=decide (b.length<=20):=by rw[decide_eq_decide];omega
 rotate_left;have a:i<b.length:=by omega
 have⟨M,H⟩:=hd _ (zgm a);have ht:=aF9 a;have o:=λy h=>aMT (y:=y) a h
 focus(repeat' first|apply wZ;rfl|constructor|apply wI;rfl|apply gE;omega|simp<;>omega|intro h;simp at h)
 refine aC (X:={x:Nat//x<=b[i].l.length/\(n+b[i].l.length<=100->∀j (h:j<b[i].l.length),j<x->gW b[i].l[j]=true)}) (λy=>(((((St.nil 56 st).var 1 27 (bsC b)).pv 3 (vi ((n+b[i].l.length:Nat):Int))).pv 4 (vi (i:Nat))).pv 5 (vi (y.1:Nat)))) (λy=>b[i].l.length-y.1) ⟨0,by omega,by omega⟩ ?_ λy=>?_;rotate_left;have⟨y,hy,m⟩:=y;dsimp only;have F:¬(y<b[i].l.length/\n+b[i].l.length<=100)->(n+b[i].l.length<=100->∀j (h:j<b.length),j<i+1->∀l∈b[j].l,gW l=true):=λh q j hj C l hl=>by
  rcases zls.1 C with r|r
  ·exact u (by omega) j hj r l hl
  ·subst r
   obtain⟨z,hz,rfl⟩:=zgo hl;exact m q z hz (by omega)
 have E:n+b[i].l.length=tot (b.take (i+1)):=by omega
 by_cases k:b[i].l.length<=y;rotate_left;have c:y<b[i].l.length:=by omega
 have hs:=ajR b[i].l[y] (H _ (zgm c));have p:=o y c;have v:gW b[i].l[y]=true->(n+b[i].l.length<=100->∀j (h:j<b[i].l.length),j<y+1->gW b[i].l[j]=true):=λh q j hj D=>by
  rcases zls.1 D with r|r
  ·exact m q j hj r
  ·subst r;exact h
 generalize N:gW b[i].l[y]=G at*;cases G
 rotate_left;rotate_left
 all_goals (repeat' first|((first|refine⟨⟨(i+1,n+b[i].l.length),by simp only;omega,E,by simp only;omega,F (by omega)⟩,?_,by simp only;omega⟩|refine⟨⟨y+1,by omega,v rfl⟩,?_,by simp only;omega⟩);focus((repeat' first|constructor);done))|apply wZ;rfl|omega|constructor|apply hs|show(_:PV)=_;(first|(rw[zql];unfold aaD;rw[<-e,<-I]);done|(rw[p rfl]);done);done|apply wY;rfl|apply wI;rfl|apply gE;omega|simp<;>omega|intro h;simp at h;omega|intro h;simp at h)
 all_goals (repeat'(congr 2;rw[zql];omega))
end
section
attribute [local irreducible] Ev PWp
def LnS(l:Ln):Prop:=l.b.length<=1000/\l.c.length<=1000/\∀c∈l.c,c.p.length<=1000
def BsS(n:Nat)(b:Bs):Prop:=b.length<=20/\∀d∈b,d.l.length<=n/\∀l∈d.l,LnS l
theorem aKK{l:Ln}(h:gW l=true):LnS l:=by
 unfold gW at h;simp only[zba,zde,zal,oW]at h;exact⟨by omega,by omega,λc hc=>by grind⟩
theorem aLc(h:aaD b=true):BsS 100 b:=by
 unfold aaD at h;simp at h;have⟨a,g,c⟩:=h;refine⟨a,λd hd=>⟨?_,λl hl=>aKK (c d hd l hl)⟩⟩;obtain⟨j,hj,rfl⟩:=zgo hd;have e:=aF9 hj;have f:=aMr b (j+1);omega
theorem BsS.l(h:BsS n b)(k:Int):(aF b k).length<=n/\∀l∈aF b k,LnS l:=by
 unfold aF;split
 ·rename_i q
  simp only[okT,zba,zde]at q;have hk:k.toNat<b.length:=by omega
  rw[zep b _ hk];exact h.2 _ (zgm _)
 simp
theorem arQ(L:List Ln)(a:Ln):(sN L a).length<=L.length+1:=by
 unfold sN;split
 ·simp
 ·obtain⟨j,hj,e,_⟩:=arS L _
  rw[e,zin,aiO hj];simp
theorem BsS.p(h:BsS n b)(hn:n<=1000):∀d∈b,d.l.length<1000000000000/\∀x∈d.l,x.b.length<1000000000000/\x.c.length<1000000000000/\∀c∈x.c,c.p.length<1000000000000:=λd hd=>by
 have⟨e,a⟩:=h.2 d hd
 refine⟨by omega,λx hx=>?_⟩
 have⟨f,g,i⟩:=a x hx
 grind
theorem BsS.e(h:BsS n b)(hn:n<=1000):b.length<100000000000/\∀d∈b,d.l.length<100000000000:=⟨by have:=h.1;omega,λd hd=>by have:=(h.2 d hd).1;omega⟩
theorem aBc(h:LnS a)(b:Ln):qf 49 [.agg a.z, .agg b.z] (vb (decide (a=b))):=akM a b (by have:=h.1;omega) (by have:=h.2.1;omega) λc hc=>by have:=h.2.2 c hc;omega
def BsB(b:Bs):Prop:=b.length<200000000000000/\∀d∈b,d.l.length<200000000000000/\∀l∈d.l,l.c.length<4611686018427387904
end
section
theorem uC{a b:Dt}(e:aW b a=true)(f:aW c b=true):aW c a=true:=by
 unfold aW at*
 grind
theorem acI{a b:Dt}(h:aW a b=false)(c:a≠b):aW b a=true:=by
 rw[Ne,Dt.ext_iff]at c;unfold aW at*
 grind
def aCS(l:List Dt):Prop:=l.Pairwise λa b=>aW b a=true
def aEG(l:List Dt)(d:Dt):List Dt:=if d∈l then l else cJ l (iQ l d) [d]
theorem aGZ(l:Ln)(d:Dt):cF l d={l with b:=aEG l.b d}:=by
 unfold cF aEG;split<;>rfl
theorem aFs(l:List Dt)(d x:Dt):x∈aEG l d↔x=d\/x∈l:=by
 unfold aEG;split
 ·grind
 ·unfold cJ
  have e:=List.take_append_drop (iQ l d) l
  grind
theorem aDp{l:List Dt}(h:aCS l)(d:Dt):aCS (aEG l d):=by
 unfold aEG;split
 ·exact h
 rename_i hd;unfold cJ aCS;have e:=List.take_append_drop (iQ l d) l;have hp:=h;unfold aCS at hp;rw[<-e,List.pairwise_append]at hp;have b:∀x∈l.take (iQ l d),aW d x=true:=λx hx=>by
  obtain⟨q,hq,rfl⟩:=zgo hx
  rw[zlt]at hq
  rw[List.getElem_take]
  exact acI (axF (by omega) (by omega)) λq=>hd (q▸zgm _)
 have a:∀x∈l.drop (iQ l d),aW x d=true:=λx hx=>by
  obtain⟨q,hq,rfl⟩:=zgo hx
  rw[zld]at hq
  rw[List.getElem_drop]
  have h0:=auL (L:=l) rfl (show iQ l d<l.length by omega)
  rcases Nat.eq_zero_or_pos q with rfl|c
  ·exact h0
  ·exact uC h0 (List.pairwise_iff_getElem.1 h _ _ (by omega) (by omega) (by omega))
 rw[List.pairwise_append,List.pairwise_append];refine⟨⟨hp.1,List.pairwise_singleton ..,λx hx y hy=>?_⟩,hp.2.1,λx hx y hy=>?_⟩
 ·rw[zms.1 hy];exact b x hx
 ·rcases zma.1 hx with q|q
  ·exact hp.2.2 x q y hy
  ·rw[zms.1 q];exact a y hy
def upR(l:List Dt)(k:Nat):Bool:=decide (k=0)||aW l[k]! l[k-1]!
theorem aKW{l:List Dt}(h:∀k<l.length,upR l k=true):aCS l:=by
 have key:∀j (hj:j<l.length) i (hi:i<j),aW l[j] (l[i]'(by omega))=true:=by
  intro j
  induction j with
  |zero=>simp
  |succ j ih=>
   intro hj i hi;have:=h _ hj;unfold upR at this;rw[zep l (j+1) hj,show j+1-1=j from rfl,zep l j (by omega)]at this;rcases zls.1 hi with q|q
   ·exact uC (ih _ i q) this
   grind
 exact List.pairwise_iff_getElem.2 λi j hi hj a=>key j hj i a
end
end Go.Proofs.YtigmnfepdlbcpaaGreatDoor
namespace Go.Proofs.YtigmnfepdlbcpaaGreatDoor.T
open Go Go.Abs Tryz
variable{a i id n:Nat}{S st:aD}{R':PV->aD->Prop}{y:Int}{b c q u:Pt}{R d m s:List Pt}{K V α:Type}{f g:Pt->Bool}{c5 c8 c9:AObj}
section
structure Sp where
 m:Int
 dev:Int
 seq:Int
 deriving DecidableEq,Inhabited
def Sp.z(a:Sp):List PV:=[.val (.int .i64 (a.m)), .val (.int .i64 (a.dev)), .val (.int .i64 (a.seq))]
def Sp.zero :Sp:=⟨0,0,0⟩
theorem Sp.ext_iff(a b:Sp):a=b↔a.m=b.m/\a.dev=b.dev/\a.seq=b.seq:=by cases a;cases b;simp
theorem Sp.eta(a:Sp):Sp.mk a.m a.dev a.seq=a:=rfl
theorem Sp.eqb(a b:Sp):(decide (a.m=b.m)&&(decide (a.dev=b.dev)&&(decide (a.seq=b.seq))))=decide (a=b):=by simp[Sp.ext_iff]
structure Nm where
 d:Dt
 a:Int
 deriving DecidableEq,Inhabited
def Nm.z(a:Nm):List PV:=[.val (.int .i64 (a.d.dev)), .val (.int .i64 (a.d.seq)), .val (.int .i64 (a.a))]
def Nm.zero :Nm:=⟨Dt.zero,0⟩
theorem Nm.ext_iff(a b:Nm):a=b↔a.d=b.d/\a.a=b.a:=by cases a;cases b;simp
theorem Nm.eta(a:Nm):Nm.mk a.d a.a=a:=rfl
theorem Nm.eqb(a b:Nm):(decide (a.d=b.d)&&(decide (a.a=b.a)))=decide (a=b):=by simp[Nm.ext_iff]
theorem Nm.eqz(a:Nm):(decide (a.d=Dt.zero)&&(decide (a.a=0)))=decide (a=Nm.zero):=by simp[Nm.ext_iff,Nm.zero]
end
section
attribute [local irreducible] Ev PWp
def aH(p:Pt):Nm:=⟨p.d,p.a⟩
def aJ(p:Pt):Nm:=⟨p.after,p.afterAt⟩
def aK(p:Pt):Sp:=⟨p.m,p.d.dev,p.d.seq⟩
def withinB(n a b:Int):Bool:=decide (n>=a)&&decide (n<=b)
def mayN(n:Nm):Bool:=(withinB n.d.dev 1 64&&withinB n.d.seq 1 1048576)&&withinB n.a 0 1999
def bP(p:Pt):Bool:=((((decide (p.val.k=1)&&decide (p.val.s=e0))&&withinB p.val.n 0 255)&&withinB p.m 1 1125899906842624)&&mayN (aH p))&&(decide (aJ p=Nm.zero)||mayN (aJ p))
def gD(a b:Sp):Bool:=if a.m≠b.m then decide (a.m<b.m)else if a.dev≠b.dev then decide (a.dev<b.dev)else decide (a.seq<b.seq)
def eJ(p q:Pt):Bool:=gD (aK p) (aK q)||(decide (aK p=aK q)&&decide (p.a<q.a))
theorem qV(p:Pt):qf 292 [.agg p.z] (.agg (aH p).z):=by
 refine pF func292 rfl λst=>?_
 repeat' first|apply wZ;rfl|constructor
theorem tX(p:Pt):qf 350 [.agg p.z] (.agg (aJ p).z):=by
 refine pF func350 rfl λst=>?_
 repeat' first|apply wZ;rfl|constructor
theorem nQ(p:Pt):qf 348 [.agg p.z] (.agg (aK p).z):=by
 refine pF func348 rfl λst=>?_
 repeat' first|apply wZ;rfl|constructor
theorem uL(n a b:Int):qf 344 [vi n,vi a,vi b] (vb (withinB n a b)):=by
 refine pF func344 rfl λst=>?_
 repeat' first|apply wZ;rfl|constructor
theorem jD(n:Nm):qf 345 [.agg n.z] (vb (mayN n)):=by
 refine pF func345 rfl λst=>?_
 repeat' first|apply wZ;rfl|constructor|apply uL|apply wY;rfl
theorem oL(p:Pt):qf 381 [.agg p.z] (vb (bP p)):=by
 refine pF func381 rfl λst=>?_
 repeat' first|apply wZ;rfl|constructor|(first|apply uL|apply qV p|apply tX p|apply jD (aH p)|apply jD (aJ p))|show(_:PV)=_;simp only[bP,Dt.eqz,Nm.eqz];done|apply wY;rfl
def aOr(a:Sp):List PV:=[vi a.m,vi a.dev,vi a.seq]
theorem qK(a:Sp):qf 413 [.agg a.z] (.agg (aOr a)):=by
 refine pF func413 rfl λst=>?_
 repeat' first|apply wZ;rfl|constructor
def cmpL :List Int->List Int->Int
 |[],[]=>0
 |[],_::_=> -1
 |_::_,[]=>1
 |a::l,b::m=>if kN a b=0 then cmpL l m else kN a b
theorem anQ{l m:List Int}(h:i<l.length)(a:i<m.length):cmpL (l.drop i) (m.drop i)=if kN l[i] m[i]=0 then cmpL (l.drop (i+1)) (m.drop (i+1))else kN l[i] m[i]:=by
 rw[List.drop_eq_getElem_cons h,List.drop_eq_getElem_cons a,cmpL]
theorem compare_spec(l m:List Int)(hl:l.length<4611686018427387904):qf 43 [.seq (l.map I1), .seq (m.map I1)] (vi (cmpL l m)):=by
 refine pF func43 rfl λst=>?_
 repeat' first|apply wZ;rfl|constructor
 refine aC (X:={x:Nat//x<=l.length/\x<=m.length/\cmpL (l.drop x) (m.drop x)=cmpL l m}) (λi=>((((((St.nil 36 st).pv 0 (.seq (l.map I1))).pv 1 (.seq (m.map I1))).pv 9 (.seq (l.map I1))).pv 10 (vi ((l.map I1).length:Nat))).pv 11 (vi (i.1:Nat)))) (λi=>l.length-i.1) ⟨0,by omega,by omega,by simp⟩ ?_ λi=>?_;rotate_left;have⟨i,b,c,a⟩:=i;dsimp only
 all_goals (repeat' first|refine⟨⟨i+1,by omega,by omega,by rw[<-a,anQ (i:=i) (by omega) (by omega),zp ‹_›]⟩,?_,?_⟩|apply wZ;rfl|omega|constructor|apply mA _ _|show(_:PV)=_;rw[<-a];(first|rw[anQ (by omega) (by omega),zn ‹_›];done|rw[List.drop_eq_nil_of_le (show l.length<=i by omega),List.drop_eq_getElem_cons (show i<m.length by omega)];rfl|rw[List.drop_eq_nil_of_le (show l.length<=i by omega),List.drop_eq_nil_of_le (show m.length<=i by omega)];rfl|rw[List.drop_eq_nil_of_le (show m.length<=i by omega),List.drop_eq_getElem_cons (show i<l.length by omega)];rfl);done|apply wY;rfl|apply wI;rfl|apply gE;omega|simp<;>omega|intro h;simp at h|intro h)
def aIK(a b:Sp):Int:=if a=b then 0 else cmpL [a.m,a.dev,a.seq] [b.m,b.dev,b.seq]
theorem aDC(a b:Sp):qf 397 [.agg a.z, .agg b.z] (vi (aIK a b)):=by
 refine pF func397 rfl λst=>?_
 repeat' first|apply aCu 5;rfl;rfl;rfl|apply aCu 6;rfl;rfl;rfl|apply wZ;rfl|apply KR.mk;kernel_rfl|constructor|(first|apply qK a|apply qK b|apply(compare_spec [a.m,a.dev,a.seq] [b.m,b.dev,b.seq] (show 3<4611686018427387904 from by omega)))|show(_:PV)=_;(simp_all[aIK,Sp.ext_iff];done);done|apply slA pk (rows:=[a.m,a.dev,a.seq].map I1);(iterate 7 rfl);rotate_left;rfl;rfl|apply slA pk (rows:=[b.m,b.dev,b.seq].map I1);(iterate 7 rfl);rotate_left;rfl;rfl|apply wY;rfl|intro h;simp at h
theorem cmpI_lt(a b:Int):kN a b<0↔a<b:=by unfold kN;omega
theorem cmpI_eq(a b:Int):kN a b=0↔a=b:=by unfold kN;omega
theorem aEH(a b:Sp):decide (aIK a b<0)=gD a b:=by
 unfold aIK gD;by_cases h:a=b
 ·grind
 ·rw[zn h]
  simp only[cmpL,cmpI_eq];by_cases c:a.m=b.m
  ·by_cases f:a.dev=b.dev
   ·have g:¬a.seq=b.seq:=λe=>h ((Sp.ext_iff _ _).2 ⟨c,f,e⟩)
    simp[c,f,g,cmpI_lt]
   ·simp[c,f,cmpI_lt]
  ·simp[c,cmpI_lt]
theorem pU(a b:Sp):qf 349 [.agg a.z, .agg b.z] (vb (gD a b)):=by
 rw[<-aEH];refine pF func349 rfl λst=>?_
 repeat' first|apply wZ;rfl|constructor|apply aDC a b|apply wY;rfl
theorem aNA{f:FuncId}{args:List PV}{R:PV->aD->Prop}(h:qc f args st R)(i:∀p st',R p st'->∃q,Wk p q/\R' q st'):qc f args st R':=
 ⟨h.1,λw g vs hm hv=>(h.2 w g _ hm hv).mono λe w' ⟨v,r,st',g',a,b,c,h4⟩=>by
  have⟨q,k1,k2⟩:=i _ _ b
  exact⟨v,q,st',g',a,k2,k1 _ _ c,h4⟩⟩
theorem Wk.und(p:PV):Wk p .und:=λ_ _ _=>by simp[Rep]
def Nm.vals(k:Nm):List Value:=[.int .i64 k.d.dev, .int .i64 k.d.seq, .int .i64 k.a]
def aNm(k:Dt):List Value:=[.int .i64 k.dev, .int .i64 k.seq]
def Nm.enc(k:Nm):Value:= .agg k.vals.toArray
def aBZ(k:Dt):Value:= .agg (aNm k).toArray
theorem Nm.key :KeyOK qp 306 Nm.enc (λk=> .agg k.z):=
 zY aT _ rfl rfl (λ_=>rfl) (λa b=>by show some _=_;rw[Dt.eqb,Nm.eqb]) (λ_=>rfl) (by kernel_rfl)
theorem aK4 :KeyOK qp 51 aBZ (λk=> .agg k.z):=
 zY aT _ rfl rfl (λ_=>rfl) (λa b=>by show some _=_;rw[Dt.eqb]) (λ_=>rfl) (by kernel_rfl)
def ptF(p:Pt):PV:= .agg p.z
def oX(n:Int):PV:=(vi n)
def eH(l:List Pt):List (Nm×Pt):=l.foldl (λm p=>dE (aH p) p m) []
def fO(l:List Pt):List (Dt×Int):=l.foldl (λm p=>dE p.d p.m m) []
def xI(m:List (Nm×Pt))(t:List (Dt×Int))(p:Pt):Bool:= !((cK (aH p) m).isSome|| !bP p||(match cK p.d t with|some x=>decide (x≠p.m)|none=>false))
def mF :List Pt->List (Nm×Pt)->List (Dt×Int)->Bool
 |[],_,_=>true
 |p::r,m,t=>xI m t p&&mF r (dE (aH p) p m) (dE p.d p.m t)
def aD8(m:List (Nm×Pt))(p:Pt):Bool:=decide (aJ p=Nm.zero)||(match cK (aJ p) m with|some u=>eJ u p|none=>false)
def fK(l:List Pt):Bool:=mF l [] []&&l.all (aD8 (eH l))
theorem aoD{l:List Pt}(h:i<l.length):eH (l.take (i+1))=dE (aH l[i]) l[i] (eH (l.take i)):=by
 rw[zts h,eH,List.foldl_append];rfl
theorem aoS{l:List Pt}(h:i<l.length):fO (l.take (i+1))=dE l[i].d l[i].m (fO (l.take i)):=by
 rw[zts h,fO,List.foldl_append];rfl
theorem avI{l:List Pt}(h:i<l.length){m t}:mF (l.drop i) m t=(xI m t l[i]&&mF (l.drop (i+1)) (dE (aH l[i]) l[i] m) (dE l[i].d l[i].m t)):=by
 rw[List.drop_eq_getElem_cons h];rfl
theorem qT(p q:Pt):qf 382 [.agg p.z, .agg q.z] (vb (eJ p q)):=by
 refine pF func382 rfl λst=>?_
 repeat' first|apply wZ;rfl|apply KR.mk;kernel_rfl|constructor|(first|apply nQ p|apply nQ q|apply pU (aK p) (aK q))|show(_:PV)=_;simp only[eJ,Sp.eqb];done|apply wY;rfl
theorem aIc(l:List Pt)(st:aD)(hl:l.length<4611686018427387904):qc 317 [.seq (l.map Pt.z)] st λp st'=>(∃m,p= .tup [m,vb (fK l)])/\st'=st:=by
 refine pC func317 rfl ?_
 repeat' first|apply wZ;rfl|constructor
 refine mkM (enc:=Nm.enc) (f:=ptF) rfl λa j=>?_
 repeat' first|apply wZ;rfl|constructor
 refine mkM (enc:=aBZ) (f:=oX) rfl λid2 b=>?_;have j:st a=none:=j;have o:a≠id2:=by intro e;subst e;have:=b;simp only[St.put,St.pv,St.sst,aA]at this;cases this
 have b:st id2=none:=by have:=b;simp only[St.put,St.pv,St.sst]at this;exact(aB (Ne.symm o)).symm.trans this
 have w:=Ne.symm o
 repeat' first|apply wZ;rfl|constructor
 refine aC (X:={x:Nat//x<=l.length/\mF l [] []=mF (l.drop x) (eH (l.take x)) (fO (l.take x))}) (λi=>(((((((St.nil 94 (upd (upd st a (some (.map (aY Nm.enc ptF (eH (l.take i.1)))))) id2 (some (.map (aY aBZ oX (fO (l.take i.1))))))).pv 0 (.seq (l.map Pt.z))).pv 4 (.mref a)).pv 5 (.mref id2)).pv 18 (.seq (l.map Pt.z))).pv 19 (vi ((l.map Pt.z).length:Nat))).pv 20 (vi (i.1:Nat)))) (λi=>l.length-i.1) ⟨0,by omega,rfl⟩ ?_ λi=>?_;rotate_left;have⟨i,hi,c⟩:=i;dsimp only;have hs:=λh:i<l.length=>avI h (m:=eH (l.take i)) (t:=fO (l.take i));have k:=λh:i<l.length=>aoD h;have n:=λh:i<l.length=>aoS h
 repeat' first|apply wDm pk;rfl;kernel_rfl;rfl;rfl|apply Cn.cf;focus(((first|apply qV|apply oL));done)|refine Cn.any ⟨_,_,?zs,rfl,zwr _,?zh,?zr⟩;(case zh=>(refine aG ?_ ‹_›;(repeat refine aG ?_ ‹_›);exact zsr _));(case zr=>(have e:fK l=false:=(by unfold fK;rw[c,hs (by omega)];first|simp[xI, *];done|(rcases‹_\/_›with q|q<;>simp[xI, *]));exact⟨⟨.val (.map none),by rw[e]⟩,rfl⟩))|refine⟨⟨i+1,by omega,by rw[c,hs (by omega),k (by omega),n (by omega)];simp[xI, *]⟩,?_,?_⟩;simp only[k (show i<l.length by omega),n (show i<l.length by omega)]|refine Cn.any (cZ ?_);simp only[St.pv,St.put,St.sst,St.setv,St.nil,St.var,eX];rw[aOm ‹_›];(done)|apply wZ;rfl|omega|constructor|apply aGX pk Nm.key (f:=ptF);(iterate 5 rfl);rotate_left;rfl;(focus((repeat (first|exact aA _ _ _|refine(aB ‹_›).trans ?_));done));rfl;intro v hv;rotate_left;intro hv;rotate_left|apply meA pk Nm.key (f:=ptF) (z:=Pt.zero);(iterate 6 rfl);(focus((repeat (first|exact aA _ _ _|refine(aB ‹_›).trans ?_));done));rfl|apply esA pk Nm.key (f:=ptF);(iterate 4 rfl);exact aA _ _ _;rfl|apply aGX pk aK4 (f:=oX);(iterate 5 rfl);rotate_left;rfl;exact aA _ _ _;rfl;intro v hv;rotate_left;intro hv;rotate_left|apply muA pk aK4 (f:=oX);exact .inr rfl;(iterate 5 rfl);(focus((repeat (first|exact aA _ _ _|refine(aB ‹_›).trans ?_));done));rfl|apply wY;rfl|apply wI;rfl|apply gE;omega|simp<;>omega|intro h;simp at h
 have u:l.take i=l:=ztl (by omega);have B:mF l [] []=true:=by rw[c,List.drop_eq_nil_of_le (by omega)];rfl
 refine aC (X:={x:Nat//x<=l.length/\(l.take x).all (aD8 (eH (l.take i)))=true}) (λy=>(((((St.nil 94 (upd (upd st a (some (.map (aY Nm.enc ptF (eH (l.take i)))))) id2 (some (.map (aY aBZ oX (fO (l.take i))))))).pv 4 (.mref a)).pv 65 (.seq (l.map Pt.z))).pv 66 (vi ((l.map Pt.z).length:Nat))).pv 67 (vi (y.1:Nat)))) (λy=>l.length-y.1) ⟨0,by omega,rfl⟩ ?_ λy=>?_;rotate_left;clear hs k n;have⟨y,hy,g⟩:=y;dsimp only
 all_goals (repeat' first|apply Cn.cf;focus(((first|apply tX|apply qT|apply qT Pt.zero));done)|refine Cn.any ⟨_,_,?zs,rfl,zwr _,?zh,?zr⟩;(case zh=>(refine aG ?_ ‹_›;(repeat refine aG ?_ ‹_›);exact zsr _));(case zr=>(first|have e:fK l=false:=(by unfold fK;simp only[u]at*;rw[B,Bool.true_and,List.all_eq_false];refine⟨l[y]'‹_›,zgm _,?_⟩;simp[aD8,Nm.ext_iff,Dt.ext_iff,Nm.zero,Dt.zero,and_assoc, *];try(intros;omega));exact⟨⟨.val (.map none),by rw[e]⟩,rfl⟩|have e:fK l=true:=(by unfold fK;simp only[u]at*;rw[B,Bool.true_and,<-g,ztl (by omega)]);exact⟨⟨.mref a,by rw[e]⟩,rfl⟩))|refine⟨⟨y+1,by omega,by simp only[u]at*;rw[zts (by omega),List.all_append,g];simp[aD8,Nm.ext_iff,Dt.ext_iff,Nm.zero,Dt.zero,and_assoc, *];try grind⟩,?_,?_⟩|exact Cn.t0|apply wZ;rfl|omega|constructor|apply aGX pk Nm.key (f:=ptF);(iterate 5 rfl);rotate_left;rfl;(focus((repeat (first|exact aA _ _ _|refine(aB ‹_›).trans ?_));done));rfl;intro v hv;rotate_left;intro hv;rotate_left|apply wY;rfl|apply wI;rfl|apply gE;omega|simp<;>omega|intro h;simp at h)
def eV(a b:Pt):Int:=if aK a=aK b then a.a-b.a else if gD (aK b) (aK a)then-1 else 1
theorem mZ{p:Pt}(h:bP p=true):0<=p.a/\p.a<=1999:=by
 simp only[bP,mayN,withinB,zba,zde]at h;exact h.1.2.2
theorem kP(a b:Pt)(ha:bP a=true)(hb:bP b=true):qf 353 [.agg a.z, .agg b.z] (vi (eV a b)):=by
 have c:=mZ ha;have e:=mZ hb;refine pF func353 rfl λst=>?_
 repeat' first|apply wZ;rfl|apply KR.mk;kernel_rfl|omega|constructor|(first|apply nQ a|apply nQ b|apply pU (aK b) (aK a))|show(_:PV)=_;simp only[eV,Sp.ext_iff];simp_all;done|apply wY;rfl|intro h;simp at h|intro h
theorem alM(a:Sp):gD a a=false:=by simp[gD]
theorem akY(a b:Sp):gD a b=true↔a.m<b.m\/a.m=b.m/\(a.dev<b.dev\/a.dev=b.dev/\a.seq<b.seq):=by
 unfold gD
 grind
def fF(a b:Pt):Prop:=gD (aK b) (aK a)=true\/aK a=aK b/\a.a<b.a
theorem amQ(a b:Pt):eV a b<0↔fF a b:=by
 unfold eV fF;by_cases h:aK a=aK b
 ·rw[h,alM];simp;omega
 grind
abbrev Fp :={p:Pt//bP p=true}
instance : Inhabited Fp:=⟨⟨⟨⟨1,0,e0⟩,⟨1,1⟩,0,1,Dt.zero,0,false⟩,by decide⟩⟩
def aFA(a b:Fp):Int:=eV a.1 b.1
theorem fU(a b:Pt):fF a b↔b.m<a.m\/b.m=a.m/\(b.d.dev<a.d.dev\/b.d.dev=a.d.dev/\(b.d.seq<a.d.seq\/b.d.seq=a.d.seq/\a.a<b.a)):=by
 unfold fF;rw[akY,Sp.ext_iff];simp only[aK];omega
theorem aEP :Go.Sort.SWO (ltOf aFA):=by
 have h:∀x y:Fp,ltOf aFA x y=true↔fF x.1 y.1:=λx y=>by rw[ltOf,zde];exact amQ _ _
 have hf:∀x y:Fp,ltOf aFA x y=false↔¬fF x.1 y.1:=λx y=>by grind
 refine⟨λx=>(hf x x).2 ?_,λx y z a b=>?_,λx y z a b=>?_⟩
 ·rw[fU];omega
 ·rw[h,fU]at a b⊢;omega
 ·rw[hf,fU]at a b⊢;omega
def gO(l:List Pt)(k:Nm):List Pt:=l.filter λp=>decide (aJ p=k)
theorem aaJ{l:List Pt}(h:i<l.length)(k:Nm):gO (l.take (i+1)) k=if aJ l[i]=k then gO (l.take i) k++[l[i]]else gO (l.take i) k:=by
 unfold gO;rw[zts h,List.filter_append]
 grind
def agP(x:Nat×Nat):PV:= .vec x.1 11 0 x.2
structure FamB (st:aD) (l:List Pt) (idm:Nat) (K:List (Nm×(Nat×Nat))) (S:aD):Prop where
 old:∀j,st j≠none->S j=st j
 hm:S idm=some (.map (aY Nm.enc agP K))
 mf:st idm=none
 arr:∀k id n,(k,(id,n))∈K->S id=some (.arr 154 ((gO l k).map Pt.z))/\n=(gO l k).length/\st id=none
 keys:(K.map (·.1)).Nodup
 ids:(K.map (·.2.1)).Nodup
 non:∀k,cK k K=none->gO l k=[]
theorem uD{K V:Type}[DecidableEq K]{k:K}{v:V}:∀{l:List (K×V)},cK k l=some v->(k,v)∈l
  |(k',v')::l,h=>by
    simp only[cK]at h
    split at h
    · grind
    · exact zmm _ (uD h)
theorem afB(l:List Pt)(hl:l.length<4611686018427387904):qf 317 [.seq (l.map Pt.z)] (.tup [.und,vb (fK l)]):=λst=>
 aNA (aIc l _ hl) λp st' ⟨⟨m,e⟩,h⟩=>⟨_,e▸Wk.tup (.cons (Wk.und m) (.cons (zwr _) .nil)),rfl,h⟩
theorem aaQ :Tryz.prog.bytesOf 154=96:=rfl
theorem FamB.fresh{l:List Pt}{idm:Nat}{K:List (Nm×(Nat×Nat))}(h:FamB st l idm K S)(a:S id=none):st id=none/\id≠idm/\∀k i n,(k,(i,n))∈K->id≠i:=by
 refine⟨?_,?_,?_⟩
 ·cases hs:st _ with
  |none=>rfl
  |some o=>have:=h.old id (by grind);grind
 ·intro e;subst e;rw[h.hm]at a;cases a
 ·intro k i n hk e;subst e;rw[(h.arr k _ n hk).1]at a;cases a
theorem FamB.notm{l:List Pt}{idm:Nat}{K:List (Nm×(Nat×Nat))}(h:FamB st l idm K S){k:Nm}(hk:(k,(i,n))∈K):i≠idm:=by
 intro e;subst e;have:=(h.arr k _ n hk).1;rw[h.hm]at this;cases this
theorem vJ{K V:Type}[DecidableEq K](k k':K)(v:V):∀(l:List (K×V)),cK k' (dE k v l)=if k'=k then some v else cK k' l
 |[]=>rfl
 |e::l=>by
  have a:=vJ k k' v l
  simp only[dE]
  split
  ·simp only[cK];grind
  ·simp only[cK,a];grind
theorem zZ{K V:Type}[DecidableEq K]{k:K}{v:V}{x:K×V}:∀{l:List (K×V)},(l.map (·.1)).Nodup->x∈dE k v l->x=(k,v)\/x∈l/\x.1≠k
 |[],_,h=>by simp only[dE,zms]at h;exact .inl h
 |e::l,hn,h=>by
  simp at hn
  simp only[dE]at h
  split at h
  ·grind
  ·rename_i b
   rcases zmc.1 h with h|h
   ·grind
   ·rcases zZ hn.2 h with h|⟨h,a⟩
    ·exact .inl h
    grind
theorem ahC{K V:Type}[DecidableEq K]{k:K}{v:V}:∀{l:List (K×V)},(l.map (·.1)).Nodup->((dE k v l).map (·.1)).Nodup
 |[],_=>by simp[dE]
 |e::l,hn=>by
  simp at hn
  simp only[dE]
  split
  ·grind
  ·rename_i b
   simp only[zmp,List.nodup_cons];refine⟨λhm=>?_,ahC hn.2⟩;have⟨x,hx,a⟩:=zmq.1 hm;rcases zZ hn.2 hx with rfl|⟨h,_⟩
   ·exact b a
   grind
theorem anK{K V:Type}[DecidableEq K]{k:K}{v:V}{g:V->Nat}:∀{l:List (K×V)},(l.map λe=>g e.2).Nodup->(l.map (·.1)).Nodup->(∀e∈l,g e.2≠g v)->((dE k v l).map λe=>g e.2).Nodup
 |[],_,_,_=>by simp[dE]
 |e::l,hn,hk,hv=>by
  simp at hn hk
  simp only[dE]
  split
  ·grind
  ·simp only[zmp,List.nodup_cons]
   refine⟨λhm=>?_,anK hn.2 hk.2 λx hx=>hv x (zmm _ hx)⟩;have⟨x,hx,a⟩:=zmq.1 hm;rcases zZ hk.2 hx with rfl|⟨h,_⟩
   ·exact hv e List.mem_cons_self a.symm
   grind
theorem aaR{α:Type}{g:α->Nat}:∀{l:List α},(l.map g).Nodup->∀{a b},a∈l->b∈l->g a=g b->a=b
 |[],_,_,_,h,_,_=>by grind
 |x::l,hn,a,b,ha,hb,e=>by
  simp at hn
  rcases zmc.1 ha with ha|ha<;>rcases zmc.1 hb with hb|hb
  ·rw[ha,hb]
  ·grind
  ·grind
  ·exact aaR hn.2 ha hb e
theorem FamB.step{st S S1:aD}{l:List Pt}{i:Nat}(hi:i<l.length){idm id m:Nat}{K:List (Nm×(Nat×Nat))}(h:FamB st (l.take i) idm K S)(c:S id=none)(hm:m=(gO (l.take i) (aJ l[i])).length+1)(q:∀j,(∀n,(aJ l[i],(j,n))∉K)->S1 j=S j):
  FamB st (l.take (i+1)) idm (dE (aJ l[i]) (id,m) K) (upd (upd S1 id (some (.arr 154 ((gO (l.take i) (aJ l[i])++[l[i]]).map Pt.z)))) idm (some (.map (aY Nm.enc agP (dE (aJ l[i]) (id,m) K))))):=by
 have⟨o,y,p⟩:=h.fresh c
 refine⟨λj hj=>?_,aA _ _ _,h.mf,λk j n hx=>?_,ahC h.keys,anK (g:=(·.1)) h.ids h.keys λe z=>?_,λk a=>?_⟩
 ·rw[aB (λe=>by subst e;exact hj h.mf),aB (λe=>by subst e;exact hj o),q j λn hn=>hj (h.arr _ j n hn).2.2];exact h.old j hj
 ·rcases zZ h.keys hx with e|⟨hx,b⟩
  ·simp only[Prod.mk.injEq]at e
   obtain⟨rfl,rfl,rfl⟩:=e;rw[aaJ hi,zp rfl,aB y,aA];exact⟨rfl,by rw[hm];simp,o⟩
  ·have⟨u,v,w⟩:=h.arr k j n hx
   rw[aaJ hi,zn (Ne.symm b),aB (h.notm hx),aB λe=>p k j n hx e.symm,q j λn' f=>b ?_]
   ·exact⟨u,v,w⟩
   ·exact congrArg Prod.fst (aaR h.ids hx f rfl)
 ·exactλx=>p e.1 e.2.1 e.2.2 z x.symm
 ·rw[vJ]at a
  split at a
  ·cases a
  ·rename_i b
   rw[aaJ hi,zn (Ne.symm b)];exact h.non k a
theorem FamB.nil{idm:Nat}(h:st idm=none):FamB st [] idm [] (upd st idm (some (.map (aY Nm.enc agP [])))):=
 ⟨λj hj=>aB λe=>by grind,aA _ _ _,h,λ_ _ _ h=>(by grind),by simp,by simp,λ_ _=>rfl⟩
theorem awF(l:List Pt)(k:Nm):(gO l k).length<=l.length:=List.length_filter_le _ _
end
section
attribute [local irreducible] Ev PWp
theorem aJh :qf 92 [(vu (0:Nat))] (vi (0:Nat)):=by
 refine pF func92 rfl λst=>?_
 repeat' first|refine Cn.any ?_;refine⟨_,_,_,rfl,zwr _,zsr _,?_,rfl⟩;rfl|apply wZ;rfl|constructor|apply cvA pk.htt;(iterate 5 rfl);(refine⟨?_,?_⟩<;>(first|omega|decide));rfl|apply sxA pk.htt 0 0;(iterate 6 rfl);kernel_rfl;rfl|exact⟨by decide,by decide⟩
theorem aNa(hy:y=0):qf 42 [(vu (y))] (vi (0:Nat)):=by
 subst hy;refine pF func42 rfl λst=>?_
 repeat' first|apply wZ;rfl|constructor|apply aJh|apply wY;rfl
section
variable{fid:FuncId}{caps:List PV}{st:aD}
theorem aJw :qc 414 [.seq [],vi 0,vi 0, .fn fid caps] st λ_ st'=>st'=st:=by
 refine pC func414 rfl ?_
 repeat' first|apply wZ;rfl|omega|constructor
 refine aC (X:=Unit) (λi=>((((((St.nil 53 st).pv 0 (.seq [])).pv 1 (vi 0)).pv 2 (vi 0)).pv 3 (.fn fid caps)).pv 8 (vi 1))) (λi=>0) () ?_ λi=>?_;rotate_left
 all_goals (repeat' first|refine Cn.rr ?_;rfl;done|apply wZ;rfl|constructor)
theorem aI0{lim:Int}:qc 398 [.seq [],vi 0,vi 0,vi lim, .fn fid caps] st λ_ st'=>st'=st:=by
 refine pC func398 rfl ?_
 repeat' first|apply wZ;rfl|constructor
 refine aC (X:=Unit) (λi=>((((((((St.nil 148 st).pv 0 (.seq [])).pv 1 (vi 0)).pv 2 (vi 0)).pv 3 (vi lim)).pv 4 (.fn fid caps)).pv 10 (vb true)).pv 11 (vb true))) (λi=>0) () ?_ λi=>?_;rotate_left
 all_goals (repeat' first|apply cP;rfl;apply aJw;rintro _ st' rfl|refine Cn.rr ?_;rfl;done|apply wZ;rfl|omega|constructor|apply wY;rfl|exact rfl)
theorem aFD :qc 352 [.seq [], .fn fid caps] st λ_ st'=>st'=st:=by
 refine pC func352 rfl ?_
 repeat' first|apply Cn.cf;focus((apply aNa rfl);done)|apply cP;rfl;apply aI0;rintro _ st' rfl|refine Cn.rr ?_;rfl;done|apply wZ;rfl|constructor|apply cvA pk.htt;(iterate 5 rfl);(refine⟨?_,?_⟩<;>(first|omega|decide));rfl|apply wY;rfl
end
theorem aAr{l:List Pt}(hf:∀p∈l,bP p=true)(i:S id=some (.arr 154 (l.map Pt.z)))(hn:l.length=n)(f:n<4611686018427387904):
  qc 352 [.vec id 11 0 n, .fn 353 []] S λ_ c=>∃R:List Pt,c=upd S id (some (.arr 154 (R.map Pt.z)))/\R.Perm l/\R.Pairwise λx y=>¬fF y x:=by
 have e:(l.attach.map λx=>(⟨x.1,hf x.1 x.2⟩:Fp)).map (λx=>([.int .i64 x.1.val.k, .int .i64 x.1.val.n, .string x.1.val.s, .int .i64 x.1.d.dev, .int .i64 x.1.d.seq, .int .i64 x.1.a, .int .i64 x.1.m, .int .i64 x.1.after.dev, .int .i64 x.1.after.seq, .int .i64 x.1.afterAt, .bool x.1.gone]:List Value).map PV.val)=l.map Pt.z:=by
  rw[List.map_map];show l.attach.map (λx=>Pt.z x.1)=_;rw[List.attach_map_val]
 have:=awK (P:=qp) aOy (by kernel_rfl) (k:=11) Tryz.isAgg154 Tryz.sizeOf154 (enc:=λx:Fp=>[.int .i64 x.1.val.k, .int .i64 x.1.val.n, .string x.1.val.s, .int .i64 x.1.d.dev, .int .i64 x.1.d.seq, .int .i64 x.1.a, .int .i64 x.1.m, .int .i64 x.1.after.dev, .int .i64 x.1.after.seq, .int .i64 x.1.afterAt, .bool x.1.gone]) (λ_=>rfl) (λx v hv=>by simp only[zmc,List.not_mem_nil,or_false]at hv;rcases hv with rfl|rfl|rfl|rfl|rfl|rfl|rfl|rfl|rfl|rfl|rfl<;>rfl) (cmp:=aFA) aEP
  (gf:=353) (by kernel_rfl) (λx y=>kP x.1 y.1 x.2 y.2) (st:=S) (id:=id) (n:=n) (d:=l.attach.map λx=>⟨x.1,hf x.1 x.2⟩) (e:=154) (by kernel_rfl) (by rw[e];exact i) (by simpa using hn) f
 refine⟨this.1,λw g vs j m=>(this.2 w g vs j m).mono ?_⟩
 rintro e w' ⟨v,q,c,g',h3,⟨r,hS,hp,hw⟩,h4⟩
 refine⟨v,q,c,g',h3,⟨r.map (·.1),?_,?_,?_⟩,h4⟩
 ·rw[hS,List.map_map];rfl
 ·have:=hp.map (·.1)
  rwa[List.map_map,show((λx:Fp=>x.1)∘λx:{x//x∈l}=>(⟨x.1,hf x.1 x.2⟩:Fp))=Subtype.val from rfl,List.attach_map_subtype_val]at this
 ·rw[List.pairwise_map]
  exact hw.imp fun{a b} h=>by rwa[aFA,amQ]at h
end
section
attribute [local irreducible] Ev PWp
instance(a b:Pt):Decidable (fF a b):=by unfold fF;infer_instance
def ayQ(p:Pt):List Pt->List Pt
 |[]=>[p]
 |q::r=>if fF q p then q::ayQ p r else p::q::r
def dB(l:List Pt)(k:Nm):List Pt:=(gO l k).foldr ayQ []
def fC(l:List Pt):Nat->Nm->List Pt
 |0,_=>[]
 |n+1,k=>(dB l k).flatMap λp=>p::fC l n (aH p)
def aAv(l:List Pt):Nat->Nm->Prop
 |0,k=>gO l k=[]
 |n+1,k=>∀p∈gO l k,aAv l n (aH p)
theorem uniq{α:Type}{r:α->α->Prop}:∀{l m:List α},l.Perm m->l.Pairwise r->m.Pairwise r->(∀a∈l,∀b∈l,r a b->r b a->a=b)->l=m
 |[],m,h,_,_,_=>(List.Perm.nil_eq h)
 |a::l,[],h,_,_,_=>(by simp_all)
 |a::l,b::m,h,h1,h2,ha=>by
  have c:a=b:=by
   rcases zmc.1 (h.symm.subset (List.mem_cons_self:b∈b::m))with e|e
   ·exact e.symm
   ·rcases zmc.1 (h.subset (List.mem_cons_self:a∈a::l))with f|f
    ·exact f
    simp_all
  subst c
  rw[uniq ((List.perm_cons a).1 h) (List.pairwise_cons.1 h1).2 (List.pairwise_cons.1 h2).2 λx hx y hy=>ha x (zmm _ hx) y (zmm _ hy)]
theorem acA(p:Pt):∀(l:List Pt),(ayQ p l).Perm (p::l)
 |[]=> .refl _
 |q::r=>by
  unfold ayQ
  split
  ·exact((acA p r).cons q).trans (.swap p q r)
  rfl
theorem adG(p:Pt):∀(l:List Pt),(l.Pairwise λx y=>¬fF y x)->(ayQ p l).Pairwise λx y=>¬fF y x
 |[],_=>by simp[ayQ]
 |q::r,h=>by
  have⟨a,b⟩:=List.pairwise_cons.1 h
  unfold ayQ
  split
  ·rename_i hk
   refine List.pairwise_cons.2 ⟨λx hx=>?_,adG p r b⟩;rcases zmc.1 ((acA p r).subset hx)with rfl|hx
   ·rw[fU]at hk⊢;omega
   grind
  ·rename_i hk
   refine List.pairwise_cons.2 ⟨λx hx=>?_,h⟩;rcases zmc.1 hx with rfl|hx
   ·exact hk
   ·have:=a x hx
    rw[fU]at hk this⊢;omega
theorem kW(l:List Pt)(k:Nm):(dB l k).Perm (gO l k):=by
 unfold dB;generalize gO l k=m
 induction m with
 |nil=>rfl
 |cons p r ih=>exact(acA p _).trans (ih.cons p)
theorem yY(l:List Pt)(k:Nm):(dB l k).Pairwise λx y=>¬fF y x:=by
 unfold dB;generalize gO l k=m
 induction m with
 |nil=>simp
 |cons p r ih=>exact adG p _ ih
def named(l:List Pt):Prop:=∀a∈l,∀b∈l,aH a=aH b->a=b
theorem aB3{l:List Pt}(hn:named l){a:Pt}(ha:a∈l)(hb:b∈l)(c:¬fF a b)(e:¬fF b a):a=b:=by
 refine hn a ha b hb ?_;rw[fU]at c e;rw[aH,aH,Nm.mk.injEq,Dt.ext_iff];omega
theorem aFM{l:List Pt}{k:Nm}(hn:named l)(hp:R.Perm (gO l k))(hs:R.Pairwise λx y=>¬fF y x):R=dB l k:=by
 refine uniq (hp.trans (kW l k).symm) hs (yY l k) λa ha b hb c e=>?_;have hm:∀x∈R,x∈l:=λx hx=>(List.mem_filter.1 (hp.subset hx)).1;exact aB3 hn (hm a ha) (hm b hb) e c
structure HS (st:aD) (l:List Pt) (id5 id8 id9 idm:Nat) (K:List (Nm×(Nat×Nat))) (S:aD) (A:Nm->List Pt) (out:List Pt):Prop where
 old:∀j,st j≠none->S j=st j
 f5:st id5=none
 f8:st id8=none
 f9:st id9=none
 fm:st idm=none
 h5:S id5=some (.cells 348 [.mref idm])
 h9:S id9=some (.cells 349 [.fn 351 [.ref id5 0, .ref id8 0, .ref id9 0]])
 hm:S idm=some (.map (aY Nm.enc agP K))
 arr:∀k id n,(k,(id,n))∈K->S id=some (.arr 154 ((A k).map Pt.z))/\n=(gO l k).length/\st id=none
 ids:(K.map (·.2.1)).Nodup
 keys:(K.map (·.1)).Nodup
 non:∀k,cK k K=none->gO l k=[]
 perm:∀k,(A k).Perm (gO l k)
 h8:(S id8=some (.cells 90 [.val (.slice none 0 0)])/\out=[])\/∃ido,S id8=some (.cells 90 [.vec ido 11 0 out.length])/\S ido=some (.arr 154 (out.map Pt.z))/\st ido=none/\∀k n,(k,(ido,n))∉K
section
variable{st S:aD}{l:List Pt}{id5 id8 id9 idm:Nat}{K:List (Nm×(Nat×Nat))}{A:Nm->List Pt}{out:List Pt}
theorem HS.sorted(h:HS st l id5 id8 id9 idm K S A out){k:Nm}(hk:(k,(id,n))∈K)(p:R.Perm (A k)):
  HS st l id5 id8 id9 idm K (upd S id (some (.arr 154 (R.map Pt.z)))) (λk'=>if k'=k then R else A k') out:=by
 have⟨b,q,o⟩:=h.arr k id n hk
 have n5:id5≠id:=λe=>by rw[<-e,h.h5]at b;cases b
 have n9:id9≠id:=λe=>by rw[<-e,h.h9]at b;cases b
 have nm:idm≠id:=λe=>by rw[<-e,h.hm]at b;cases b
 have i:id8≠id:=λe=>by rcases h.h8 with⟨h8,_⟩|⟨f,h8,_⟩<;>rw[<-e,h8]at b<;>cases b
 refine⟨λj hj=>?_,h.f5,h.f8,h.f9,h.fm,(aB n5).trans h.h5,(aB n9).trans h.h9,(aB nm).trans h.hm,λk' j m a=>?_,h.ids,h.keys,h.non,λk'=>?_,?_⟩
 ·rw[aB λe=>by subst e;exact hj o];exact h.old j hj
 ·have⟨b1,b2,c⟩:=h.arr k' j m a
  by_cases hj:j=id
  ·subst hj
   have:=aaR h.ids hk a rfl;simp only[Prod.mk.injEq]at this;obtain⟨rfl,_⟩:=this;exact⟨by rw[aA,zp rfl],b2,c⟩
  ·refine⟨?_,b2,c⟩
   rw[aB hj,b1,zn];intro e;subst e;have g:∀{K:List (Nm×(Nat×Nat))},(K.map (·.1)).Nodup->(k',(id,n))∈K->(k',(j,m))∈K->id=j:=by
    intro K hn
    induction K with
    |nil=>intro h;cases h
    |cons x K ih=>
     grind
   exact hj (g h.keys hk a).symm
 ·by_cases a:k'=k
  ·subst a;simp only[if_true];exact p.trans (h.perm k')
  ·simp only[zn a];exact h.perm k'
 ·rcases h.h8 with⟨h8,e⟩|⟨f,h8,b1,b2,c⟩
  ·exact .inl ⟨(aB i).trans h8,e⟩
  ·exact .inr ⟨f,(aB i).trans h8,(aB λe=>c k n (by rw[e];exact hk)).trans b1,b2,c⟩
theorem HS.push(h:HS st l id5 id8 id9 idm K S A out){S1:aD}(p:Pt)(b:S a=none)(m:∀j,S1 j=S j\/st j=none/\j≠id5/\j≠id9/\j≠idm/\∀k n,(k,(j,n))∉K):
  HS st l id5 id8 id9 idm K (upd (upd S1 a (some (.arr 154 ((out++[p]).map Pt.z)))) id8 (some (.cells 90 [.vec a 11 0 (out.length+1)]))) A (out++[p]):=by
 have n5:id5≠a:=λe=>by rw[<-e,h.h5]at b;cases b
 have n9:id9≠a:=λe=>by rw[<-e,h.h9]at b;cases b
 have nm:idm≠a:=λe=>by rw[<-e,h.hm]at b;cases b
 have w:id8≠a:=λe=>by rcases h.h8 with⟨h8,_⟩|⟨ido,h8,_⟩<;>rw[<-e,h8]at b<;>cases b
 have q:id5≠id8:=λe=>by have:=h.h5;rcases h.h8 with⟨h8,_⟩|⟨ido,h8,_⟩<;>rw[e,h8]at this<;>cases this
 have u:id9≠id8:=λe=>by have:=h.h9;rcases h.h8 with⟨h8,_⟩|⟨ido,h8,_⟩<;>rw[e,h8]at this<;>cases this
 have v:idm≠id8:=λe=>by have:=h.hm;rcases h.h8 with⟨h8,_⟩|⟨ido,h8,_⟩<;>rw[e,h8]at this<;>cases this
 have hi:st a=none:=by
  cases hs:st a with
  |none=>rfl
  |some o=>have:=h.old a (by rw[hs];simp);rw[b,hs]at this;cases this
 have g:∀j,j≠id8->j≠a->(∀h:st j=none/\j≠id5/\j≠id9/\j≠idm/\∀k n,(k,(j,n))∉K,False)->upd (upd S1 a (some (.arr 154 ((out++[p]).map Pt.z)))) id8 (some (.cells 90 [.vec a 11 0 (out.length+1)])) j=S j:=λj c f i=>by
  rw[aB c,aB f]
  rcases m j with e|e
  ·exact e
  ·exact(i e).elim
 refine⟨λj hj=>?_,h.f5,h.f8,h.f9,h.fm,(g id5 q n5 λe=>e.2.1 rfl).trans h.h5,(g id9 u n9 λe=>e.2.2.1 rfl).trans h.h9,(g idm v nm λe=>e.2.2.2.1 rfl).trans h.hm,λk j n hk=>?_,h.ids,h.keys,h.non,h.perm,?_⟩
 ·rw[g j (λe=>by subst e;exact hj h.f8) (λe=>by subst e;exact hj hi) λe=>hj e.1];exact h.old j hj
 ·have⟨b1,b2,x⟩:=h.arr k j n hk
  have y:j≠id8:=λe=>by rcases h.h8 with⟨h8,_⟩|⟨ido,h8,_⟩<;>rw[e,h8]at b1<;>cases b1
  grind
 ·refine .inr ⟨a,by rw[aA];simp,by rw[aB (Ne.symm w),aA],hi,λk n hk=>?_⟩
  have:=(h.arr k a n hk).1;rw[b]at this;cases this
theorem kL{k:Nm}{p:Pt}(h:p∈dB l k):p∈l/\p∈gO l k:=by
 have:=(kW l k).subset h;exact⟨(List.mem_filter.1 this).1,this⟩
theorem aC7(hn:named l)(hf:∀p∈l,bP p=true)(h62:l.length<4611686018427387904):∀(n:Nat)(up:Nm)(S:aD)(A:Nm->List Pt)(out:List Pt),aAv l n up->out.length+(fC l n up).length<=1000000->HS st l id5 id8 id9 idm K S A out->
  qc 351 [.agg up.z, .ref id5 0, .ref id8 0, .ref id9 0] S λ_ S'=>∃Y,HS st l id5 id8 id9 idm K S' Y (out++fC l n up)/\∀k,A k=dB l k->Y k=dB l k:=by
 intro n
 induction n using Nat.strongRecOn with
 |ind n ih=>?_
 intro up S A out hd hB h
 have hk:∀p∈gO l up,n≠0/\aAv l (n-1) (aH p):=λp hp=>by
  cases n with
  |zero=>rw[show gO l up=[]from hd]at hp;cases hp
  |succ n=>exact⟨by omega,hd p hp⟩
 have hh:fC l n up=(dB l up).flatMap λp=>p::fC l (n-1) (aH p):=by
  cases n with
  |zero=>rw[show dB l up=[]from List.Perm.eq_nil ((kW l up).trans (by rw[show gO l up=[]from hd]))];rfl
  |succ n=>rfl
 rw[hh]at hB
 rw[hh]
 clear hh hd
 have M:=h.h5
 have O:=h.hm
 refine pC func351 rfl ?_
 repeat' first|apply wZ;rfl|constructor|apply ldR pk;rfl;rfl;rotate_left;rfl;(assumption);rfl;rfl|apply aGX pk Nm.key (f:=agP);(iterate 5 rfl);rotate_left;rfl;(assumption);rfl;intro v hv;rotate_left;intro hv;rotate_left
 ·have⟨id,m⟩:=v
  have y:=uD hv;have⟨a1,a2,a3⟩:=h.arr _ _ _ y;have c:(A up).length=m:=by rw[(h.perm up).length_eq,a2]
  have H:∀p∈A up,bP p=true:=λp hp=>hf p (List.mem_filter.1 ((h.perm up).subset hp)).1;have Z:m<4611686018427387904:=by have:=awF l up;omega
  repeat' first|apply cP;rfl;(apply(aAr (l:=A up) H)<;>(assumption));rintro _ st' (⟨R,rfl,hR1,hR2⟩)|apply wZ;rfl|constructor|apply wY;rfl
  obtain rfl:R=dB l up:=aFM hn (hR1.trans (h.perm up)) hR2;have h:=h.sorted y hR1;have hm':(dB l up).length=m:=by rw[hR1.length_eq,c]
  have G:∀k,A k=dB l k->(if k=up then dB l up else A k)=dB l k:=λk hk=>by
   by_cases e:k=up
   ·rw[zp e,e]
   ·rw[zn e,hk]
  obtain⟨C,h,g,o⟩:∃C,HS st l id5 id8 id9 idm K (upd S id (some (.arr 154 ((dB l up).map Pt.z)))) C out/\C up=dB l up/\∀k,A k=dB l k->C k=dB l k:=⟨_,h,by simp,G⟩;clear G H hR1 hR2 c a1 a3 M O;refine aC (X:={x:Nat×aD×(Nm->List Pt)//x.1<=m/\HS st l id5 id8 id9 idm K x.2.1 x.2.2 (out++((dB l up).take x.1).flatMap λp=>p::fC l (n-1) (aH p))/\x.2.2 up=dB l up/\∀k,A k=dB l k->x.2.2 k=dB l k}) (λi=>((((((St.nil 28 (i.1.2.1)).pv 2 (.ref id8 0)).pv 3 (.ref id9 0)).pv 13 (.vec id 11 0 m)).pv 14 (vi (m:Nat))).pv 15 (vi (i.1.1:Nat)))) (λi=>m-i.1.1) ⟨(0,_,C),by simp,by simpa using h,g,o⟩ ?_ λi=>?_
  ·repeat' first|exact Cn.t0|constructor
  clear h g o;obtain⟨⟨i,S1,C⟩,hi,h,g,o⟩:=i;simp only at hi h g o;dsimp only;have b1:=(h.arr _ _ _ y).1;rw[g]at b1;generalize ho:(out++((dB l up).take i).flatMap λp=>p::fC l (n-1) (aH p))=o1 at h;have hg:i<m->∃p,(dB l up)[i]?=some p:=λhi=>⟨_,zgg (by omega)⟩;have N:=h.h8;have I:=h;by_cases Q:i<m
  ·have⟨p,hp⟩:=hg Q
   have U:=kL (List.mem_of_getElem? hp);have⟨hn0,J⟩:=hk p U.2;have B:(dB l up).take (i+1)=(dB l up).take i++[p]:=by rw[List.take_add_one,hp];rfl
   have E:(o1++[p])++fC l (n-1) (aH p)=out++((dB l up).take (i+1)).flatMap λp=>p::fC l (n-1) (aH p):=by
    rw[B,<-ho];simp
   have c:o1.length+1+(fC l (n-1) (aH p)).length<=1000000:=by
    have e1:=congrArg List.length E;have e2:dB l up=(dB l up).take (i+1)++(dB l up).drop (i+1):=(List.take_append_drop _ _).symm;rw[e2,List.flatMap_append,zla]at hB;simp only[zla,List.length_singleton]at e1;omega
   rcases N with⟨h8,e8⟩|⟨F,h8,c1,c2,c3⟩
   ·subst e8
    repeat' first|apply wZ;rfl|omega|constructor|apply ldR pk;rfl;rfl;rotate_left;rfl;(assumption);rfl;rfl|apply ldL pk Pt.elem (a:=p);rfl;rfl;rotate_left;rfl;(assumption);intro _;exact hp;rfl|apply ap0 pk (f:=Pt.z) [p] 96;(iterate 10 rfl);exactλ_=>rfl;exactλ_=>rfl;exact aaQ;(focus(simp;done));(focus(simp;done));rfl;intro z w|apply ixA pk;(iterate 5 rfl);rotate_left;rfl;intro hw;exact(show _=((i:Nat):Int)from by omega);intro hw;omega;rfl;exact Nat.zero_add _|intro h;simp at h
    have b:S1 z=none:=w;have W:id8≠z:=λe=>by rw[<-e,h8]at b;cases b
    have q:=I.push p b (S1:=S1) λj=> .inl rfl;have q9:=q.h9;apply stR pk;rfl;rfl;exact(aB W).trans h8;rfl;rfl
    repeat' first|apply wD pk [3] [0];kernel_rfl;rfl;rfl|apply Cn.cf;focus((apply qV);done)|apply cP;rfl;apply(ih (n-1) (by omega) (aH p) _ _ _ J (by simp only[zla,List.length_singleton]at c⊢;omega) q);rintro _ st' (⟨A2,hA3,hA4⟩)|refine⟨⟨(i+1,st',A2),by simp only;omega,by simp only;rw[<-E];exact hA3,hA4 up g,λk e=>hA4 k (o k e)⟩,?_,?_⟩|exact Cn.t0|apply wZ;rfl|omega|constructor|apply ldR pk;rfl;rfl;rotate_left;rfl;(assumption);rfl;rfl|apply wY;rfl|simp<;>omega
   ·repeat' first|apply wZ;rfl|omega|constructor|apply ldR pk;rfl;rfl;rotate_left;rfl;(assumption);rfl;rfl|apply ldL pk Pt.elem (a:=p);rfl;rfl;rotate_left;rfl;(assumption);intro _;exact hp;rfl|apply apV pk (f:=Pt.z) [p] 96;(iterate 9 rfl);(assumption);omega;exactλ_=>rfl;exactλ_=>rfl;exact aaQ;(focus(simp;omega));(focus(simp;omega));rfl;intro z w|apply ixA pk;(iterate 5 rfl);rotate_left;rfl;intro hw;exact(show _=((i:Nat):Int)from by omega);intro hw;omega;rfl;exact Nat.zero_add _|intro h;simp at h
    have b:S1 z=none:=w;have W:id8≠z:=λe=>by rw[<-e,h8]at b;cases b
    have m8:id8≠F:=λe=>by rw[<-e,h8]at c1;cases c1
    have q:=I.push p b (S1:=upd S1 F none) λj=>by
     by_cases e:j=F
     ·subst e
      exact .inr ⟨c2,(λe=>by rw[e,I.h5]at c1;cases c1),(λe=>by rw[e,I.h9]at c1;cases c1),(λe=>by rw[e,I.hm]at c1;cases c1),c3⟩
     ·exact .inl (aB e)
    have q9:=q.h9;apply stR pk;rfl;rfl;exact(aB W).trans ((aB m8).trans h8);rfl;rfl
    repeat' first|apply wD pk [3] [0];kernel_rfl;rfl;rfl|apply Cn.cf;focus((apply qV);done)|apply cP;rfl;apply(ih (n-1) (by omega) (aH p) _ _ _ J (by simp only[zla,List.length_singleton]at c⊢;omega) q);rintro _ st' (⟨A2,hA3,hA4⟩)|refine⟨⟨(i+1,st',A2),by simp only;omega,by simp only;rw[<-E];exact hA3,hA4 up g,λk e=>hA4 k (o k e)⟩,?_,?_⟩|exact Cn.t0|apply wZ;rfl|omega|constructor|apply ldR pk;rfl;rfl;rotate_left;rfl;(assumption);rfl;rfl|apply wY;rfl|simp<;>omega
  ·have u:HS st l id5 id8 id9 idm K S1 C (out++(dB l up).flatMap λp=>p::fC l (n-1) (aH p)):=by
    rw[ztl (by omega)]at ho;rw[ho];exact h
   repeat' first|refine Cn.rr ?_;exact⟨C,u,o⟩;done|apply wZ;rfl|omega|constructor|intro h;simp at h
 ·have T:=h.non _ hv
  have V:dB l up=[]:=List.Perm.eq_nil ((kW l up).trans (by rw[T]));have u:HS st l id5 id8 id9 idm K S A (out++(dB l up).flatMap λp=>p::fC l (n-1) (aH p)):=by
   rw[V];simpa using h
  repeat' first|apply cP;rfl;apply aFD;rintro _ st' rfl|apply wZ;rfl|constructor|apply wY;rfl
  refine aC (X:=Unit) (λi=>((((((St.nil 28 (st')).pv 2 (.ref id8 0)).pv 3 (.ref id9 0)).pv 13 (.val (.slice none 0 0))).pv 14 (vi ((([]:List (List PV)).length:Nat):Int))).pv 15 (vi 0))) (λi=>0) () ?_ λi=>?_
  ·repeat' first|exact Cn.t0|constructor
  have D:HS st l id5 id8 id9 idm K st' A (out++(dB l up).flatMap λp=>p::fC l (n-1) (aH p)):=u
  repeat' first|refine Cn.rr ?_;exact⟨A,D,λ_ h=>h⟩;done|apply wZ;rfl|constructor
end
end
section
structure Inv (l:List Pt):Prop where
 formed:∀p∈l,bP p=true
 nodup:(l.map aH).Nodup
 times:∀p∈l,∀q∈l,p.d=q.d->p.m=q.m
theorem yN{α β:Type}{g:α->β}:∀{l:List α},(l.map g).Nodup->∀{a b},a∈l->b∈l->g a=g b->a=b
 |[],_,_,_,h,_,_=>by grind
 |x::l,hn,a,b,ha,hb,e=>by
  simp at hn
  rcases zmc.1 ha with ha|ha<;>rcases zmc.1 hb with hb|hb
  ·rw[ha,hb]
  ·grind
  ·grind
  ·exact yN hn.2 ha hb e
theorem Inv.named{l:List Pt}(h:Inv l):named l:=λ_ ha _ hb e=>yN h.nodup ha hb e
theorem aBO{C:List α->Prop}(h0:C [])(h1:∀l p,C l->C (l++[p]))(l:List α):C l:=by
 have:∀r,C (List.reverse r):=λr=>by
  induction r with
  |nil=>exact h0
  |cons p r ih=>grind
 have:=this l.reverse
 grind
theorem nB[DecidableEq K](f:Pt->K)(g:Pt->V)(l:List Pt)(p:Pt):(l++[p]).foldl (λm p=>dE (f p) (g p) m) []=dE (f p) (g p) (l.foldl (λm p=>dE (f p) (g p) m) []):=by simp
theorem asG[DecidableEq K](f:Pt->K)(g:Pt->V)(k:K)(l:List Pt):
  (∀v,cK k (l.foldl (λm p=>dE (f p) (g p) m) [])=some v->∃q∈l,f q=k/\g q=v)/\(cK k (l.foldl (λm p=>dE (f p) (g p) m) [])=none->∀q∈l,f q≠k):=by
 induction l using aBO with
 |h0=>exact⟨λv h=>(by cases h),λ_ q h=>(by grind)⟩
 |h1 l p ih=>
  rw[nB];refine⟨λv h=>?_,λh q hq=>?_⟩
  ·rw[vJ]at h
   grind
  ·rw[vJ]at h
   grind
theorem alL(l:List Pt)(k:Nm):(∀v,cK k (eH l)=some v->v∈l/\aH v=k)/\(cK k (eH l)=none->∀q∈l,aH q≠k):=by
 obtain⟨e,f⟩:=asG _ _ k l;exact⟨λv hv=>by obtain⟨q,a,b,c⟩:=e v hv;grind,f⟩
theorem aC6(l:List Pt)(k:Dt):(∀v,cK k (fO l)=some v->∃q∈l,q.d=k/\q.m=v)/\(cK k (fO l)=none->∀q∈l,q.d≠k):=asG _ _ k l
theorem aAm(h:Inv d)(p:Pt):xI (eH d) (fO d) p=true↔(∀q∈d,aH q≠aH p)/\bP p=true/\∀q∈d,q.d=p.d->q.m=p.m:=by
 have⟨f,g⟩:=alL d (aH p);have⟨b1,b2⟩:=aC6 d p.d;unfold xI;simp only[Bool.not_eq_true',Bool.or_eq_false_iff];constructor
 ·rintro⟨⟨a,b⟩,c⟩
  refine⟨g (by simpa using a),by simpa using b,λq hq e=>?_⟩;cases ht:cK p.d (fO d)with
  |none=>exact absurd e (b2 ht q hq)
  |some t=>
   rw[ht]at c;have⟨r,i,j,k⟩:=b1 t ht;have:t=p.m:=by simpa using c
   rw[<-this,<-k];exact h.times q hq r i (by rw[e,j])
 ·rintro⟨a,b,c⟩
  refine⟨⟨?_,by simpa using b⟩,?_⟩
  ·cases hm:cK (aH p) (eH d)with
   |none=>rfl
   |some v=>have⟨c1,c2⟩:=f v hm;exact absurd c2 (a v c1)
  grind
theorem Inv.snoc_iff(h:Inv d)(p:Pt):Inv (d++[p])↔(∀q∈d,aH q≠aH p)/\bP p=true/\∀q∈d,q.d=p.d->q.m=p.m:=by
 constructor
 ·intro k
  have hn:=k.nodup;rw[zmd,List.nodup_append]at hn;exact⟨λq hq e=>hn.2.2 _ (zmq.2 ⟨q,hq,rfl⟩) _ (by simp) e,k.formed p (by simp),λq hq e=>k.times q (by simp[hq]) p (by simp) e⟩
 ·rintro⟨g,f,c⟩
  refine⟨λq hq=>?_,?_,λa ha b hb e=>?_⟩
  ·rcases zma.1 hq with hq|hq
   ·exact h.formed q hq
   ·rw[zms.1 hq];exact f
  ·rw[zmd,List.nodup_append]
   refine⟨h.nodup,by simp,λa ha b hb e=>?_⟩
   grind
  ·rcases zma.1 ha with ha|ha<;>rcases zma.1 hb with hb|hb
   ·exact h.times a ha b hb e
   ·rw[zms.1 hb]at e⊢;exact c a ha e
   ·rw[zms.1 ha]at e⊢;exact(c b hb e.symm).symm
   ·rw[zms.1 ha,zms.1 hb]
theorem Inv.pre{r:List Pt}(h:Inv (d++r)):Inv d:=by
 refine⟨λp hp=>h.formed p (by grind),?_,λp hp q hq=>h.times p (by grind) q (by grind)⟩;have:=h.nodup
 grind
theorem wX :∀(r d:List Pt),Inv d->(mF r (eH d) (fO d)=true↔Inv (d++r))
 |[],d,h=>by simp[mF,h]
 |p::r,d,h=>by
  have c:dE _ p (eH d)=eH (d++[p]):=(nB aH id d p).symm
  have e:dE p.d p.m (fO d)=fO _:=(nB (·.d) (·.m) d p).symm
  rw[mF,zba,aAm h,<-h.snoc_iff,c,e]
  have b:d++p::r=(d++[p])++r:=by simp
  constructor
  ·rintro⟨a,f⟩
   rw[b];exact(wX r _ a).1 f
  ·intro a
   rw[b]at a;exact⟨a.pre,(wX r _ a.pre).2 a⟩
structure Whole (l:List Pt):Prop extends Inv l where
 up:∀p∈l,aJ p=Nm.zero\/∃u∈l,aH u=aJ p/\eJ u p=true
theorem eR(l:List Pt):fK l=true↔Whole l:=by
 have h0:Inv []:=⟨λ_ h=>(by cases h),List.nodup_nil,λ_ h=>(by cases h)⟩;unfold fK;rw[zba,show mF l [] []=mF l (eH []) (fO [])from rfl,wX l [] h0,List.nil_append,zal];have a:∀p,Inv l->(aD8 (eH l) p=true↔(aJ p=Nm.zero\/∃u∈l,aH u=aJ p/\eJ u p=true)):=λp g=>by
  have⟨c,i⟩:=alL l (aJ p)
  unfold aD8
  rw[Bool.or_eq_true,zde]
  refine or_congr Iff.rfl ?_
  cases hm:cK (aJ p) (eH l)with
  |none=>grind
  |some v=>
   have⟨c1,c2⟩:=c v hm;constructor
   ·grind
   ·rintro⟨u,hu,e,h⟩
    rw[g.named v c1 u hu (by rw[c2,e])];exact h
 constructor
 ·rintro⟨b,f⟩;exact⟨b,λp hp=>(a p b).1 (f p hp)⟩
 ·intro h;exact⟨h.toInv,λp hp=>(a p h.toInv).2 (h.up p hp)⟩
instance(l :List Pt):Decidable (Whole l):=decidable_of_iff _ (eR l)
theorem kR(p q:Pt):eJ p q=true↔p.m<q.m\/p.m=q.m/\(p.d.dev<q.d.dev\/p.d.dev=q.d.dev/\(p.d.seq<q.d.seq\/p.d.seq=q.d.seq/\p.a<q.a)):=by
 unfold eJ;rw[Bool.or_eq_true,akY,zba,zde,zde,Sp.ext_iff];simp only[aK];omega
theorem aeB{p:Pt}(h:bP p=true):aH p≠Nm.zero:=by
 intro e;simp only[bP,mayN,withinB,zba,zde]at h;have a:=h.1.2.1.1.1;rw[e]at a
 trivial
theorem aHl{l:List Pt}(h:Whole l){p:Pt}(hu:u∈l)(hp:p∈gO l (aH u)):p∈l/\eJ u p=true:=by
 have⟨b,a⟩:=List.mem_filter.1 hp;have a:=by simpa using a
 refine⟨b,?_⟩;rcases h.up p b with e|⟨v,hv,e,ha⟩
 ·exact absurd (a.symm.trans e) (aeB (h.formed u hu))
 ·rw[h.named u hu v hv (by grind)];exact ha
theorem vB{l:List Pt}{a:Pt}(ha:a∈l)(hg:g a=true)(hf:f a=false)(b:∀q∈l,f q=true->g q=true):(l.filter f).length<(l.filter g).length:=by
 induction l with
 |nil=>cases ha
 |cons x l ih=>
  have c:(l.filter f).length<=(l.filter g).length:=by
   induction l with
   |nil=>simp
   |cons y l ih=>
    grind
  grind
theorem aCd{l:List Pt}(h:Whole l):∀(n:Nat)(u:Pt),u∈l->(l.filter (eJ u)).length<=n->aAv l n (aH u)
 |0,u,hu,hn=>by
  show gO l (aH u)=[]
  cases hk:gO l _ with
  |nil=>rfl
  |cons p r=>
   have⟨b,c⟩:=aHl h hu (p:=p) (by rw[hk];simp);simp_all
 |n+1,u,hu,hn=>λp hp=>by
  have⟨b,c⟩:=aHl h hu hp
  refine aCd h n p b ?_
  have:(l.filter (eJ p)).length<(l.filter (eJ u)).length:=vB (a:=p) b c (by rw[<-znt,kR];omega) λq _ hq=>by
   rw[kR]at c hq⊢;omega
  omega
theorem auK{l:List Pt}(h:Whole l):aAv l l.length Nm.zero:=by
 cases hl:l.length with
 |zero=>rw[List.length_eq_zero_iff.1 hl];rfl
 |succ n=>
   intro p hp;have hp:=(List.mem_filter.1 hp).1;refine aCd h n p hp ?_;have:(l.filter (eJ p)).length<(l.filter _).length:=vB hp rfl (by rw[<-znt,kR];omega) λ_ _ _=>rfl
   grind
end
section
attribute [local irreducible] Ev PWp
theorem FamB.toHS{l:List Pt}{idm id5 id8 id9:Nat}{K:List (Nm×(Nat×Nat))}(h:FamB st l idm K S){m:AObj}(h5:S id5=none)(h8:upd S id5 (some c5) id8=none)(h9:upd (upd S id5 (some c5)) id8 (some c8) id9=none)(q:c5= .cells 348 [.mref idm])(u:c8= .cells 90 [.val (.slice none 0 0)])(v:m= .cells 349 [.fn 351 [.ref id5 0, .ref id8 0, .ref id9 0]]):
  HS st l id5 id8 id9 idm K (upd (upd (upd (upd S id5 (some c5)) id8 (some c8)) id9 (some c9)) id9 (some m)) (gO l) []:=by
 subst q u v
 have o:id8≠id5:=λe=>by rw[e,aA]at h8;cases h8
 rw[aB o]at h8
 have i:id9≠id8:=λe=>by rw[e,aA]at h9;cases h9
 rw[aB i]at h9
 have f:id9≠id5:=λe=>by rw[e,aA]at h9;cases h9
 rw[aB f]at h9
 have g:∀j,S j≠none->j≠id5/\j≠id8/\j≠id9:=λj hj=>⟨λe=>hj (e▸h5),λe=>hj (e▸h8),λe=>hj (e▸h9)⟩
 have p:∀j,S j≠none->(upd (upd (upd (upd S id5 (some (.cells 348 [.mref idm]))) id8 (some (.cells 90 [.val (.slice none 0 0)]))) id9 (some c9)) id9 (some (.cells 349 [.fn 351 [.ref id5 0, .ref id8 0, .ref id9 0]]))) j=S j:=λj hj=>by
  have⟨a,b,c⟩:=g j hj
  rw[aB c,aB c,aB b,aB a]
 refine⟨λj hj=>?_,(h.fresh h5).1,(h.fresh h8).1,(h.fresh h9).1,h.mf,?_,aA _ _ _,(p idm (by rw[h.hm];simp)).trans h.hm,λk id n hk=>?_,h.ids,h.keys,h.non,λk=> .refl _, .inl ⟨?_,rfl⟩⟩
 ·have:=h.old j hj
  rw[p j (by rw[this];exact hj)];exact this
 ·rw[aB (Ne.symm f),aB (Ne.symm f),aB (Ne.symm o),aA]
 ·have⟨w,x,y⟩:=h.arr k id n hk
  grind
 ·rw[aB (Ne.symm i),aB (Ne.symm i),aA]
def cM(l:List Pt):List Pt:=if fK l=true/\l.length<=2000 then fC l l.length Nm.zero else[]
theorem aFP(l:List Pt)(st:aD)(hl:l.length<4611686018427387904)(o:fK l=true->(fC l l.length Nm.zero).length=l.length):qc 293 [.seq (l.map Pt.z)] st (LR 154 11 st ((cM l).map Pt.z)):=by
 refine pC func293 rfl ?_
 repeat' first|apply Cn.cf;focus((apply afB l hl);done)|refine Cn.rr ?_;have e:cM l=[]:=(by unfold cM;rw[zn];rintro⟨T,Z⟩;rcases‹_\/_›with q|q;rw[T]at q;cases q;omega);exact .inr ⟨rfl,by rw[e];rfl,zsr _⟩;done|apply wZ;rfl|show Cn _;constructor|apply wY;rfl|intro h;simp at h
 have I:fK l=true/\l.length<=2000:=⟨h.1,by omega⟩;have y:=(eR l).1 I.1;have o:=o I.1;have p:cM l=fC l l.length Nm.zero:=by unfold cM;rw[zp I]
 refine mkM (enc:=Nm.enc) (f:=agP) rfl λidm n=>?_;have n:st idm=none:=n
 repeat' first|apply wZ;rfl|show Cn _;constructor
 refine aC (X:={x:Nat×aD×List (Nm×(Nat×Nat))//x.1<=l.length/\FamB st (l.take x.1) idm x.2.2 x.2.1}) (λi=>(((((St.nil 45 (i.1.2.1)).var 5 348 ([.mref idm])).pv 23 (.seq (l.map Pt.z))).pv 24 (vi ((l.map Pt.z).length:Nat))).pv 25 (vi (i.1.1:Nat)))) (λi=>l.length-i.1.1) ⟨(0,upd st idm (some (.map (aY Nm.enc agP []))),[]),by simp,FamB.nil n⟩ ?_ λi=>?_;rotate_left;obtain⟨⟨i,S,K⟩,hi,g⟩:=i;simp only at hi g;dsimp only;have hm:=g.hm;have z:=λh:i<l.length=>awF (l.take i) (aJ (l[i]'h));have J:(l.take i).length<=l.length:=by rw[zlt];omega
 repeat' first|apply wDm pk;rfl;kernel_rfl;rfl;rfl|apply Cn.cf;focus((apply tX);done)|apply wZ;rfl|show Cn _;constructor|exact rfl|apply aGX pk Nm.key (f:=agP);(iterate 5 rfl);rotate_left;rfl;(assumption);rfl;intro v hv;rotate_left;intro hv;rotate_left|apply wY;rfl|apply wI;rfl|apply gE;omega|intro h;simp at h
 skip
 obtain⟨U,V,W⟩:=g.arr _ _ _ (uD hv);have z:=z h
 repeat'(apply apV pk (f:=Pt.z) [l[i]'‹_›] 96;(iterate 9 rfl);(assumption);omega;exactλ_=>rfl;exactλ_=>rfl;exact aaQ;(focus(simp;omega));(focus(simp;omega));rfl;intro b a)
 have a:S b=none:=a;obtain⟨O,H,Q⟩:=g.fresh a;have w:=Ne.symm H;have R:=Ne.symm (g.notm (uD hv));apply muA pk Nm.key (f:=agP) (k:=aJ (l[i]'h)) (v:=(b,v.2+1));exact .inr rfl;rfl;rfl;rfl;rfl;rfl;exact(aB w).trans ((aB R).trans hm);rfl;rotate_left
 skip
 have F:=g.non _ hv
 repeat'(apply ap0 pk (f:=Pt.z) [l[i]'‹_›] 96;(iterate 10 rfl);exactλ_=>rfl;exactλ_=>rfl;exact aaQ;(focus(simp;done));(focus(simp;done));rfl;intro b a)
 have a:S b=none:=a;obtain⟨O,H,Q⟩:=g.fresh a;have w:=Ne.symm H;apply muA pk Nm.key (f:=agP) (k:=aJ (l[i]'h)) (v:=(b,1));exact .inr rfl;rfl;rfl;rfl;rfl;rfl;exact(aB w).trans hm;rfl;rotate_left;have M:l.take i=l:=ztl (by omega);rw[M]at g;clear z J
 repeat' first|apply wZ;rfl|show Cn _;constructor|apply ldR pk;rfl;rfl;rotate_left;rfl;exact aA _ _ _;rfl;rfl|apply stR pk;rfl;rfl;exact aA _ _ _;rfl;rfl|apply gF 5;rfl;rfl;intro id5 C|apply gF 8;rfl;rfl;intro id8 D|apply gF 9;rfl;rfl;intro id9 E
 have q:=g.toHS (c8:= .cells 90 [.val (.slice none 0 0)]) (c5:= .cells 348 [.mref idm]) (c9:= .cells 349 [.val .nilFunc]) C D E rfl rfl rfl
 repeat' first|apply cP;rfl;apply(aC7 y.named y.formed hl l.length Nm.zero _ _ _ (auK y) (by rw[o];simp;omega) q);rintro _ st' (⟨A2,hA3,hA4⟩)|apply wZ;rfl|show Cn _;constructor|apply wY;rfl
 rw[List.nil_append]at hA3;have u:=hA3.old;have G:∀c,st c=none->StSub st (upd st' c none):=λc hn j=>by
  by_cases hj:st j=none
  ·exact .inl hj
  ·right;rw[aB λe=>by subst e;exact hj hn];exact(u j hj).symm
 have B:StSub st st':=λj=>by
  by_cases hj:st j=none
  ·exact .inl hj
  ·right;exact(u j hj).symm
 rcases hA3.h8 with⟨h8,N⟩|⟨c,h8,c1,c2,Y⟩
 rotate_left
 all_goals (repeat' first|refine Cn.rr ?_;exact .inl ⟨c,by rw[p,zql],c2,by rw[p];exact c1,G c c2⟩;done|refine Cn.rr ?_;exact .inr ⟨rfl,by rw[p,N];rfl,B⟩;done|refine⟨⟨(i+1,upd (upd S b (some (.arr 154 ([l[i]'h].map Pt.z)))) idm (some (.map (aY Nm.enc agP (dE (aJ (l[i]'h)) (b,1) K)))),dE (aJ (l[i]'h)) (b,1) K),by simp only;omega,by have q:=g.step (S1:=S) (m:=1) h a (by rw[F];rfl) λj hj=>rfl;rw[F]at q;exact q⟩,?_,?_⟩|refine⟨⟨(i+1,_,_),by simp only;omega,g.step (S1:=upd S v.1 none) (m:=v.2+1) h a (by omega) λj hj=>aB λe=>hj v.2 (by subst e;exact uD hv)⟩,?_,?_⟩|exact Cn.t0|apply wZ;rfl|show Cn _;constructor|apply ldR pk;rfl;rfl;rotate_left;rfl;(assumption);rfl;rfl|exact rfl|omega|simp<;>omega)
theorem aoW :Tryz.prog.cellsOf 154=11:=(aQ aT rfl).2
theorem arL(l:List Pt)(hl:l.length<4611686018427387904)(a:fK l=true->(fC l l.length Nm.zero).length=l.length):qf 293 [.seq (l.map Pt.z)] (.seq ((cM l).map Pt.z)):=
 aCz aoW λst=>aFP l _ hl a
end
section
inductive Anc (l:List Pt):Pt->List Pt->Prop
 |root {p:Pt} (hp:p∈l) (h0:aJ p=Nm.zero):Anc l p [p]
 |step {p u:Pt} {s:List Pt} (hp:p∈l) (hu:u∈l) (e:aH u=aJ p) (h0:aJ p≠Nm.zero) (h:Anc l u s):Anc l p (s++[p])
theorem Anc.all{l:List Pt}{p:Pt}(h:Anc l p s):∀q∈s,q∈l:=by
 induction h with
 |root hp _=>simpa
 |step hp _ _ _ _ ih=>
  grind
theorem Anc.fn{l:List Pt}(hn:named l){p:Pt}(h:Anc l p s):∀{t:List Pt},Anc l p t->s=t:=by
 induction h with
 |root hp h0=>intro t ht;cases ht with
  |root=>rfl
  |step _ _ _ h0' _=>grind
 |step hp hu e h0 _ ih=>intro t ht;cases ht with
  |root _ h0'=>grind
  |step _ hu' e' _ h'=>
   have:=hn _ hu _ hu' (by grind)
   grind
theorem Anc.last{l:List Pt}{p:Pt}(h:Anc l p s):∃r,s=r++[p]:=by
 cases h with
 |root=>simp
 |step=>simp
theorem Anc.ex{l:List Pt}(b:Whole l):∀(n:Nat)(p:Pt),p∈l->(l.filter λq=>eJ q p).length<=n->∃s,Anc l p s
 |n,p,hp,hn=>by
  by_cases h0:aJ p=Nm.zero
  ·exact⟨_, .root hp h0⟩
  ·have⟨u,hu,e,ha⟩:=(b.up p hp).resolve_left h0
   have c:(l.filter λq=>eJ q u).length<(l.filter λq=>eJ q p).length:=vB (a:=u) hu ha (by rw[<-znt,kR];omega) λq _ hq=>by
    rw[kR]at ha hq⊢;omega
   cases n with
   |zero=>omega
   |succ n=>
    have⟨s,hs⟩:=Anc.ex b n u hu (by omega);exact⟨_, .step hp hu e h0 hs⟩
def gT :List Pt->List Pt->Prop
 |_,[]=>False
 |[],_::_=>True
 |a::s,b::t=>a=b/\gT s t\/fF a b
theorem abC(a:Pt):¬fF a a:=by rw[fU];omega
theorem aFX{a:Pt}(e:fF a b)(f:fF b c):fF a c:=by rw[fU]at e f⊢;omega
theorem aaX :∀(s:List Pt),¬gT s s
 |[],h=>h
 |a::s,h=>by rcases h with⟨_,h⟩|h;exact aaX s h;exact abC a h
theorem arZ :∀{s t u:List Pt},gT s t->gT t u->gT s u
 |_,_,[],_,h=>(by cases ‹List _› <;>exact h.elim)
 |s,[],_::_,h,_=>(by simp[gT]at h)
 |[],_::_,_::_,_,_=>trivial
 |a::s,b::t,c::u,h1,e=>by
  rcases h1 with⟨rfl,h1⟩|h1<;>rcases e with⟨rfl,e⟩|e
  ·exact .inl ⟨rfl,arZ h1 e⟩
  ·exact .inr e
  ·exact .inr h1
  ·exact .inr (aFX h1 e)
theorem aaT :∀(P:List Pt){s t:List Pt},gT s t->gT (P++s) (P++t)
 |[],_,_,h=>h
 |a::P,_,_,h=> .inl ⟨rfl,aaT P h⟩
def ltP(l:List Pt)(p q:Pt):Prop:=∃s t,Anc l p s/\Anc l q t/\gT s t
theorem aBJ{l:List Pt}(hn:named l)(p:Pt):¬ltP l p p:=λ⟨s,t,a,b,h⟩=>by rw[a.fn hn b]at h;exact aaX _ h
theorem avY{l:List Pt}(hn:named l){p:Pt}(h:ltP l p q)(b:ltP l q p):False:=by
 have⟨s,t,c,e,f⟩:=h;have⟨i,g,h4,h5,a⟩:=b;rw[<-c.fn hn h5,<-e.fn hn h4]at a;exact aaX _ (arZ f a)
theorem zJ{l:List Pt}(h:(l.map aH).Nodup):l.Nodup:=by
 induction l with
 |nil=>simp
 |cons a l ih=>
  grind
theorem uI{l:List Pt}(g:Whole l):∀(n:Nat)(k:Nm)(P:List Pt),(∀p∈gO l k,Anc l p (P++[p]))->
  (∀x∈fC l n k,∃q s,q∈dB l k/\Anc l x (P++q::s))/\(fC l n k).Pairwise (ltP l)
 |0,_,_,_=>⟨λx h=>(by cases h),List.Pairwise.nil⟩
 |n+1,k,P,hP=>by
  have hq:∀q∈dB l k,Anc l q (P++[q]):=λq hq=>hP q (kL hq).2
  have hc:∀q∈dB l k,∀p∈gO l (aH q),Anc l p ((P++[q])++[p]):=λq c p hp=>by
   have⟨f,e⟩:=List.mem_filter.1 hp
   have e:aJ p=aH q:=by simpa using e
   have i:=(kL c).1
   exact .step f i e.symm (by rw[e];exact aeB (g.formed q i)) (hq q c)
  have key:∀q∈dB l k,∀x∈q::fC l n (aH q),∃s,Anc l x (P++q::s):=λq c x hx=>by
   rcases zmc.1 hx with rfl|hx
   ·exact⟨[],hq x c⟩
   ·have⟨r,s,_,h⟩:=(uI g n (aH q) (P++[q]) (hc q c)).1 x hx
    exact⟨r::s,by simpa using h⟩
  constructor
  ·intro x hx
   have⟨q,c,hx⟩:=List.mem_flatMap.1 hx;have⟨s,h⟩:=key q c x hx;exact⟨q,s,c,h⟩
  ·rw[fC,List.pairwise_flatMap]
   refine⟨λq c=>?_,?_⟩
   ·have m:=uI g n (aH q) (P++[q]) (hc q c)
    rw[List.pairwise_cons];refine⟨λx hx=>?_,m.2⟩;have⟨r,s,_,h⟩:=m.1 x hx;refine⟨_,_,hq q c,h,?_⟩;have:=aaT (P++[q]) (s:=[]) (t:=r::s) trivial
    simpa using this
   ·have hs:=yY l k
    have j:(dB l k).Nodup:=by
     have:=g.nodup;have f:(gO l k).Nodup:=(List.Pairwise.filter _ (zJ this));exact(kW l k).nodup_iff.2 f
    refine(hs.and j).imp_of_mem fun{a b} ha hb hab x hx y hy=>?_;have⟨s,f⟩:=key a ha x hx;have⟨t,e⟩:=key b hb y hy;refine⟨_,_,f,e,aaT P (.inr ?_)⟩;by_cases hk:fF a b
    ·exact hk
    ·exact absurd (aB3 g.named (kL ha).1 (kL hb).1 hk hab.1) hab.2
theorem aCK{l:List Pt}{k:Nm}{p:Pt}(hd:aAv l n k)(hp:p∈gO l k):p∈fC l n k:=by
 cases n with
 |zero=>rw[show gO l k=[]from hd]at hp;cases hp
 |succ n=>exact List.mem_flatMap.2 ⟨p,(kW l k).symm.subset hp,by simp⟩
theorem awO{l:List Pt}{p u:Pt}(hp:p∈gO l (aH u)):∀{n:Nat}{k:Nm},aAv l n k->u∈fC l n k->p∈fC l n k
 |0,_,_,hu=>(by cases hu)
 |n+1,k,hd,hu=>by
  have⟨q,hq,hu⟩:=List.mem_flatMap.1 hu
  have a:=hd q (kL hq).2
  refine List.mem_flatMap.2 ⟨q,hq,?_⟩
  rcases zmc.1 hu with rfl|hu
  ·exact zmm _ (aCK a hp)
  ·exact zmm _ (awO hp a hu)
theorem asO{l:List Pt}:∀{n:Nat}{k:Nm}{p:Pt},p∈fC l n k->p∈l
 |0,_,_,h=>(by cases h)
 |n+1,k,p,h=>by
  have⟨q,hq,h⟩:=List.mem_flatMap.1 h
  rcases zmc.1 h with rfl|h
  ·exact(kL hq).1
  ·exact asO h
theorem aMS{l:List Pt}(a:Whole l){p:Pt}(h:Anc l p s):p∈fC l l.length Nm.zero:=by
 have hd:=auK a
 induction h with
 |root hp h0=>exact aCK hd (List.mem_filter.2 ⟨hp,by grind⟩)
 |step hp hu e h0 _ ih=>exact awO (List.mem_filter.2 ⟨hp,by grind⟩) hd ih
theorem akO{l:List Pt}(b:l.Nodup)(c:m.Nodup)(h:∀a,a∈l↔a∈m):l.Perm m:=by grind
theorem atW{l:List Pt}(c:Whole l):(fC l l.length Nm.zero).Perm l/\(fC l l.length Nm.zero).Pairwise (ltP l):=by
 have hs:=(uI c l.length Nm.zero [] λp hp=>by
  have⟨f,g⟩:=List.mem_filter.1 hp
  exact .root f (by grind)).2
 refine⟨akO ?_ (zJ c.nodup) λa=>⟨asO,λha=>?_⟩,hs⟩
 ·exact hs.imp fun{a b} h e=>by subst e;exact aBJ c.named _ h
 ·have⟨s,hs⟩:=Anc.ex c _ a ha (znr _)
  exact aMS c hs
theorem aiX(l:List Pt)(hl:l.length<4611686018427387904):qf 293 [.seq (l.map Pt.z)] (.seq ((cM l).map Pt.z)):=
 arL l hl λh=>(atW ((eR l).1 h)).1.length_eq
theorem gN{l:List Pt}(a:Whole l)(hl:l.length<=2000):(cM l).Perm l/\(cM l).Pairwise (ltP l):=by
 unfold cM;rw[zp ⟨(eR l).2 a,hl⟩];exact atW a
theorem kT{l:List Pt}(h:¬(Whole l/\l.length<=2000)):cM l=[]:=by
 unfold cM;rw[zn λ⟨a,b⟩=>h ⟨(eR l).1 a,b⟩]
theorem adI{l:List Pt}(c:Whole l)(hl:l.length<=2000)(hp:m.Perm l)(hs:m.Pairwise (ltP l)):cM l=m:=by
 have⟨f,g⟩:=gN c hl;exact uniq (f.trans hp.symm) g hs λa _ b _ h e=>(avY c.named h e).elim
theorem Inv.perm{l:List Pt}(hp:l.Perm m)(h:Inv l):Inv m:=
 ⟨λp hm=>h.formed p (hp.symm.subset hm),(hp.map _).nodup_iff.1 h.nodup,λa ha b hb=>h.times a (hp.symm.subset ha) b (hp.symm.subset hb)⟩
theorem Whole.perm{l:List Pt}(hp:l.Perm m)(h:Whole l):Whole m where
 toInv:=h.toInv.perm hp
 up p hm:=by
  rcases h.up p (hp.symm.subset hm)with e|⟨u,hu,e⟩
  ·exact .inl e
  grind
theorem Anc.perm{l:List Pt}(hp:∀a,a∈l->a∈m){p:Pt}(h:Anc l p s):Anc m p s:=by
 induction h with
 |root h h0=>exact .root (hp _ h) h0
 |step h hu e h0 _ ih=>exact .step (hp _ h) (hp _ hu) e h0 ih
theorem ltP.perm{l:List Pt}(hp:∀a,a∈l->a∈m){p:Pt}(h:ltP l p q):ltP m p q:=by
 have⟨s,t,b,c,e⟩:=h;exact⟨s,t,b.perm hp,c.perm hp,e⟩
theorem acY{l:List Pt}(hp:l.Perm m):cM l=cM m:=by
 by_cases h:Whole l/\l.length<=2000
 ·have hm:=h.1.perm hp
  have b:m.length<=2000:=by rw[<-hp.length_eq];exact h.2
  have⟨c,e⟩:=gN hm b;exact adI h.1 h.2 (c.trans hp.symm) (e.imp λk=>k.perm λa ha=>hp.symm.subset ha)
 ·rw[kT h,kT λk=>h ⟨k.1.perm hp.symm,by rw[hp.length_eq];exact k.2⟩]
end
section
attribute [local irreducible] Ev PWp
theorem aaF{l:List Pt}(h:l.take i=m.take i)(a:i<l.length)(b:i<m.length)(e:l[i]=m[i]):l.take (i+1)=m.take (i+1):=by
 rw[zts a,zts _,h,e]
theorem anA{l:List Pt}(a:i<l.length)(b:i<m.length)(e:l[i]≠m[i]):decide (l=m)=false:=zdj λh=>by grind
theorem agM{l:List Pt}(h:l.take i=m.take i)(a:l.length<=i)(b:m.length<=i):decide (l=m)=true:=by
 rw[ztl a,ztl b]at h;grind
theorem equal_spec(l m:List Pt)(hl:l.length<4611686018427387904):qf 81 [.seq (l.map Pt.z), .seq (m.map Pt.z)] (vb (decide (l=m))):=by
 refine pF func81 rfl λst=>?_
 repeat' first|apply wZ;rfl|constructor|show(_:PV)=_;rw[zdj λe:l=m=>by subst e;simp at*];done|intro h;simp at h
 refine aC (X:={x:Nat//x<=l.length/\l.take x=m.take x}) (λi=>(((((St.nil 26 st).pv 0 (.seq (l.map Pt.z))).pv 1 (.seq (m.map Pt.z))).pv 12 (vi ((l.map Pt.z).length:Nat))).pv 13 (vi (i.1:Nat)))) (λi=>l.length-i.1) ⟨0,by omega,rfl⟩ ?_ λi=>?_;rotate_left;have⟨i,hi,a⟩:=i;dsimp only;have b:l.length=m.length:=by omega
 all_goals (repeat' first|refine⟨⟨i+1,by omega,aaF a (by omega) (by omega) (by rw[Pt.ext_iff,Vl.ext_iff,Dt.ext_iff,Dt.ext_iff];simpa[and_assoc]using h)⟩,?_,?_⟩|apply wZ;rfl|apply KR.mk;kernel_rfl|omega|constructor|show(_:PV)=_;(first|rw[anA (i:=i) (by omega) (by omega) λe=>by simp[e]at h];done|rw[agM a (by omega) (by omega)]);done|apply wI;rfl|apply gE;omega|simp<;>omega|intro h;simp at h)
def rightP(c:Cl):Int:=if c.k≠4 then 6 else if c.val≠Vl.zero\/fK c.p=false then 1 else if 2000<c.p.length then 2 else if cM c.p≠c.p then 3 else 0
theorem abP(l:List Pt):(cM l).length<=l.length:=by
 by_cases h:Whole l/\l.length<=2000
 ·exact Nat.le_of_eq (gN h.1 h.2).1.length_eq
 ·rw[kT h];simp
theorem right_spec(c:Cl)(hl:c.p.length<4611686018427387904):qf 233 [.agg c.z] (vi (rightP c)):=by
 have:=abP c.p;have hc:(2000<((c.p.length:Nat):Int))↔2000<c.p.length:=by omega
 have b:(((c.p.length:Nat):Int)<=2000)↔¬2000<c.p.length:=by omega
 refine pF func233 rfl λst=>?_
 repeat' first|apply wZ;rfl|apply KR.mk;kernel_rfl|constructor|((first|apply afB c.p hl|apply aiX c.p hl|apply equal_spec (cM c.p) c.p)<;>(omega))|show(_:PV)=_;(first|simp only[rightP,Vl.ext_iff,Vl.zero,e0];grind|obtain⟨⟨e,f,g⟩,i⟩:=‹(_/\_/\_)/\_›;have a:c.val=Vl.zero:=(Vl.ext_iff _ _).2 ⟨e,f,g⟩;simp only[rightP,a,i];grind);done|apply wY;rfl|intro h;simp at h|intro h
end
end Go.Proofs.YtigmnfepdlbcpaaGreatDoor.T
namespace Go.Proofs.YtigmnfepdlbcpaaGreatDoor
open Go Go.Abs
variable{L:List Ln}{i j n:Nat}{x y:Ln}{k:Int}{b:Bs}{s:Sc}{α:Type}
section
theorem aqU{α:Type}{r:α->α->Prop}(j:∀{a b c},r a b->r b c->r a c)(i:∀{a},¬r a a):∀{l m:List α},l.Pairwise r->m.Pairwise r->(∀x,x∈l↔x∈m)->l=m
 |[],[],_,_,_=>rfl
 |[],b::m,_,_,h=>absurd ((h b).2 (by simp)) (by simp)
 |a::l,[],_,_,h=>absurd ((h a).1 (by simp)) (by simp)
 |a::l,b::m,h1,h2,h=>by
  have f:=List.pairwise_cons.1 h1
  have g:=List.pairwise_cons.1 h2
  have e:a=b:=by
   rcases zmc.1 ((h a).1 (by simp))with q|q
   ·exact q
   rcases zmc.1 ((h b).2 (by simp))with w|w
   ·exact w.symm
   grind
  subst e
  refine congrArg _ (aqU (r:=r) j i f.2 g.2 λx=>?_)
  grind
def KSort(L:List Ln):Prop:=(L.map (·.key)).Pairwise (· < ·)
theorem KSort.at(h:KSort L)(a:i<j)(hj:j<L.length):(L[i]'(by omega)).key<L[j].key:=by
 have:=List.pairwise_iff_getElem.1 h i j (by grind) (by grind) a
 grind
theorem KSort.inj(h:KSort L)(hi:i<L.length)(hj:j<L.length)(e:L[i].key=L[j].key):i=j:=by
 rcases Nat.lt_trichotomy i j with q|q|q
 ·have:=h.at q hj;omega
 ·exact q
 ·have:=h.at q hi;omega
theorem KSort.eq(h:KSort L)(hx:x∈L)(hy:y∈L)(e:x.key=y.key):x=y:=by
 obtain⟨i,hi,rfl⟩:=zgo hx;obtain⟨j,hj,rfl⟩:=zgo hy;have:=h.inj _ _ e
 grind
theorem rA(h:KSort L):bJ L k=some x↔x∈L/\x.key=k:=by
 unfold bJ;constructor
 ·grind
 ·rintro⟨hx,rfl⟩
  cases q:L.find? _ with
  |none=>grind
  |some y=>rw[h.eq (List.mem_of_find?_eq_some q) hx (by grind)]
theorem apK(h:KSort L)(a x:Ln):x∈sN L a↔x=a\/(x∈L/\x.key≠a.key):=by
 unfold sN;rcases yM L a.key with⟨j,hj,e,_,hk,_⟩|⟨j,hj,e,_,hk,_,_⟩
 ·rw[e,zp rfl,zin]
  constructor
  ·intro hx
   obtain⟨q,hq,rfl⟩:=zgo hx;rw[List.length_set]at hq;rw[List.getElem_set];split
   ·exact .inl rfl
   ·rename_i b
    exact .inr ⟨zgm hq,λc=>b (h.inj hj hq (hk.trans c.symm))⟩
  ·rintro(rfl|⟨hx,b⟩)
   ·exact List.mem_iff_getElem.2 ⟨j,by simpa using hj,by simp⟩
   ·obtain⟨q,hq,rfl⟩:=zgo hx
    have f:q≠j:=λc=>b (by subst c;exact hk);exact List.mem_iff_getElem.2 ⟨q,by simpa using hq,by rw[List.getElem_set_ne (Ne.symm f)]⟩
 ·rw[e,zn (by simp),zin]
  unfold cU;have c:=List.take_append_drop j L
  grind
theorem KSort.put(h:KSort L)(a:Ln):KSort (sN L a):=by
 unfold sN;rcases yM L a.key with⟨j,hj,e,_,hk,_⟩|⟨j,hj,e,_,hk,f,b⟩
 ·rw[e,zp rfl,zin]
  unfold KSort;rw[List.map_set,<-hk];have:(L.map (·.key)).set j L[j].key=L.map (·.key):=by
   have c:j<(L.map (·.key)).length:=by simpa using hj
   have:=List.set_getElem_self c
   simpa using this
  rw[this];exact h
 ·rw[e,zn (by simp),zin]
  unfold KSort cU;have hp:=h;unfold KSort at hp;rw[<-List.take_append_drop j L,zmd,List.pairwise_append]at hp;rw[zmd,zmd,List.pairwise_append,List.pairwise_append];refine⟨⟨hp.1,List.pairwise_singleton ..,λx hx y hy=>?_⟩,hp.2.1,λx hx y hy=>?_⟩
  ·simp only[zmp,List.map_nil,zms]at hy
   subst hy;obtain⟨z,hz,rfl⟩:=zmq.1 hx;obtain⟨q,hq,rfl⟩:=zgo hz;rw[zlt]at hq;rw[List.getElem_take];have i:=f q (by omega) (by omega);have m:=hk _ (zgm (show q<L.length by omega));omega
  ·have g:a.key<y:=by
    obtain⟨z,hz,rfl⟩:=zmq.1 hy;obtain⟨q,hq,rfl⟩:=zgo hz;rw[zld]at hq;rw[List.getElem_drop];have i:=b (by omega);rcases Nat.eq_zero_or_pos q with rfl|k
    ·exact i
    ·have:=h.at (show j<j+q by omega) (by omega);omega
   rw[zma]at hx;rcases hx with hx|hx
   ·exact hp.2.2 x hx y hy
   ·simp only[zmp,List.map_nil,zms]at hx
    subst hx;exact g
end
section
section
variable{L:List Ln}
end
theorem avE(h:okT b k=false):aF b k=[]:=by unfold aF;rw[h];rfl
variable{tx:Cl->Int}
theorem gI{t:Tb}:vY tx t L=true↔L.length<=2000/\(∀x∈L,jX tx t x=true)/\KSort L:=by
 unfold vY;rw[zba,zde,qF];refine and_congr Iff.rfl ?_;constructor
 ·intro h
  have a:∀i (hi:i<L.length),jX tx t L[i]=true/\(i=0\/L[i-1]!.key<L[i].key):=λi hi=>by
   have:=h i hi
   unfold lnR at this
   rw[zep L i hi]at this
   simpa using this
  refine⟨λx hx=>by obtain⟨i,hi,rfl⟩:=zgo hx;exact(a i hi).1,?_⟩;have key:∀j (hj:j<L.length) i (hi:i<j),(L[i]'(by omega)).key<L[j].key:=by
   intro j
   induction j with
   |zero=>intro _ i hi;exact absurd hi (Nat.not_lt_zero _)
   |succ j ih=>
    grind
  unfold KSort;exact List.pairwise_iff_getElem.2 λi j hi hj b=>by simpa using key j (by simpa using hj) i b
 ·rintro⟨a,c⟩ i hi
  unfold lnR;rw[zep L i hi,a _ (zgm hi),Bool.true_and];rcases Nat.eq_zero_or_pos i with rfl|h0
  ·simp
  ·rw[zep L (i-1) (by omega)]
   have:=c.at (show i-1<i by omega) hi;simp[this]
theorem aS:bA tx s b=true↔(bY s=0/\b.length=s.length)/\∀k<b.length,vY tx s[k]! b[k]!.l=true:=by
 unfold bA;rw[zba,zde,qF];rfl
theorem mC(h:bA tx s b=true)(k:Int):KSort (aF b k):=by
 cases hk:okT b k with
 |false=>rw[avE hk];simp[KSort]
 |true=>
  have e:aF b k=b[k.toNat]!.l:=by unfold aF;grind
  simp only[okT,zba,zde]at hk;rw[e];exact(gI.1 ((aS.1 h).2 _ (by omega))).2.2
theorem ajS(h:bA tx s b=true)(hk:okT b k=true):vY tx s[k.toNat]! (aF b k)=true:=by
 have e:aF b k=b[k.toNat]!.l:=by unfold aF;grind
 simp only[okT,zba,zde]at hk;rw[e];exact(aS.1 h).2 _ (by omega)
theorem aD7(h:bA tx s b=true)(hk:okT b k=true)(ls:List Ln):bA tx s (rG b k ls)=vY tx s[k.toNat]! ls:=by
 have⟨c,f⟩:=aS.1 h;have a:=hk;simp only[okT,zba,zde]at a;obtain⟨q,rfl⟩:∃q:Nat,k=q:=⟨k.toNat,by omega⟩;have hq:q<b.length:=by omega
 rw[zbi,aS,nL,zin];constructor
 ·intro w
  have:=w.2 q hq;rwa[zep (rG b q ls) q (by rw[nL];exact hq),aqO hq rfl]at this
 ·intro w
  refine⟨c,λi hi=>?_⟩;rw[zep (rG b q ls) i (by rw[nL];exact hi)];by_cases e:(i:Int)=q
  ·rw[aqO hi e,show i=q by omega];exact w
  ·rw[aCs hi e,<-zep b i hi];exact f i hi
end
section
attribute [local irreducible] Ev PWp
theorem mS(o:Option Ln):aLH o= .tup [.agg (o.getD Ln.zero).z,vb o.isSome]:=by cases o<;>rfl
def ScB(s:Sc):Prop:=∀t∈s,TbB t
theorem aOf(c:Cl)(h:c.p.length<=1000):aJV T.rightP c:=⟨by omega,λ_=>T.right_spec c (by omega)⟩
theorem BsS.da(h:BsS n b)(hn:n<=1000):∀d∈b,aNq T.rightP d:=λd hd=>by
 have⟨f,a⟩:=h.2 d hd
 refine⟨by omega,λl hl=>?_⟩
 have⟨g,i,e⟩:=a l hl
 exact⟨⟨by omega,by omega⟩,λc hc=>aOf c (e c hc)⟩
theorem gH(h:BsS n b)(hn:n<=1000)(hs:ScB s)(hl:s.length<=20):qf 32 [.agg (scC s), .agg (bsC b)] (vb (bA T.rightP s b)):=
 aAE _ s b (by omega) hs (by have:=h.1;omega) (h.da hn)
theorem abS(h:BsS n b)(hn:n<=1000)(k key:Int):qf 38 [.agg (bsC b),vi k,vi key] (.tup [.agg ((bJ (aF b k) key).getD Ln.zero).z,vb ((bJ (aF b k) key).isSome)]):=mS _▸zV b k _ (h.e hn).2
end
section
def dH{α:Type}(f:α->Int)(l:List α):Int:=(l.find? λx=>decide (f x≠0)).elim 0 f
theorem eW{f:α->Int}{l:List α}:dH f l=0↔∀x∈l,f x=0:=by
 unfold dH;cases e:l.find? _ with
 |none=>
  grind
 |some x=>
  grind
theorem anT(f:α->Int)(x:α)(l:List α):dH f (x::l)=if f x=0 then dH f l else f x:=by
 unfold dH
 grind
theorem yD{α:Type}{f:α->Int}:∀{l:List α}{i:Nat}(h:i<l.length),(∀j (hj:j<i),f (l[j]'(by omega))=0)->f l[i]≠0->dH f l=f l[i]
 |x::l,0,_,_,h2=>by rw[anT];grind
 |x::l,i+1,h,h1,h2=>by
  rw[anT,zp (show f x=0 from h1 0 (by simp))]
  exact yD _ (λj hj=>h1 (j+1) (by omega)) h2
section
variable(sh:Cl->Vl)(ex:Tb->List Vl->Int)
def aqX(l:Ln):List Vl:=l.c.map sh
def cO(b:Bs)(k:Int):List (List Vl):=(aF b k).map (aqX sh)
def bW(c:Co):Int:=if c.k=0\/c.k=1 then c.type_ else if c.k=2\/c.k=3 then 1 else if c.k=4 then 2 else 0
def mW(c:Co)(v:Vl):Int:=if cB v=false then 1 else if v.k=0/\(c.k=0\/c.k=1)/\c.null=false then 7 else if v.k≠0/\v.k≠bW c then 6 else 0
def cY(t:Tb)(r:List Vl):Int:=if t.o.length=r.length then dH (λk=>mW t.o[k]! r[k]!) (List.range r.length)else 1
def qJ(u:Nat)(x y:List Vl):Bool:=(decide (x[u]!.k=1)&&decide (y[u]!.k=1))&&decide (x[u]!.n=y[u]!.n)
def jZ(t:Tb)(rows:List (List Vl)):Bool:=t.u.all λu=>decide (rows.Pairwise λx y=>qJ u.toNat x y=false)
def pZ(b:Bs)(t:Tb)(rows:List (List Vl)):Bool:=t.f.all λf=>rows.all λr=> !decide (r[f.n.toNat]!.k=1)||(bJ (aF b f.t) r[f.n.toNat]!.n).isSome
def arW(m:Su)(g:Int)(r:List Vl):Int:=if r[m.b.toNat]!.k=1/\r[m.b.toNat]!.n=g/\r[m.n.toNat]!.k=1 then r[m.n.toNat]!.n else 0
def gV(m:Su)(g:Int)(rows:List (List Vl)):Int:=(rows.map (arW m g)).sum
def wU(m:Su)(r:List Vl):Bool:=decide (r[m.n.toNat]!.k=1)&&decide (r[m.n.toNat]!.n<0)
def rE(t:Tb)(rows:List (List Vl)):Bool:=t.s.all λm=>rows.all λr=> !wU m r&&(!decide (r[m.b.toNat]!.k=1)||decide (gV m r[m.b.toNat]!.n rows<=m.max))
def ckT(b:Bs)(t:Tb)(rows:List (List Vl)):Int:=
 if dH (cY t) rows≠0 then dH (cY t) rows else if jZ t rows=false then 8 else if dH (ex t) rows≠0 then dH (ex t) rows else if pZ b t rows=false then 10 else if rE t rows=false then 11 else 0
def ckW(s:Sc)(b:Bs):Int:=dH (λk:Nat=>ckT ex b s[k]! (cO sh b k)) (List.range s.length)
structure GoodT (b:Bs) (t:Tb) (rows:List (List Vl)):Prop where
 typ:∀r∈rows,cY t r=0
 uniq:∀u∈t.u,rows.Pairwise λx y=>qJ u.toNat x y=false
 chk:∀r∈rows,ex t r=0
 frn:∀f∈t.f,∀r∈rows,r[f.n.toNat]!.k=1->(bJ (aF b f.t) r[f.n.toNat]!.n).isSome=true
 neg:∀m∈t.s,∀r∈rows,wU m r=false
 max:∀m∈t.s,∀r∈rows,r[m.b.toNat]!.k=1->gV m r[m.b.toNat]!.n rows<=m.max
variable{sh}{ex}
end
end
end Go.Proofs.YtigmnfepdlbcpaaGreatDoor
