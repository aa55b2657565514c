import Derived.Test.YtigmnfepdlbcpaaGreatDoorClAf
import Derived.Test.YtigmnfepdlbcpaaGreatDoorRows
import Derived.SizedLaws
import Derived.LaidMore
import Derived.LaidOnce
import Derived.LaidHandle
set_option linter.all false
set_option maxRecDepth 10000
namespace Go.Proofs.YtigmnfepdlbcpaaGreatDoor
open Go Go.Abs Proofs.Tryz
attribute [local irreducible] Ev PWp
set_option maxHeartbeats 4000000
variable{S st:aD}{a id k:Nat}{Y Z:Option AObj}{p q:P4}{s:Sc}{x:Ln}{n u:Int}{d:Dt}{kn:List Int}
def RgR(st:aD)(L:List P4)(r:PV)(S:aD):Prop:=∃id,r= .vec id 6 0 L.length/\st id=none/\S=upd st id (some (.arr 59 ((L.map rgP).map Rg.z)))
theorem aL2{a:Option AObj}(h:st id=none):StSub st (upd st id a):=λj=>by
 by_cases e:j=id
 ·grind
 ·right;rw[aB e]
theorem aHR{c:Nat}(b:S c=Z)(h:∀j,j≠c->st j=none\/S j=st j):StSub (upd (upd st id none) c Z) S:=λj=>by
 by_cases e:j=c
 ·subst e;right;rw[aA,b]
 ·rw[aB e]
  by_cases a:j=id
  ·subst a;left;rw[aA]
  ·rw[aB a]
   grind
theorem aEj{c:Nat}(h:st c=none):upd st id none c=none:=by
 by_cases e:c=id
 ·subst e;rw[aA]
 ·rw[aB e];exact h
theorem aLx{c:Nat}(h:st a=none):StSub (upd (upd st id none) c Z) (upd (upd (upd st a Y) a none) c Z):=
 aHR (aA _ _ _) λj hj=>by
  rw[aB hj]
  by_cases e:j=a
  ·grind
  ·right;rw[aB e,aB e]
theorem aGb{c:Nat}{X:Option AObj}{z:AObj}(h:st id=some z)(ha:st a=none)(hc:upd st a X c=none):upd (upd (upd st a X) a none) c Y id=some z:=by
 have b:id≠a:=λe=>by grind
 have d:id≠c:=λe=>by rw[<-e,aB b,h]at hc;cases hc
 rw[aB d,aB b,aB b];exact h
theorem apD(p q:Rg):qf 176 [.agg p.z, .agg q.z] (vb (decide (p.k<q.k\/p.k=q.k/\(p.t<q.t\/p.t=q.t/\(p.n<q.n\/p.n=q.n/\p.lo<q.lo))))):=by
 by_cases a:p.k=q.k;by_cases b:p.t=q.t;by_cases c:p.n=q.n;rw[show decide (p.k<q.k\/p.k=q.k/\(p.t<q.t\/p.t=q.t/\(p.n<q.n\/p.n=q.n/\p.lo<q.lo)))=decide (p.lo<q.lo)from decide_eq_decide.2 (by omega)];rotate_left;rw[show decide (p.k<q.k\/p.k=q.k/\(p.t<q.t\/p.t=q.t/\(p.n<q.n\/p.n=q.n/\p.lo<q.lo)))=decide (p.n<q.n)from decide_eq_decide.2 (by omega)];rotate_left;rw[show decide (p.k<q.k\/p.k=q.k/\(p.t<q.t\/p.t=q.t/\(p.n<q.n\/p.n=q.n/\p.lo<q.lo)))=decide (p.t<q.t)from decide_eq_decide.2 (by omega)];rotate_left;rw[show decide (p.k<q.k\/p.k=q.k/\(p.t<q.t\/p.t=q.t/\(p.n<q.n\/p.n=q.n/\p.lo<q.lo)))=decide (p.k<q.k)from decide_eq_decide.2 (by omega)]
 all_goals (refine pF func176 rfl λst=>?_;repeat'(first|apply wZ;rfl|omega|constructor|intro h))
theorem avS(p q:P4):qf 176 [.agg (rgP p).z, .agg (rgP q).z] (vb (eK p q)):=apD _ _
theorem aNn:p=q↔p.1=q.1/\p.2.1=q.2.1/\p.2.2.1=q.2.2.1/\p.2.2.2=q.2.2.2:=by grind
theorem aIg(L:List P4)(p:P4)(hl:L.length<=1000000000)(k:st id=some (.arr 59 ((L.map rgP).map Rg.z))):qc 109 [.vec id 6 0 L.length, .agg (rgP p).z] st (RgR (upd st id none) (sU L p)):=by
 have g:=λq:P4=>avS p q;have⟨G,A,K,J,u,m,d⟩:=ahY L (λ_=>true) (eK p) p;rw[List.filter_eq_self.2 λ_ _=>rfl]at d;have hx:∀i (h:i<L.length),(L.map rgP)[i]?=some (rgP L[i]):=λi h=>by rw[List.getElem?_map,zgg h];rfl
 have o:st=upd (upd st id none) id (some (.arr 59 ((L.map rgP).map Rg.z))):=by
  funext j
  by_cases e:j=id
  ·subst e;rw[aA,k]
  ·rw[aB e,aB e]
 unfold RgR;refine pC func109 rfl ?_
 focus(repeat' first|apply wZ;rfl|constructor)
 refine cL 5 59 6 rfl rfl rfl λid2 b=>?_;have b:st id2=none:=b;refine aC (X:={x:Nat×Nat//x.1<=L.length/\st x.2=none/\∀j (h:j<L.length),j<x.1->L[j]≠p}) (λi=>((((((St.nil 49 (upd st i.1.2 (some (.arr 59 (((G i.1.1).map rgP).map Rg.z))))).pv 0 (.vec id 6 0 L.length)).var 3 59 ((rgP p).z)).pv 5 (.vec i.1.2 6 0 (G i.1.1).length)).pv 6 (vb (A i.1.1))).pv 7 (vi (i.1.1:Nat)))) (λi=>L.length-i.1.1) ⟨(0,id2),by simp,b,by simp⟩ ?_ λi=>?_;dsimp only;rw[K,J];rotate_left;obtain⟨⟨i,id2⟩,hi,b,E⟩:=i;simp only at hi b E;dsimp only;have H:id≠id2:=λe=>by rw[e,b]at k;cases k
 have m:=m i hi;have M:((G i).map rgP).length=(G i).length:=zql _;by_cases I:L.length<=i;obtain rfl:i=L.length:=by omega
 have n:sU L p=if A L.length=true then G L.length else G L.length++[p]:=by
  rw[<-d];unfold sU;rw[zn λq=>by
   have⟨j,hj,e⟩:=zgo q
   exact E j hj hj e]
 rw[n];clear u n d;rcases hA:A L.length with _|_
 rw[zn (by simp)];rotate_left;rw[zp rfl];rotate_left;have r:i<L.length:=by omega
 have⟨_,v,w,y⟩:=u i r;have hx:=hx i r;have g:=g L[i];clear u d;have v:=v rfl;have w:=w rfl;have y:=y rfl;have hq:L[i]=p↔(rgP L[i]).k=(rgP p).k/\(rgP L[i]).t=(rgP p).t/\(rgP L[i]).n=(rgP p).n/\(rgP L[i]).lo=(rgP p).lo:=aNn;obtain⟨O,P⟩:(rgP L[i]).hi=(rgP L[i]).lo+1/\(rgP p).hi=(rgP p).lo+1:=⟨rfl,rfl⟩;obtain⟨Q,R⟩:(rgP L[i]).amt=0/\(rgP p).amt=0:=⟨rfl,rfl⟩;by_cases hp:L[i]=p;have e:sU L p=L:=by unfold sU;rw[zp (hp▸zgm r)]
 rw[e];have hp:=hq.1 hp;rotate_left;have N:¬((rgP L[i]).k=(rgP p).k/\(rgP L[i]).t=(rgP p).t/\(rgP L[i]).n=(rgP p).n/\(rgP L[i]).lo=(rgP p).lo):=λq=>hp (hq.2 q);have z:∀j (h:j<L.length),j<i+1->L[j]≠p:=λj hj F=>by
  rcases zls.1 F with q|q
  ·exact E j hj q
  ·subst q;exact hp
 clear hp hq;rcases hA:A i with _|_
 rcases hB:eK p L[i]with _|_
 have⟨C,D⟩:=y hA hB;rw[hB]at g;clear v w y;rotate_left;have⟨C,D⟩:=w hA hB;rw[hB]at g;clear v w y;rotate_left;have⟨C,D⟩:=v hA;clear v w y;generalize eK p L[i]=B at*
 all_goals (repeat' first|exact Cn.any ⟨_,_,st,rfl,zwr _,aL2 b,id,rfl,aA _ _ _,o⟩|apply wDx pk;rfl;kernel_rfl;rfl;rfl|apply Cn.cf;focus((apply g);done)|refine⟨⟨(i+1,l),by simp only;omega,fA b (aI c),z⟩,?_,?_⟩;dsimp only;rw[C,D];simp only[zmd,zmp,List.map_nil]|refine Cn.any ?_;exact Sub.nil _ _ _ (oB ‹_› ‹_› rfl) rfl|refine⟨⟨(i+1,l),by simp only;omega,aI c,z⟩,?_,?_⟩;dsimp only;rw[C,D];simp only[zmd,zmp,List.map_nil]|exact Cn.any (aM ‹_›)|exact Cn.any ⟨_,_,_,rfl,zwr _,aHR (aA _ _ _) λj hj=> .inr (aB hj),id2,rfl,by rw[aB (Ne.symm H)];exact b,rfl⟩|exact Cn.any ⟨_,_,_,rfl,zwr _,aLx b,l,by simp,aEj (aI c),by rw[show((G L.length++[p]).map rgP).map Rg.z=((G L.length).map rgP++[rgP p]).map Rg.z from by simp]⟩|apply wZ;rfl|exact Cn.t0|omega|constructor|apply ldL pk Rg.elem (a:=(rgP L[i]));rfl;rfl;rotate_left;rfl;(focus((repeat (first|assumption|refine(aB ‹_›).trans ?_));done));intro _;exact hx;rfl|apply ixA pk;(iterate 5 rfl);rotate_left;rfl;intro hw;exact(show _=((i:Nat):Int)from by omega);intro hw;omega;rfl;exact Nat.zero_add _|apply apV pk (f:=Rg.z) [rgP p] 48;(iterate 9 rfl);exact aA _ _ _;omega;exactλ_=>rfl;exactλ_=>rfl;exact yE;(focus(simp;omega));(focus(simp;omega));rfl;intro l c|intro h;simp at h;omega|intro h;simp at h|exact rfl|show _=_;simp|apply apV pk (f:=Rg.z) [rgP L[i]] 48;(iterate 9 rfl);exact aA _ _ _;(focus(simp;done));exactλ_=>rfl;exactλ_=>rfl;exact yE;(focus(simp;omega));(focus(simp;omega));rfl;intro l c|apply ldL pk Rg.elem (a:=(rgP L[i]));rfl;rfl;rotate_left;rfl;exact aGb k b c;intro _;exact hx;rfl|apply wY;rfl|simp<;>omega)
theorem aGN{a:Option AObj}(h:st id=none):upd (upd st id a) id none=st:=by
 funext j
 by_cases e:j=id
 ·subst e;rw[aA,h]
 ·rw[aB e,aB e]
theorem alQ(L:List P4)(p:P4)(hl:L.length<=1000000000)(a:st id=none):qc 109 [.vec id 6 0 L.length, .agg (rgP p).z] (upd st id (some (.arr 59 ((L.map rgP).map Rg.z)))) (RgR st (sU L p)):=by
 have:=aIg L p hl (st:=upd st id _) (aA _ _ _);rwa[aGN a]at this
theorem aNG :ptR none= .tup [vi 0,vb false]:=rfl
theorem aLw(g:Int):ptR (some g)= .tup [vi g,vb true]:=rfl
theorem anO(was is:Ln)(col k t c:Int)(L:List P4)(hl:L.length<=1000000000)(f:eN was col)(g:eN is col)(hn:∀n,ptP is col=some n-> -1099511627776<=n/\n<=1099511627776)(a:st id=none):qc 110 [.vec id 6 0 L.length, .agg was.z, .agg is.z,vi col, .agg [vi k,vi t,vi c,vi 0,vi 0,vi 0]] (upd st id (some (.arr 59 ((L.map rgP).map Rg.z)))) (RgR st (xQ was is col k t c L)):=by
 have b:=jP was col f;have e:=jP is col g;unfold xQ RgR;rcases e2:ptP is col with _|n
 rw[e2,aNG]at e;unfold ptR at b;dsimp only;generalize(ptP was col).getD 0=X at*;generalize(ptP was col).isSome=Y at*;rotate_left;rw[e2,aLw]at e;dsimp only;have⟨j,l⟩:=hn n e2;by_cases d:ptP was col=some n;rw[zp d];rw[d,aLw]at b;rotate_left;rw[zn d];have hp:=alQ L (k,t,c,n) hl a;rcases e1:ptP was col with _|m
 rw[e1,aNG]at b;generalize sU L (k,t,c,n)=R at*;rotate_left;rw[e1,aLw]at b;have i:¬n=m:=λq=>d (by rw[e1,q]);generalize sU L (k,t,c,n)=R at*
 all_goals (refine pC func110 rfl ?_;repeat'(first|apply Cn.cf;focus(((first|apply b|apply e));done)|apply cP;rfl;apply hp;rintro _ st' (⟨id2,rfl,hid2,rfl⟩)|refine Cn.rr ?_;exact⟨id2,rfl,hid2,rfl⟩;done|refine Cn.rr ?_;exact⟨id,rfl,a,rfl⟩;done|apply wZ;rfl|omega|constructor|apply wY;rfl|intro h))
def LnIn(s:Sc)(k:Nat)(x:Ln):Prop:=(∃b:Bs,bA T.rightP s b=true/\x∈aF b (k:Int))\/x=Ln.zero
theorem LnIn.reg(h:LnIn s k x)(hk:k<s.length)(hu:aqW s k u):eN x u:=by
 rcases h with⟨b,hb,hx⟩|rfl
 ·exact abH hb hk hu hx
 ·exact ajF _
theorem LnIn.num(h:LnIn s k x)(hk:k<s.length)(hu:aqW s k u)(n:Int)(hp:ptP x u=some n): -1099511627776<=n/\n<=1099511627776:=by
 rcases h with⟨b,hb,hx⟩|rfl
 ·exact awJ hb hk hu hx hp
 ·rw[aCb]at hp;cases hp
theorem aiR(g:bY s=0)(hk:k<s.length)(was is:Ln)(key:Int)(D: -1099511627776<=key/\key<=1099511627776)(A:LnIn s k was)(v:LnIn s k is)(L:List P4)(hl:L.length<=500000000)(z:st id=none):qc 50 [.vec id 6 0 L.length, .agg (scC s),vi (k:Nat), .agg was.z, .agg is.z,vi key] (upd st id (some (.arr 59 ((L.map rgP).map Rg.z)))) (RgR st (tM s[k] (k:Int) was is key L)):=by
 have⟨_,_,I,J,_⟩:=jF g hk;have o:=alQ L (1,(k:Int),0,key) (by omega) z;have H:=afL (L:=L) (p:=(1,(k:Int),0,key));have hf:=λf (h:f∈s[k].f)=>aIA g hk (f:=f) (by rw[zep s k hk];exact h);have hu:=λu (h:u∈s[k].u)=>aFl g hk (u:=u) (by rw[zep s k hk];exact h);unfold tM RgR;generalize sU L (1,(k:Int),0,key)=b at*;have B:∀i,i<=s[k].f.length->(akR was is (s[k].f.take i) b).length<=b.length+16:=λi hi=>by
  have:=fI (n:=1) (F:=λL (f:Fr)=>xQ was is f.n 1 f.t 0 L) (s[k].f.take i) b λ_ _ _=>yH
  rw[zlt]at this
  unfold akR
  omega
 refine pC func50 rfl ?_
 focus(repeat' first|apply cP;rfl;apply o;rintro _ st' (⟨id2,rfl,hid2,rfl⟩)|apply wZ;rfl|omega|constructor|apply wY;rfl|apply wI;rfl|apply gE;omega)
 refine aC (X:={x:Nat×Nat//x.1<=s[k].f.length/\st x.2=none}) (λi=>(((((((St.nil 76 (upd st i.1.2 (some (.arr 59 (((akR was is (s[k].f.take i.1.1) b).map rgP).map Rg.z))))).pv 0 (.vec i.1.2 6 0 (akR was is (s[k].f.take i.1.1) b).length)).pv 2 (vi (k:Nat))).var 9 96 (was.z)).var 10 96 (is.z)).var 13 77 (s[k].z)).pv 14 (vi (i.1.1:Nat)))) (λi=>s[k].f.length-i.1.1) ⟨(0,id2),by simp,hid2⟩ ?_ λi=>?_
 ·repeat' first|exact Cn.t0|constructor
 obtain⟨⟨i,id⟩,hi,a⟩:=i;simp only at hi a;dsimp only;have w:=B i hi;by_cases C:s[k].f.length<=i
 ·obtain rfl:i=s[k].f.length:=by omega
  rw[List.take_length]at w⊢;clear B;generalize akR was is s[k].f b=c at*;have E:∀i,i<=s[k].u.length->(arG was is (k:Int) (s[k].u.take i) c).length<=c.length+16:=λi hi=>by
   have:=fI (n:=1) (F:=λL (u:Int)=>xQ was is u 2 (k:Int) u L) (s[k].u.take i) c λ_ _ _=>yH
   rw[zlt]at this
   unfold arG
   omega
  focus(repeat' first|apply wZ;rfl|constructor|simp<;>omega|intro h;simp at h)
  refine aC (X:={x:Nat×Nat//x.1<=s[k].u.length/\st x.2=none}) (λy=>(((((((St.nil 76 (upd st y.1.2 (some (.arr 59 (((arG was is (k:Int) (s[k].u.take y.1.1) c).map rgP).map Rg.z))))).pv 0 (.vec y.1.2 6 0 (arG was is (k:Int) (s[k].u.take y.1.1) c).length)).pv 2 (vi (k:Nat))).var 9 96 (was.z)).var 10 96 (is.z)).var 13 77 (s[k].z)).pv 15 (vi (y.1.1:Nat)))) (λy=>s[k].u.length-y.1.1) ⟨(0,id),by simp,a⟩ ?_ λy=>?_
  ·repeat' first|exact Cn.t0|constructor
  obtain⟨⟨y,id⟩,hy,a⟩:=y;simp only at hy a;dsimp only;have G:=E y hy;by_cases d:s[k].u.length<=y
  ·rw[ztl d]
   repeat' first|refine Cn.rr ?_;exact⟨id,rfl,a,rfl⟩;done|apply wZ;rfl|constructor|simp<;>omega|intro h;simp at h
  have q:y<s[k].u.length:=by omega
  have l:arG was is (k:Int) (s[k].u.take (y+1)) c=xQ was is s[k].u[y] 2 (k:Int) s[k].u[y] (arG was is (k:Int) (s[k].u.take y) c):=lW q;have j:=hu _ (zgm q);have hv:=anO was is s[k].u[y] 2 (k:Int) s[k].u[y] (arG was is (k:Int) (s[k].u.take y) c) (by omega) (A.reg hk j) (v.reg hk j) (v.num hk j) a;rw[<-l]at hv
  repeat' first|apply wD pk [15] [];kernel_rfl;rfl;rfl|apply cP;rfl;apply hv;rintro _ st' (⟨id2,rfl,hid2,rfl⟩)|refine⟨⟨(y+1,id2),by simp only;omega,hid2⟩,?_,?_⟩|exact Cn.t0|apply wZ;rfl|omega|constructor|apply wY;rfl|apply wI;rfl|apply gE;omega|simp<;>omega|intro h;simp at h
 have m:i<s[k].f.length:=by omega
 have l:akR was is (s[k].f.take (i+1)) b=xQ was is s[k].f[i].n 1 s[k].f[i].t 0 (akR was is (s[k].f.take i) b):=lW m;have e:=hf _ (zgm m);have hv:=anO was is s[k].f[i].n 1 s[k].f[i].t 0 (akR was is (s[k].f.take i) b) (by omega) (A.reg hk e) (v.reg hk e) (v.num hk e) a;rw[<-l]at hv
 repeat' first|apply wD pk [16] [];kernel_rfl;rfl;rfl|apply cP;rfl;apply hv;rintro _ st' (⟨id2,rfl,hid2,rfl⟩)|refine⟨⟨(i+1,id2),by simp only;omega,hid2⟩,?_,?_⟩|exact Cn.t0|apply wZ;rfl|omega|constructor|apply wY;rfl|apply wI;rfl|apply gE;omega|simp<;>omega|intro h;simp at h
theorem aDW(v:List Int)(hl:v.length<1000000000000):qf 95 [.seq (v.map I1)] (vb (aoQ v)):=by
 unfold aoQ;have g:∀j (hj:j<v.length),okV v[j]=false->v.all okV=false:=λj hj q=>by
  rw[<-znt,zal]
  intro z
  rw[z _ (zgm hj)]at q;cases q
 have a:(∀j (hj:j<v.length),okV v[j]=true)->v.all okV=true:=λq=>by
  rw[zal]
  intro x hx
  obtain⟨j,hj,rfl⟩:=zgo hx
  exact q j hj
 generalize v.all okV=A at*;refine pF func95 rfl λst=>?_
 focus(repeat' first|apply wZ;rfl|constructor)
 refine aC (X:={x:Nat//x<=v.length/\∀j (hj:j<v.length),j<x->okV v[j]=true}) (λi=>(((St.nil 25 st).pv 0 (.seq (v.map I1))).pv 3 (vi (i.1:Nat)))) (λi=>v.length-i.1) ⟨0,by omega,by omega⟩ ?_ λi=>?_;rotate_left;have⟨i,hi,k⟩:=i;dsimp only;by_cases l:v.length<=i;have e:=a λj hj=>k j hj (by omega);rw[e,Bool.and_true];rotate_left;have d:i<v.length:=by omega
 rcases hb:okV v[i]with _|_
 have e:=g i d hb;rw[e,Bool.and_false];have hb:v[i]<0\/v[i]>1048576:=by
  unfold okV at hb;rw[Bool.and_eq_false_iff,zdf,zdf]at hb;omega
 rotate_left;have c:∀j (hj:j<v.length),j<i+1->okV v[j]=true:=λj hj f=>by
  rcases zls.1 f with q|q
  ·exact k j hj q
  ·subst q;exact hb
 unfold okV at hb;simp only[zba,zde]at hb
 all_goals (repeat' first|refine⟨⟨i+1,by omega,c⟩,?_,?_⟩|apply wZ;rfl|omega|constructor|apply wI;rfl|apply gE;omega|show(_:PV)=_;rw[zql];exact congrArg (λb=>PV.val (.bool b)) (decide_eq_decide.2 (by omega));done|simp<;>omega|intro h;simp at h;omega|intro h;simp at h)
theorem aEU(v:List Int)(d:Int)(hl:v.length<1000000000000):qf 323 [.seq (v.map I1),vi d] (vi (ofV v d)):=by
 unfold ofV;by_cases h:d<1\/d>v.length;rw[zp h];rotate_left;rw[zn h];obtain⟨k,hk⟩:∃k:Nat,d=k+1:=⟨(d-1).toNat,by omega⟩;have b:k<v.length:=by omega
 have e:(d-1).toNat=k:=by omega
 rw[e,zep v k b];have a:d-1=((k:Nat):Int):=by omega
 all_goals (refine pF func323 rfl λst=>?_;repeat'(first|apply iX;intro hw;exact a;apply gE;omega;rfl|apply wZ;rfl|omega|constructor|apply wI;rfl|intro h;simp at h;omega|intro h;simp at h))
theorem afK(v:List Int)(d:Dt)(hl:v.length<1000000000000):qf 250 [.seq (v.map I1), .agg d.z] (vb (sT v d)):=by
 have h:=aEU v d.dev hl;unfold sT;generalize ofV v d.dev=N at*;refine pF func250 rfl λst=>?_
 repeat' first|apply wZ;rfl|apply KR.mk;kernel_rfl|constructor|apply h|apply wY;rfl
theorem aFj{p:Pt}:mP d kn p=false↔(p.d.dev=d.dev/\p.d.seq=d.seq)\/sT kn p.d=true:=by
 unfold mP;rw[Bool.and_eq_false_iff];simp[Dt.ext_iff]
theorem aC3(c:Cl)(v:Vl)(d:Dt)(kn:List Int)(hl:c.p.length<1000000000)(hk:kn.length<1000000000000)(st:aD):qc 164 [.agg c.z, .agg v.z, .agg d.z, .seq (kn.map I1)] st (aeH st (fW c v d kn)):=by
 have hh:=λp:Pt=>afK kn p.d hk;have g:=λp:Pt=>kG p.d d;have e:=λp:Pt=>aFj (d:=d) (kn:=kn) (p:=p);have⟨G,A,I,F,m,l,k⟩:=ahY c.p (mP d kn) (λp=>aW p.d d) (ptN v d);unfold aeH fW;rw[show cN (c.p.filter (mP d kn)) (gU (λp=>aW p.d d) (c.p.filter (mP d kn))) [ptN v d]=_ from k];clear k;dsimp only;refine pC func164 rfl ?_
 focus(repeat' first|apply wZ;rfl|constructor)
 refine jS 9 154 11 [_,_,_,_] rfl rfl rfl λid a=>?_;have a:st id=none:=a;refine aC (X:={x:Nat×Nat//x.1<=c.p.length/\st x.2=none}) (λi=>(((((((((St.nil 73 (upd st i.1.2 (some (.arr 154 ((G i.1.1).map Pt.z))))).pv 3 (.seq (kn.map I1))).var 4 92 (c.z)).var 5 46 (v.z)).var 6 51 (d.z)).var 8 92 ([vi 0,vi 0,vi 0,vs e0, .val (.slice none 0 0)])).var 9 92 ([vi c.k,vi c.val.k,vi c.val.n,vs c.val.s, .vec i.1.2 11 0 (G i.1.1).length])).pv 10 (vb (A i.1.1))).pv 11 (vi (i.1.1:Nat)))) (λi=>c.p.length-i.1.1) ⟨(0,id),by simp,a⟩ ?_ λi=>?_;dsimp only;rw[I,F];rotate_left;obtain⟨⟨i,id⟩,hi,a⟩:=i;simp only at hi a;dsimp only;have l:=l i hi;by_cases E:c.p.length<=i;obtain rfl:i=c.p.length:=by omega
 clear m;rcases hA:A c.p.length with _|_
 rw[zn (by simp)];rotate_left;rw[zp rfl];rotate_left;have C:i<c.p.length:=by omega
 have⟨D,o,u,w⟩:=m i C;have hh:=hh c.p[i];have g:=g c.p[i];have e:=e c.p[i];clear m;rcases hK:mP d kn c.p[i]with _|_
 have⟨y,z⟩:=D hK;have e:=e.1 hK;clear D o u w hK;generalize sT kn c.p[i].d=H at*;generalize aW c.p[i].d d=B at*;rotate_left;have e:¬((c.p[i].d.dev=d.dev/\c.p[i].d.seq=d.seq)\/sT kn c.p[i].d=true):=λq=>by rw[e.2 q]at hK;cases hK
 have o:=o hK;have u:=u hK;have w:=w hK;clear D hK;generalize sT kn c.p[i].d=H at*;rcases hA:A i with _|_
 rcases hB:aW c.p[i].d d with _|_
 have⟨y,z⟩:=w hA hB;rw[hB]at g;clear o u w;rotate_left;have⟨y,z⟩:=u hA hB;rw[hB]at g;clear o u w;rotate_left;have⟨y,z⟩:=o hA;clear o u w;generalize aW c.p[i].d d=B at*
 all_goals (repeat' first|refine⟨⟨(i+1,j),by simp only;omega,fA a (aI b)⟩,?_,?_⟩;dsimp only;rw[y,z]|refine Cn.any ?_;exact Sub.nil _ _ _ (oB ‹_› ‹_› rfl) rfl|refine⟨⟨(i+1,j),by simp only;omega,aI b⟩,?_,?_⟩;dsimp only;rw[y,z]|exact Cn.any (aM ‹_›)|refine⟨⟨(i+1,id),by simp only;omega,a⟩,?_,?_⟩;dsimp only;rw[y,z]|refine Cn.rr ?_;exact⟨id,rfl,a,rfl⟩;done|exact Cn.any ⟨_,_,_,rfl,zwr _,iR a,j,by simp,aI b,rfl⟩|apply wZ;rfl|exact Cn.t0|omega|constructor|apply apV pk (f:=Pt.z) [ptN v d] 96;(iterate 9 rfl);exact aA _ _ _;omega;exactλ_=>rfl;exactλ_=>rfl;exact fR;(focus(simp;omega));(focus(simp;omega));rfl;intro j b|simp<;>omega|intro h;simp at h|exact rfl|(first|apply hh|apply g)|show _=_;simp|apply apV pk (f:=Pt.z) [c.p[i]] 96;(iterate 9 rfl);exact aA _ _ _;(focus(simp;done));exactλ_=>rfl;exactλ_=>rfl;exact fR;(focus(simp;omega));(focus(simp;omega));rfl;intro j b|apply wY;rfl|apply wI;rfl|apply gE;omega|exfalso;grind)
theorem acP(c:Cl)(v:Vl)(d:Dt)(kn:List Int)(hl:c.p.length<1000000000)(hk:kn.length<1000000000000):qf 164 [.agg c.z, .agg v.z, .agg d.z, .seq (kn.map I1)] (.agg (fW c v d kn).z):=yP (aC3 c v d _ hl hk)
theorem anP(n:Int):qf 252 [vi n] (.agg (iW n).z):=by
 refine pF func252 rfl λst=>?_
 repeat' first|exact Cn.any ⟨_,_,_,rfl,wkC _,zsr _,rfl,rfl⟩|apply wZ;rfl|constructor
theorem aBg :qf 166 [] (.agg (iW 0).z):=by
 have h:=anP 0;refine pF func166 rfl λst=>?_
 repeat' first|apply wZ;rfl|constructor|apply h|apply wY;rfl
theorem aMj(n:Int):bL (iW n)≠0↔n< -1099511627776\/n>1099511627776:=by
 unfold bL iW nV
 grind
theorem aFm(n:Int)(h:bL (iW n)≠0):bL (iW n)=20:=by
 unfold bL iW nV at*
 grind
theorem alF(c:Cl)(n:Int)(hn:inL n):qf 165 [.agg c.z,vi n] (sR (sL c n)):=by
 have b:=mU c;unfold sL;by_cases hc:bL c≠0;rw[zp hc];generalize bL c=R at*;rotate_left;rw[zn hc];have hc:=zdn hc;rw[hc]at b;have hx:=aMj n;by_cases hd:bL (iW n)≠0;rw[zp hd,aFm n hd];have hx:=hx.1 hd;rotate_left;rw[zn hd];rw[hx]at hd;have e:=alR hc;unfold inL at hn;have d:=anP (c.val.n+n);have h4:=mU (iW (c.val.n+n));generalize iW (c.val.n+n)=D at*;by_cases a:bL D≠0;rw[zp a];generalize bL D=R at*;rotate_left;rw[zn a];have a:=zdn a;rw[a]at h4
 all_goals (refine pF func165 rfl λst=>?_;repeat'(first|exact Cn.any ⟨_,_,_,rfl,apU _,zsr _,rfl,rfl⟩|apply wZ;rfl|omega|constructor|(first|apply b|apply d|apply h4)|apply wY;rfl|intro h;simp at h;omega|intro h;simp at h|intro h))
theorem axR(n:Int)(d:Dt)(p:Pt):qf 324 [.agg p.z, .agg (ptN (nV n) d).z] (vb (iS n d p)):=by
 have e:iS n d p=(decide (p.val.n=n)&&(decide (p.d.dev=d.dev)&&decide (p.d.seq=d.seq))):=by unfold iS;rw[aMo]
 rw[e];refine pF func324 rfl λst=>?_
 repeat' first|apply wZ;rfl|constructor
theorem aE4(l:List Pt)(n:Int)(d:Dt)(hl:l.length<1000000000):qf 253 [.seq (l.map Pt.z), .agg (ptN (nV n) d).z] (vb (l.any (iS n d))):=by
 have hf:=λp=>axR n d p;refine pF func253 rfl λst=>?_
 focus(repeat' first|apply wZ;rfl|constructor)
 refine aC (X:={x:Nat//x<=l.length/\∀j (hj:j<l.length),j<x->iS n d l[j]=false}) (λi=>((((St.nil 18 st).pv 0 (.seq (l.map Pt.z))).var 3 154 ((ptN (nV n) d).z)).pv 5 (vi (i.1:Nat)))) (λi=>l.length-i.1) ⟨0,by omega,by omega⟩ ?_ λi=>?_;rotate_left;have⟨i,hi,f⟩:=i;dsimp only;by_cases g:l.length<=i;have e:l.any (iS n d)=false:=List.any_eq_false.2 λx hx=>by
  obtain⟨j,hj,rfl⟩:=zgo hx
  rw[f j hj (by omega)];simp
 rw[e];rotate_left;have b:i<l.length:=by omega
 have hf:=hf l[i];rcases hb:iS n d l[i]with _|_
 rw[hb]at hf;have a:∀j (hj:j<l.length),j<i+1->iS n d l[j]=false:=λj hj c=>by
  rcases zls.1 c with q|q
  ·exact f j hj q
  ·subst q;exact hb
 rotate_left;rw[hb]at hf;have e:l.any (iS n d)=true:=zay.2 ⟨_,zgm b,hb⟩;rw[e]
 all_goals (repeat' first|refine⟨⟨i+1,by omega,a⟩,?_,?_⟩|apply wZ;rfl|apply KR.mk;kernel_rfl|omega|constructor|apply hf|apply wY;rfl|apply wI;rfl|apply gE;omega|simp<;>omega|intro h;simp at h)
theorem aHY(l:List Pt)(x:Pt)(hl:l.length<1000000000)(st:aD):qc 254 [.seq (l.map Pt.z), .agg x.z] st λr S=>∃id,r= .vec id 11 0 (cN l (gU (λp=>dG p x) l) [x]).length/\st id=none/\S=upd st id (some (.arr 154 ((cN l (gU (λp=>dG p x) l) [x]).map Pt.z))):=by
 have c:=λp:Pt=>axC p x;have⟨G,A,y,w,j,g,d⟩:=ahY l (λ_=>true) (λp=>dG p x) x;rw[List.filter_eq_self.2 λ_ _=>rfl]at d;rw[show cN l (gU (λp=>dG p x) l) [x]=_ from d];clear d;refine pC func254 rfl ?_
 focus(repeat' first|apply wZ;rfl|constructor)
 refine cL 5 154 11 rfl rfl rfl λid a=>?_;have a:st id=none:=a;refine aC (X:={x:Nat×Nat//x.1<=l.length/\st x.2=none}) (λi=>((((((St.nil 42 (upd st i.1.2 (some (.arr 154 ((G i.1.1).map Pt.z))))).pv 0 (.seq (l.map Pt.z))).var 3 154 (x.z)).pv 5 (.vec i.1.2 11 0 (G i.1.1).length)).pv 6 (vb (A i.1.1))).pv 7 (vi (i.1.1:Nat)))) (λi=>l.length-i.1.1) ⟨(0,id),by simp,a⟩ ?_ λi=>?_;dsimp only;rw[y,w];rotate_left;obtain⟨⟨i,id⟩,hi,a⟩:=i;simp only at hi a;dsimp only;have g:=g i hi;by_cases v:l.length<=i;obtain rfl:i=l.length:=by omega
 clear j;rcases hA:A l.length with _|_
 rw[zn (by simp)];rotate_left;rw[zp rfl];rotate_left;have u:i<l.length:=by omega
 have⟨_,k,m,n⟩:=j i u;have c:=c l[i];clear j;have k:=k rfl;have m:=m rfl;have n:=n rfl;rcases hA:A i with _|_
 rcases hB:dG l[i] x with _|_
 have⟨o,q⟩:=n hA hB;rw[hB]at c;clear k m n;rotate_left;have⟨o,q⟩:=m hA hB;rw[hB]at c;clear k m n;rotate_left;have⟨o,q⟩:=k hA;clear k m n;generalize dG l[i] x=B at*
 all_goals (repeat' first|refine⟨⟨(i+1,e),by simp only;omega,fA a (aI b)⟩,?_,?_⟩;dsimp only;rw[o,q]|refine Cn.any ?_;exact Sub.nil _ _ _ (oB ‹_› ‹_› rfl) rfl|refine⟨⟨(i+1,e),by simp only;omega,aI b⟩,?_,?_⟩;dsimp only;rw[o,q]|exact Cn.any (aM ‹_›)|refine Cn.rr ?_;exact⟨id,rfl,a,rfl⟩;done|exact Cn.any ⟨_,_,_,rfl,zwr _,iR a,e,by simp,aI b,rfl⟩|apply wZ;rfl|exact Cn.t0|apply KR.mk;kernel_rfl|omega|constructor|apply apV pk (f:=Pt.z) [x] 96;(iterate 9 rfl);exact aA _ _ _;omega;exactλ_=>rfl;exactλ_=>rfl;exact fR;(focus(simp;omega));(focus(simp;omega));rfl;intro e b|simp<;>omega|intro h;simp at h|exact rfl|apply c|show _=_;simp|apply apV pk (f:=Pt.z) [l[i]] 96;(iterate 9 rfl);exact aA _ _ _;(focus(simp;done));exactλ_=>rfl;exactλ_=>rfl;exact fR;(focus(simp;omega));(focus(simp;omega));rfl;intro e b|apply wY;rfl|apply wI;rfl|apply gE;omega)
theorem ahB(c:Cl)(n:Int)(d:Dt)(hl:c.p.length<1000000000):qf 167 [.agg c.z,vi n, .agg d.z] (.agg (nE c n d).z):=by
 have a:=aE4 c.p n d hl;have b:qf 254 [.seq (c.p.map Pt.z), .agg (ptN (nV n) d).z] (.seq ((cN c.p (gU (λp=>dG p (ptN (nV n) d)) c.p) [ptN (nV n) d]).map Pt.z)):=λst=>eS (sz:=11) (aHY c.p (ptN (nV n) d) hl st) λp st' h=>by
  obtain⟨id,rfl,e,rfl⟩:=h
  exact .inl ⟨id,154,_,_,st,aA _ _ _,oU,dI (by simp),bN e,rfl,rfl⟩
 unfold nE;rcases hA:c.p.any (iS n d)with _|_
 rw[hA]at a;rw[zn (by simp)];generalize cN c.p (gU (λp=>dG p (ptN (nV n) d)) c.p) [ptN (nV n) d]=N at*;rotate_left;rw[hA]at a;rw[zp rfl]
 all_goals (refine pF func167 rfl λst=>?_;repeat'(first|apply wZ;rfl|apply KR.mk;kernel_rfl|constructor|apply a|apply b|apply wY;rfl))
theorem aIe{p:Pt}:gS n d kn p=true↔p.val.n≠n\/(¬(p.d.dev=d.dev/\p.d.seq=d.seq)/\sT kn p.d=false):=by
 unfold gS;rw[Bool.or_eq_true,zba,Bool.not_eq_true',zde,zde];simp only[ne_eq,Dt.ext_iff]
theorem aHP(c:Cl)(n:Int)(d:Dt)(kn:List Int)(hl:c.p.length<1000000000)(hk:kn.length<1000000000000)(st:aD):qc 171 [.agg c.z,vi n, .agg d.z, .seq (kn.map I1)] st (aeH st (oP c n d kn)):=by
 have hh:=λp:Pt=>afK kn p.d hk;have b:=λp:Pt=>aIe (n:=n) (d:=d) (kn:=kn) (p:=p);unfold aeH oP;dsimp only;refine pC func171 rfl ?_
 focus(repeat' first|apply wZ;rfl|constructor)
 refine jS 9 154 11 [_,_,_,_] rfl rfl rfl λid a=>?_;have a:st id=none:=a;refine aC (X:={x:Nat×Nat//x.1<=c.p.length/\st x.2=none}) (λi=>((((((((St.nil 54 (upd st i.1.2 (some (.arr 154 (((c.p.take i.1.1).filter (gS n d kn)).map Pt.z))))).pv 1 (vi n)).pv 3 (.seq (kn.map I1))).var 4 92 (c.z)).var 6 51 (d.z)).var 8 92 ([vi 0,vi 0,vi 0,vs e0, .val (.slice none 0 0)])).var 9 92 ([vi c.k,vi c.val.k,vi c.val.n,vs c.val.s, .vec i.1.2 11 0 ((c.p.take i.1.1).filter (gS n d kn)).length])).pv 10 (vi (i.1.1:Nat)))) (λi=>c.p.length-i.1.1) ⟨(0,id),by simp,a⟩ ?_ λi=>?_;rotate_left;obtain⟨⟨i,id⟩,hi,a⟩:=i;simp only at hi a;dsimp only;by_cases g:c.p.length<=i;rw[ztl g];rotate_left;have k:i<c.p.length:=by omega
 have hh:=hh c.p[i];have b:=b c.p[i];have m:((c.p.take i).filter (gS n d kn)).length<=c.p.length:=Nat.le_trans (List.length_filter_le ..) (by simp;omega);rcases hK:gS n d kn c.p[i]with _|_
 have e:(c.p.take (i+1)).filter (gS n d kn)=(c.p.take i).filter (gS n d kn):=by rw[zts k,List.filter_append];simp[hK]
 have b:¬(c.p[i].val.n≠n\/(¬(c.p[i].d.dev=d.dev/\c.p[i].d.seq=d.seq)/\sT kn c.p[i].d=false)):=λq=>by rw[b.2 q]at hK;cases hK
 clear hK;generalize sT kn c.p[i].d=H at*;generalize(c.p.take i).filter (gS n d kn)=K at*;rotate_left;have e:(c.p.take (i+1)).filter (gS n d kn)=(c.p.take i).filter (gS n d kn)++[c.p[i]]:=by rw[zts k,List.filter_append];simp[hK]
 have b:=b.1 hK;clear hK;generalize sT kn c.p[i].d=H at*;generalize(c.p.take i).filter (gS n d kn)=K at*
 all_goals (repeat' first|refine⟨⟨(i+1,l),by simp only;omega,aI j⟩,?_,?_⟩;dsimp only;rw[e]|exact Cn.any (aM ‹_›)|refine⟨⟨(i+1,id),by simp only;omega,a⟩,?_,?_⟩;dsimp only;rw[e]|refine Cn.rr ?_;exact⟨id,rfl,a,rfl⟩;done|apply wZ;rfl|exact Cn.t0|omega|constructor|simp<;>omega|intro h;simp at h|exact rfl|apply hh|show _=_;simp|apply apV pk (f:=Pt.z) [c.p[i]] 96;(iterate 9 rfl);exact aA _ _ _;omega;exactλ_=>rfl;exactλ_=>rfl;exact fR;(focus(simp;omega));(focus(simp;omega));rfl;intro l j|apply wY;rfl|apply wI;rfl|apply gE;omega|exfalso;grind)
theorem ayJ(c:Cl)(n:Int)(d:Dt)(kn:List Int)(hl:c.p.length<1000000000)(hk:kn.length<1000000000000):qf 171 [.agg c.z,vi n, .agg d.z, .seq (kn.map I1)] (.agg (oP c n d kn).z):=yP (aHP c n d _ hl hk)
end Go.Proofs.YtigmnfepdlbcpaaGreatDoor
namespace Go.Proofs.YtigmnfepdlbcpaaGreatDoor
open Go Go.Abs Go.ChangeShapes Go.WideShapes Go.ChangeAt Go.RowKit
variable{N n:Nat}{ps:List PV}{t:TypeId}{p:PV}
theorem own :ownKnob Tryz.prog.godebug=none:=rfl
theorem laid :laidOutB qp=true:=by kernel_rfl
theorem full(t e:TypeId)(h:t<Tryz.prog.types.size)(hu:Tryz.prog.underlying t=some (.slice e)):0<Tryz.prog.cellsOf e:=
 of_decide_eq_true (alU (λ_ e=>decide (0<Tryz.prog.cellsOf e)) (by kernel_rfl) t e h hu)
theorem aOa(t e:TypeId)(h:t<Tryz.prog.types.size)(hu:Tryz.prog.underlying t=some (.slice e)):1<=Tryz.prog.bytesOf e:=
 of_decide_eq_true (alU (λ_ e=>decide (1<=Tryz.prog.bytesOf e)) (by kernel_rfl) t e h hu)
theorem acT{α:Type}{f:α->List PV}{Q:α->Prop}{rows:List (List PV)}(h:∀r∈rows,∃a,r=f a/\Q a):∃l:List α,rows=l.map f/\l.length=rows.length/\∀a∈l,Q a:=by
 obtain⟨l,rfl,hl⟩:=aGR h
 grind
section
theorem auM(h:bU qp N n 46 ps):∃v:Vl,ps=v.z:=by
 obtain⟨m,e,_,rfl,d⟩:=cG aT rfl h;cases d with|cons ha d=>cases d with|cons hb d=>cases d with|cons hc d=>cases d with|nil=>
 obtain⟨a,rfl,_⟩:=bR aT rfl ha;obtain⟨b,rfl,_⟩:=bR aT rfl hb;obtain⟨c,rfl,_⟩:=acG aT rfl hc;exact⟨⟨a,b,c⟩,rfl⟩
theorem aBu(h:bU qp N n 51 ps):∃v:Dt,ps=v.z:=by
 obtain⟨m,d,_,rfl,c⟩:=cG aT rfl h;cases c with|cons ha c=>cases c with|cons hb c=>cases c with|nil=>
 obtain⟨a,rfl,_⟩:=bR aT rfl ha;obtain⟨b,rfl,_⟩:=bR aT rfl hb;exact⟨⟨a,b⟩,rfl⟩
theorem aNH(h:bU qp N n 154 ps):∃v:Pt,ps=v.z:=by
 obtain⟨m,j,_,rfl,i⟩:=cG aT rfl h;cases i with|cons ha i=>cases i with|cons hb i=>cases i with|cons hc i=>cases i with|cons hd i=>cases i with|cons he i=>cases i with|cons hf i=>cases i with|cons hg i=>cases i with|nil=>
 obtain⟨a,rfl⟩:=auM ha;obtain⟨b,rfl⟩:=aBu hb;obtain⟨c,rfl,_⟩:=bR aT rfl hc;obtain⟨d,rfl,_⟩:=bR aT rfl hd;obtain⟨e,rfl⟩:=aBu he;obtain⟨f,rfl,_⟩:=bR aT rfl hf;obtain⟨g,rfl⟩:=aiA aT rfl hg;exact⟨⟨a,b,c,d,e,f,g⟩,rfl⟩
def CB(c:Cl):Prop:=c.p.length<=reachBytes
theorem aNX(h:bU qp reachBytes n 92 ps):∃v:Cl,ps=v.z/\CB v:=by
 obtain⟨m,g,_,rfl,d⟩:=cG aT rfl h;cases d with|cons ha d=>cases d with|cons hb d=>cases d with|cons hc d=>cases d with|nil=>
 obtain⟨a,rfl,_⟩:=bR aT rfl ha;obtain⟨b,rfl⟩:=auM hb;obtain⟨_,rows,_,rfl,hl,f⟩:=cQ aT rfl hc;obtain⟨c,rfl⟩:=vR λr e=>aNH (f r e);exact⟨⟨a,b,c⟩,rfl,by show c.length<=_;grind⟩
def LB(l:Ln):Prop:=l.c.length<=reachBytes/\l.b.length<=reachBytes/\∀c∈l.c,CB c
theorem aNj(h:bU qp reachBytes n 96 ps):∃v:Ln,ps=v.z/\LB v:=by
 obtain⟨m,l,_,rfl,d⟩:=cG aT rfl h;cases d with|cons ha d=>cases d with|cons hb d=>cases d with|cons hc d=>cases d with|nil=>
 obtain⟨a,rfl,_⟩:=bR aT rfl ha;obtain⟨_,rows,_,rfl,hl,k⟩:=cQ aT rfl hb;obtain⟨b,rfl,i,hq⟩:=acT λr e=>aNX (k r e);obtain⟨_,g,_,rfl,j,f⟩:=cQ aT rfl hc;obtain⟨c,rfl⟩:=vR λr e=>aBu (f r e);exact⟨⟨a,b,c⟩,rfl,by simpa using hl,by grind,hq⟩
def DB(d:Da):Prop:=d.l.length<=reachBytes/\∀l∈d.l,LB l
theorem aNz(h:bU qp reachBytes n 108 ps):∃v:Da,ps=v.z/\DB v:=by
 obtain⟨m,f,_,rfl,a⟩:=cG aT rfl h;cases a with|cons hb a=>cases a with|nil=>
 obtain⟨_,rows,_,rfl,hl,e⟩:=cQ aT rfl hb;obtain⟨b,rfl,d,hq⟩:=acT λr c=>aNj (e r c);exact⟨⟨b⟩,rfl,by grind,hq⟩
def BB(b:Bs):Prop:=b.length<=reachBytes/\∀d∈b,DB d
theorem aN3(h:bU qp reachBytes n 27 ps):∃v:{b:Bs//BB b},ps=bsC v.1:=by
 obtain⟨m,f,_,rfl,a⟩:=cG aT rfl h;cases a with|cons hb a=>cases a with|nil=>
 obtain⟨_,rows,_,rfl,hl,e⟩:=cQ aT rfl hb;obtain⟨b,rfl,d,hq⟩:=acT λr c=>aNz (e r c);exact⟨⟨b,by grind,hq⟩,rfl⟩
theorem LB.c{l:Ln}(h:LB l):l.c.length<4611686018427387904:=Nat.lt_of_le_of_lt h.1 (by decide)
theorem BB.b{b:Bs}(h:BB b):BsB b:=⟨Nat.lt_of_le_of_lt h.1 (by decide),λd hd=>⟨Nat.lt_of_le_of_lt (h.2 d hd).1 (by decide),λl hl=>((h.2 d hd).2 l hl).c⟩⟩
theorem aAw(ha:lO tt t=some true)(h:uM qp N t p):∃n cs,p= .agg cs/\bU qp N n t cs:=by
 obtain⟨n,⟨_,cs,a,b⟩|⟨a,_⟩⟩:=h
 ·grind
 ·rw[(cH aT ha).1]at a;cases a
theorem aHu(ha:lO tt t=some false)(h:uM qp N t p):∃n,bU qp N n t [p]:=by
 obtain⟨n,⟨a,_⟩|⟨_,b⟩⟩:=h
 ·rw[(cH aT ha).1]at a;cases a
 grind
end
end Go.Proofs.YtigmnfepdlbcpaaGreatDoor
namespace Go.Proofs.YtigmnfepdlbcpaaGreatDoor
open Go
set_option maxRecDepth 100000
noncomputable def wL(os:Os):World:={World.doorLaid qp 19 os with heap:=(World.doorLaid qp 19 os).heap.setIfInBounds 1 (.cells (Pinned.utf8FirstZ.map λn:Nat=>Value.int .u8 (n:Int)).toArray 399 (0,0))}
theorem aD2(os:Os)(args:Array Value):((wL os).forCall (λ_ _=>0) ⟨#[],args,[]⟩).Shaped qp:=World.shaped_of_RefB (by kernel_rfl) (by kernel_rfl)
theorem aMR(os : Os)(args : Array Value) : laidMetH qp [("unicode/utf8.acceptRanges",Rows.laid_unicode_utf8_acceptRanges),("unicode/utf8.first",Rows.laid_unicode_utf8_first)] ((wL os).forCall (λ_ _ => 0) ⟨#[],args,[]⟩).memory :=
  laidMetH_of_parts3 (fuel:=8) (laidMet_of_run' 8 (by kernel_rfl) (by kernel_rfl)) (by kernel_rfl) (by kernel_rfl)
end Go.Proofs.YtigmnfepdlbcpaaGreatDoor
