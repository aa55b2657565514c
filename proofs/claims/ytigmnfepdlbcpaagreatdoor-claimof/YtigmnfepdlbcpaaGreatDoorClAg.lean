import Derived.Test.YtigmnfepdlbcpaaGreatDoorClAf
set_option linter.all false
set_option maxHeartbeats 4000000
set_option maxRecDepth 10000
namespace Go.Proofs.YtigmnfepdlbcpaaGreatDoor.T
open Go Go.Abs Tryz
variable{e:TypeId}{x y:Operand}{p q:IntKind}{B n sz:Nat}{a b:Int}
section
attribute [local irreducible] Ev PWp
section
variable{P:Program}{tt:TT}{l:List Oper}{d:Md}{r:List Oper}{s:St}{K:St->Prop}{t:Nat}{ty:TypeId}{pos:String}{after:Array Edge}
theorem aJS{α:Type}{f:α->List PV}(pk:Pk P tt)(z0:α){T:TypeId}{z:List Value}(hx:opd s x=some (.val (.int p a)))(hy:opd s y=some (.val (.int q b)))(hk:tiK tt T=some (.slice e))(hs:aP tt e=some sz)(hz:tiZ tt e=some z)(i:z.length=sz)(m:Nat.blt 0 sz=true)(h:z.map .val=f z0)(hf:bS s [x,y]=true)(hd:Nat.blt t s.n=true)(ht:jU d l r=true)(ha:a=n)(g:b=n)(hB:P.bytesOf e=B)(hb:n*B<=140737488355328)(c:n<4611686018427387904)(k:∀id,s.st id=none->Ev P l d r ((s.sst (upd s.st id (some (.arr e ((List.replicate n z0).map f))))).pv t (.vec id sz 0 n)) K):Ev P l d (⟨some t, .makeSlice T x y,ty,pos,after,none⟩::r) s K:=by
 subst ha g
 refine eM (wG pk.htt hx hy hk hs hz i (by simp_all) hB hb c) (λz hz=>aO (λ_ _ _ e=>by grind) hz) hf hd ht λu j=>?_
 obtain⟨id,o,rfl⟩:=j
 have:=k _ o
 rw[List.map_replicate,<-h]at this
 exact this
end
def xE(D:List Pt)(p:Pt):Int:=atP D (aH p)
theorem aEo{D:List Pt}(hn:(D.map aH).Nodup):∀(m:Nat),m<=D.length->D.countP (λp=>decide (xE D p<m))=m:=by
 intro m hm;have a:(D.take m).countP (λp=>decide (xE D p<m))=m:=by
  rw[List.countP_eq_length.2 λp hp=>?_,zlt];omega;obtain⟨j,hj,rfl⟩:=zgo hp;simp only[zlt]at hj;rw[List.getElem_take,zde,xE,iC hn (by omega)];omega
 have c:(D.drop m).countP (λp=>decide (xE D p<m))=0:=by
  rw[List.countP_eq_zero];intro p hp;obtain⟨j,hj,rfl⟩:=zgo hp;simp only[zld]at hj;rw[List.getElem_drop,zde,xE,iC hn (by omega)];omega
 calc D.countP (λp=>decide (xE D p<m))=(D.take m++D.drop m).countP _:=by rw[List.take_append_drop]
  _=m:=by rw[List.countP_append,a,c];rfl
theorem adW(l:List Pt)(hl:l.length<1000000000000):qf 260 [.seq (l.map Pt.z)] (.seq ((cM l).map Pt.z)):=by
 refine aCz aoW λst=>?_;by_cases I:Whole l/\l.length<=2000
 ·have⟨A,E⟩:=I
  have⟨hp,hs⟩:=gN A E;obtain⟨D,hD⟩:∃D,cM l=D:=⟨_,rfl⟩;rw[hD]at hp hs⊢;have F:(D.map aH).Nodup:=(hp.map aH).nodup_iff.2 A.nodup;have hDl:D.length=l.length:=hp.length_eq;have u:∀p∈l,∃(j:Nat) (hj:j<D.length),D[j]=p/\xE D p=j:=λp z=>by
   have⟨j,hj,e⟩:=zgo (hp.symm.subset z)
   exact⟨j,hj,e,by rw[<-e,xE,iC F hj]⟩
  have Y:∀p∈l,∀q∈l,(xE D p<xE D q↔ltP l p q):=λp z q hqm=>by
   have⟨i,hi,Q,p1⟩:=u p z
   have⟨j,hj,T,p2⟩:=u q hqm
   have R:=List.pairwise_iff_getElem.1 hs
   rw[p1,p2]
   constructor
   ·intro h;rw[<-Q,<-T];exact R i j hi hj (by omega)
   ·intro h
    rcases Nat.lt_trichotomy i j with k|k|k
    ·omega
    ·subst k;rw[<-Q,<-T]at h;exact absurd h (aBJ A.named _)
    ·have:=R j i hj hi k;rw[Q,T]at this;exact(avY A.named h this).elim
  have hwl:fK l=true:=(eR l).2 A;have g:=uR l hl;rw[hwl]at g;refine pC func260 rfl ?_
  repeat' first|apply wZ;rfl|constructor|apply g|apply aJS pk Pt.zero (f:=Pt.z) (n:=l.length) (B:=96);(iterate 11 rfl);(focus(simp;done));(focus(simp;done));exact aaQ;omega;omega;intro id C|apply wY;rfl|simp<;>omega|intro h;simp at h
  have C:st id=none:=C;refine aC (X:={x:Nat×List Pt//x.1<=l.length/\x.2.length=l.length/\∀j (h:j<x.1) (v:j<l.length) (m:Nat),xE D (l[j]'v)=(m:Int)->x.2[m]?=some (l[j]'v)}) (λi=>((((St.nil 51 (upd st id (some (.arr 154 (i.1.2.map Pt.z))))).pv 0 (.seq (l.map Pt.z))).pv 4 (.vec id 11 0 l.length)).pv 5 (vi (i.1.1:Nat)))) (λi=>l.length-i.1.1) ⟨(0,List.replicate l.length Pt.zero),by simp,by simp,by simp⟩ ?_ λi=>?_
  ·repeat' first|exact Cn.t0|constructor
  obtain⟨⟨i,O⟩,hi,V,w⟩:=i;simp only at hi V w;dsimp only;by_cases a:i<l.length
  ·obtain⟨f,hf⟩:∃f:Pt->Bool,f=λp=>decide (xE D p<xE D (l[i]'a)):=⟨_,rfl⟩
   repeat' first|apply wZ;rfl|constructor|simp<;>omega|intro h;simp at h
   refine aC (X:={k:Nat//k<=l.length}) (λy=>((((((St.nil 51 (upd st id (some (.arr 154 (O.map Pt.z))))).pv 0 (.seq (l.map Pt.z))).pv 4 (.vec id 11 0 l.length)).pv 5 (vi (i:Nat))).pv 6 (vi (((l.take y.1).countP f:Nat):Int))).pv 7 (vi (y.1:Nat)))) (λy=>l.length-y.1) ⟨0,by omega⟩ ?_ λy=>?_
   ·repeat' first|exact Cn.t0|constructor
   have⟨k,hk⟩:=y;dsimp only;have hcl:(l.take k).countP f<=k:=Nat.le_trans (List.countP_le_length) (by rw[zlt];omega);by_cases c:k<l.length
   ·have o:(l.take (k+1)).countP f=(l.take k).countP f+if f (l[k]'c)=true then 1 else 0:=by
     rw[zts c,List.countP_append];simp[List.countP_singleton]
    have⟨s,J⟩:=Anc.ex A _ (l[k]'c) (zgm c) (znr _);have⟨t,M⟩:=Anc.ex A _ (l[i]'a) (zgm a) (znr _);have hb:f (l[k]'c)=true↔gT s t:=by
     rw[hf,zde,Y _ (zgm c) _ (zgm a)];constructor
     ·rintro⟨s',t',U,v,h3⟩;rw[J.fn A.named U,M.fn A.named v];exact h3
     ·exactλh=>⟨s,t,J,M,h⟩
    have L:k=i->f (l[k]'c)=false:=λe=>by subst e;rw[hf];simp
    repeat' first|refine⟨⟨k+1,by omega⟩,?_,?_⟩|apply wZ;rfl|omega|constructor|apply aqJ A hl c a J M (f (l[k]'c)) hb|show _=_;(first|rw[o,zp ‹_›];simp;done|rw[o,zn (by rw[h];simp)];rfl|rw[o,zn (by rw[L (by omega)];simp)];rfl)|apply wY;rfl|simp<;>omega|intro h;simp at h|intro h
   ·have⟨m,hm,Z,z⟩:=u _ (zgm a)
    have htk:l.take k=l:=ztl (by omega);have hc:(l.take k).countP f=m:=by
     rw[htk,<-(hp.countP_eq f),hf,z];exact aEo F m (by omega)
    rw[hc];have G:m<O.length:=by omega
    have H:∀j (h:j<i+1) (v:j<l.length) (n:Nat),xE D (l[j]'v)=(n:Int)->(O.set m (l[i]'a))[n]?=some (l[j]'v):=λj U v n hn=>by
     by_cases S:m=n
     ·subst S
      rw[List.getElem?_set_self G];have⟨j',hj',Q,T⟩:=u _ (zgm v);have:j'=m:=by omega
      subst this;rw[<-Q,Z]
     ·rw[List.getElem?_set_ne S]
      rcases zls.1 U with q|q
      ·exact w j q v n hn
      ·subst q;omega
    repeat' first|apply stF pk (f:=Pt.z) (O[m]'G) (l[i]'a);rfl;rfl;exact aA _ _ _;rfl;exact zgg G;rfl;rfl|refine⟨⟨(i+1,O.set m (l[i]'a)),by simp only;omega,by simp only[List.length_set];exact V,H⟩,?_,?_⟩|exact Cn.any (cZ (by((simp only[St.pv,St.put,St.sst,St.setv,St.nil,St.var,eX]);(done))))|apply wZ;rfl|omega|constructor|apply ixA pk;(iterate 5 rfl);rotate_left;rfl;intro hw;exact(show _=((m:Nat):Int)from by omega);intro hw;omega;rfl;exact Nat.zero_add _|apply wI;rfl|apply gE;omega|simp<;>omega|intro h;simp at h
  ·have W:O=D:=by
    apply List.ext_getElem?;intro m;by_cases hm:m<D.length
    ·have⟨j,hj,e⟩:=zgo (hp.subset (zgm hm))
     have:=w j (by omega) hj m (by rw[e,xE,iC F hm]);rw[this,e,zgg hm]
    ·rw[List.getElem?_eq_none (by omega),List.getElem?_eq_none (by omega)]
   subst W
   repeat' first|refine Cn.rr ?_;exact .inl ⟨id,by rw[zql,V],C,aA _ _ _,bN C⟩;done|apply wZ;rfl|constructor|simp<;>omega|intro h;simp at h
 ·have hno:cM l=[]:=kT I
  rw[hno];have hw:fK l=true->¬l.length<=2000:=λh v=>I ⟨(eR l).1 h,v⟩;have g:=uR l hl;cases N:fK l with
  |false=>
   rw[N]at g;refine pC func260 rfl ?_
   (repeat' first|apply Cn.cf;focus((apply g);done)|refine Cn.rr ?_;exact .inr ⟨rfl,rfl,zsr _⟩;done|apply wZ;rfl|constructor|apply wY;rfl)
  |true=>
   rw[N]at g;have hl2:=hw N;refine pC func260 rfl ?_
   repeat' first|apply Cn.cf;focus((apply g);done)|refine Cn.rr ?_;exact .inr ⟨rfl,rfl,zsr _⟩;done|apply wZ;rfl|constructor|apply wY;rfl|simp<;>omega|intro h;simp at h
end
section
attribute [local irreducible] Ev PWp
theorem aiV(l m:List Pt)(hl:l.length<4611686018427387904):qf 327 [.seq (l.map Pt.z), .seq (m.map Pt.z)] (vb (decide (l=m))):=by
 refine pF func327 rfl λst=>?_
 repeat' first|apply wZ;rfl|constructor|show(_:PV)=_;rw[zdj λe:l=m=>by subst e;simp at*];done|intro h;simp at h
 refine aC (X:={x:Nat//x<=l.length/\l.take x=m.take x}) (λi=>((((St.nil 26 st).pv 0 (.seq (l.map Pt.z))).pv 1 (.seq (m.map Pt.z))).pv 5 (vi (i.1:Nat)))) (λi=>l.length-i.1) ⟨0,by omega,rfl⟩ ?_ λi=>?_;rotate_left;have⟨i,hi,a⟩:=i;dsimp only;have c:l.length=m.length:=by omega
 all_goals (repeat' first|refine⟨⟨i+1,by omega,aaF a (by omega) (by omega) (by rw[Pt.ext_iff,Vl.ext_iff,Dt.ext_iff,Dt.ext_iff];simpa[and_assoc]using h)⟩,?_,?_⟩|apply wZ;rfl|apply KR.mk;kernel_rfl|omega|constructor|show(_:PV)=_;(first|rw[anA (i:=i) (by omega) (by omega) λe=>by simp[e]at h];done|rw[agM a (by omega) (by omega)]);done|apply wI;rfl|apply gE;omega|simp<;>omega|intro h;simp at h)
theorem rright_spec(c:Cl)(hl:c.p.length<1000000000000):qf 255 [.agg c.z] (vi (rightP c)):=by
 have:=abP c.p;have hc:(2000<((c.p.length:Nat):Int))↔2000<c.p.length:=by omega
 have e:(((c.p.length:Nat):Int)<=2000)↔¬2000<c.p.length:=by omega
 refine pF func255 rfl λst=>?_
 repeat' first|apply wZ;rfl|show Cn _;constructor|exact rfl|apply KR.mk;kernel_rfl|((first|apply uR c.p hl|apply adW c.p hl|apply aiV (cM c.p) c.p)<;>(omega))|show(_:PV)=_;(first|simp only[rightP,Vl.ext_iff,Vl.zero,e0];grind|obtain⟨⟨f,g,i⟩,j⟩:=‹(_/\_/\_)/\_›;have a:c.val=Vl.zero:=(Vl.ext_iff _ _).2 ⟨f,g,i⟩;simp only[rightP,a,j];grind);done|apply wY;rfl|intro h;simp at h|intro h
theorem afY(l:List Int)(n:Int):kF (l++[n])=(kF l).push (UInt8.ofNat n.toNat):=by unfold kF;simp
theorem agJ(l:List Int):(kF l).size=l.length:=by
 induction l using aBO with
 |h0=>rfl
 |h1 l n ih=>rw[afY,ByteArray.size_push,ih];simp
theorem aC2(l:List Int)(n:Int):kF l++kF [n]=kF (l++[n]):=by
 rw[afY];have:kF [n]=ByteArray.empty.push _:=rfl;rw[this]
 ext1
 simp
theorem rshow_spec(c:Cl)(hl:c.p.length<1000000000000):qf 332 [.agg c.z] (.agg (showP c).z):=by
 refine pF func332 rfl λst=>?_
 repeat' first|apply wZ;rfl|constructor|apply rright_spec c hl|show(_:PV)=_;rw[showP,zn ‹_›];rfl;done|apply wY;rfl|intro h
 have h0:rightP c=0:=h;have hb:=λp (hp:p∈c.p)=>awI ((gJ h0).2.2.1.formed p hp);refine aC (X:={x:Nat×List Int//x.1<=c.p.length/\x.2.length<=200/\tT (c.p.drop x.1) x.2=tT c.p []}) (λi=>(((((St.nil 44 st).var 1 92 (c.z)).var 2 46 ([vi 0,vi 0,vs e0])).pv 4 (vs (kF i.1.2))).pv 5 (vi (i.1.1:Nat)))) (λi=>c.p.length-i.1.1) ⟨(0,[]),by simp,by simp,rfl⟩ ?_ λi=>?_;rotate_left;obtain⟨⟨i,acc⟩,hi,ha,a⟩:=i;simp only at hi ha a;dsimp only;have hz:=agJ acc;have hs:=λh:i<c.p.length=>adY h acc;have f:=λh:i<c.p.length=>hb _ (zgm h);by_cases e:i<c.p.length;have hs:=hs e;have⟨g,j⟩:=f e;have k:(kF [(c.p[i]'e).val.n]).size=1:=agJ _;rotate_left
 all_goals (repeat' first|((refine⟨⟨(i+1,acc++[(c.p[i]'e).val.n]),by simp only;omega,by simp only[zla,List.length_singleton];omega,by rw[<-a,hs,zp ⟨h.1,by omega⟩]⟩,?_,by simp only;omega⟩);focus((repeat' first|constructor|rw[aC2]);done))|((refine⟨⟨(i+1,acc),by simp only;omega,ha,by rw[<-a,hs,zn λq=>by have:=h q.1;omega]⟩,?_,by simp only;omega⟩);focus((repeat' first|constructor);done))|apply wZ;rfl|omega|constructor|show(_:PV)=_;rw[showP,zp h0,<-a,List.drop_eq_nil_of_le (by omega)];rfl;done|apply cvA pk.htt;(iterate 5 rfl);(refine⟨?_,?_⟩<;>(omega));rfl|apply aNw pk [(c.p[i]'e).val.n];(iterate 6 rfl);rotate_left;rfl;rfl|apply aOu;rfl;rfl;rfl;rotate_left;rfl;intro _;omega;rfl|apply wI;rfl|apply gE;omega|simp<;>omega|intro h;simp at h)
end
end Go.Proofs.YtigmnfepdlbcpaaGreatDoor.T
namespace Go.Proofs.YtigmnfepdlbcpaaGreatDoor
open Go Go.Abs Tryz
attribute [local irreducible] Ev PWp
variable{a:Int}{l:List Int}{i k n:Nat}{b:Bs}
theorem aE6(t:Tb)(k:Nat)(hl:t.o.length<200000000000000)(hk:k<t.o.length):qf 336 [.agg t.z,vi (k:Nat)] (vi (xW t k)):=by
 have hn:=ajA t.o[k].name;have e:xW t k=anC (t.o.take k) t.o[k]:=by unfold xW;rw[zep t.o k hk]
 rw[e];unfold anC;generalize sD t.o[k].name=N at*;refine pF func336 rfl λst=>?_
 focus(repeat' first|apply wZ;rfl|constructor|apply hn|show(_:PV)=_;rw[zp (by grind)];done|apply wY;rfl|apply wI;rfl|apply gE;omega|intro h;simp at h)
 refine aC (X:={x:Nat//x<=k/\∀j (h:j<t.o.length),j<x->t.o[j].name≠t.o[k].name}) (λi=>(((((St.nil 78 st).pv 1 (vi (k:Nat))).var 2 77 (t.z)).var 5 83 (t.o[k].z)).pv 6 (vi (i.1:Nat)))) (λi=>k-i.1) ⟨0,by omega,by omega⟩ ?_ λi=>?_
 ·repeat' first|constructor
 have⟨i,hi,g⟩:=i;dsimp only;by_cases m:k<=i;have ha:((t.o.take k).any λx=>decide (x.name=t.o[k].name))=false:=by
  rw[<-znt,zay];rintro⟨x,hx,a⟩;obtain⟨j,hj,rfl⟩:=zgo hx;rw[zlt]at hj;rw[List.getElem_take,zde]at a;exact g j (by omega) (by omega) a
 rw[ha];rotate_left;have o:i<t.o.length:=by omega
 by_cases hq:t.o[i].name=t.o[k].name;have ha:((t.o.take k).any λx=>decide (x.name=t.o[k].name))=true:=zay.2 ⟨t.o[i],List.mem_iff_getElem.2 ⟨i,by rw[zlt];omega,by rw[List.getElem_take]⟩,by rw[zde];exact hq⟩;rw[ha];rotate_left;have f:∀j (h:j<t.o.length),j<i+1->t.o[j].name≠t.o[k].name:=λj hj c=>by
  rcases zls.1 c with w|w
  ·exact g j hj w
  ·subst w;exact hq
 rotate_left
 all_goals (repeat' first|refine⟨⟨i+1,by omega,f⟩,?_,?_⟩|apply wZ;rfl|apply KR.mk;kernel_rfl|omega|constructor|show(_:PV)=_;(congr 2;grind);done|apply wI;rfl|apply gE;omega|simp<;>omega|exfalso;grind|intro h;simp at h|intro h)
theorem vL(t:Tb)(i:Int):qf 395 [.agg t.z,vi i] (.tup [vb (iH t i),vb (iH t i&&gY (fZ t i))]):=by
 rcases hh:iH t i with _|_
 unfold iH at hh;simp only[Bool.and_eq_false_iff,zdf]at hh;rotate_left;obtain⟨j,rfl,hj,e⟩:=vD hh;rw[e];have a:1<=j:=by unfold iH at hh;simp at hh;omega
 all_goals (refine pF func395 rfl λst=>?_;repeat'(first|apply wZ;rfl|apply KR.mk;kernel_rfl|constructor|apply wI;rfl|apply gE;omega|intro h;simp at h;omega|intro h;simp at h))
theorem aEd(t:Tb)(k:Nat)(hl:t.o.length<200000000000000)(hu:t.u.length<200000000000000)(hk:k<t.u.length):qf 337 [.agg t.z,vi (k:Nat)] (vi (xH t k)):=by
 have hh:=vL t t.u[k];have e:xH t k=aiH (iH t t.u[k]) (decide (0<k)&&decide (t.u[k]<=t.u[k-1]'(by omega))) (gY (fZ t t.u[k])):=by
  unfold xH;rw[zep t.u k hk,zep t.u (k-1) (by omega)]
 rw[e];unfold aiH;generalize iH t t.u[k]=H at*;generalize gY (fZ t t.u[k])=N at*;rcases Nat.eq_zero_or_pos k with rfl|a
 refine pF func337 rfl λst=>?_;rotate_left;refine pF func337 rfl λst=>?_;rotate_left
 all_goals (repeat' first|apply iX;intro hw;exact(show _=((0:Nat):Int)from by exact(lZ hw).elim);apply gE;omega;rfl|apply iX;intro hw;exact(show _=(((k-1:Nat)):Int)from by omega);apply gE;omega;rfl|apply wZ;rfl|apply KR.mk;kernel_rfl|omega|constructor|apply hh|show(_:PV)=_;(congr 2;grind);done|apply wY;rfl|apply wI;rfl|apply gE;omega|intro h;simp at h|intro h)
theorem aEF(s:Sc)(t:Tb)(k:Nat)(hu:t.f.length<200000000000000)(hk:k<t.f.length):qf 338 [.agg (scC s), .agg t.z,vi (k:Nat)] (vi (xM s.length t k)):=by
 have hh:=vL t t.f[k].n;have e:xM s.length t k=ajO (iH t t.f[k].n) (decide (t.f[k].t<0)||decide (t.f[k].t>=s.length)) (decide (0<k)&&decide (t.f[k].n<=(t.f[k-1]'(by omega)).n)) (decide (t.f[k].act<0)||decide (t.f[k].act>2)) (gY (fZ t t.f[k].n)) (decide (t.f[k].act=2)&& !(fZ t t.f[k].n).null):=by
  unfold xM;rw[zep t.f k hk,zep t.f (k-1) (by omega)]
 rw[e];unfold ajO;cases hc:iH t t.f[k].n with
 |false=>
  rw[hc]at hh;refine pF func338 rfl λst=>?_
  (repeat' first|apply wZ;rfl|constructor|apply hh|apply wY;rfl|apply wI;rfl|apply gE;omega)
 |true=>
 have⟨j,c,hj,a⟩:=vD hc;rw[hc,a]at hh;rw[a];generalize gY t.o[j]=N at*;rcases Nat.eq_zero_or_pos k with rfl|f
 refine pF func338 rfl λst=>?_;rotate_left;refine pF func338 rfl λst=>?_;rotate_left
 all_goals (repeat' first|apply iX;intro hw;exact(show _=((0:Nat):Int)from by exact(lZ hw).elim);apply gE;omega;rfl|apply iX;intro hw;exact(show _=((j:Nat):Int)from by omega);apply gE;omega;rfl|apply iX;intro hw;exact(show _=(((k-1:Nat)):Int)from by omega);apply gE;omega;rfl|apply wZ;rfl|apply KR.mk;kernel_rfl|omega|constructor|apply hh|show(_:PV)=_;(congr 2;grind);done|apply wY;rfl|apply wI;rfl|apply gE;omega|intro h;simp at h)
theorem aDb(t:Tb)(k:Nat)(hu:t.s.length<200000000000000)(hk:k<t.s.length):qf 339 [.agg t.z,vi (k:Nat)] (vi (xR t k)):=by
 have o:=vL t t.s[k].n;have p:=vL t t.s[k].b;have e:xR t k=ajB (iH t t.s[k].n&&iH t t.s[k].b) ((decide (t.s[k].n=t.s[k].b)||decide (t.s[k].max<0))||decide (t.s[k].max>1099511627776)) (gY (fZ t t.s[k].n)&&gY (fZ t t.s[k].b)) ((t.s.take k).any λy=>decide (y.n=t.s[k].n)&&decide (y.b=t.s[k].b)):=by
  unfold xR;rw[zep t.s k hk]
 rw[e];unfold ajB;generalize iH t t.s[k].n=H at*;generalize iH t t.s[k].b=I at*;generalize gY (fZ t t.s[k].n)=N at*;generalize gY (fZ t t.s[k].b)=M at*;refine pF func339 rfl λst=>?_
 focus(repeat' first|apply wZ;rfl|constructor|(first|apply o|apply p)|show(_:PV)=_;(congr 2;grind);done|apply wY;rfl|apply wI;rfl|apply gE;omega|intro h;simp at h)
 refine aC (X:={x:Nat//x<=k/\∀j (h:j<t.s.length),j<x->¬(t.s[j].n=t.s[k].n/\t.s[j].b=t.s[k].b)}) (λi=>(((((St.nil 82 st).pv 1 (vi (k:Nat))).var 2 77 (t.z)).var 5 87 (t.s[k].z)).pv 10 (vi (i.1:Nat)))) (λi=>k-i.1) ⟨0,by omega,by omega⟩ ?_ λi=>?_
 ·repeat' first|constructor
 have⟨i,hi,g⟩:=i;dsimp only;by_cases m:k<=i;have ha:((t.s.take k).any λy=>decide (y.n=t.s[k].n)&&decide (y.b=t.s[k].b))=false:=by
  rw[<-znt,zay];rintro⟨x,hx,a⟩;obtain⟨j,hj,rfl⟩:=zgo hx;rw[zlt]at hj;rw[List.getElem_take,zba,zde,zde]at a;exact g j (by omega) (by omega) a
 rw[ha];rotate_left;have q:i<t.s.length:=by omega
 by_cases hq:t.s[i].n=t.s[k].n/\t.s[i].b=t.s[k].b;have ha:((t.s.take k).any λy=>decide (y.n=t.s[k].n)&&decide (y.b=t.s[k].b))=true:=zay.2 ⟨t.s[i],List.mem_iff_getElem.2 ⟨i,by rw[zlt];omega,by rw[List.getElem_take]⟩,by rw[zba,zde,zde];exact hq⟩;rw[ha];rotate_left;have f:∀j (h:j<t.s.length),j<i+1->¬(t.s[j].n=t.s[k].n/\t.s[j].b=t.s[k].b):=λj hj c=>by
  rcases zls.1 c with w|w
  ·exact g j hj w
  ·subst w;exact hq
 rotate_left
 all_goals (repeat' first|refine⟨⟨i+1,by omega,f⟩,?_,?_⟩|apply wZ;rfl|apply KR.mk;kernel_rfl|omega|constructor|show(_:PV)=_;(congr 2;grind);done|apply wI;rfl|apply gE;omega|simp<;>omega|intro h;simp at h;omega|intro h;simp at h)
theorem tL(h:a≠0):orI (a::l)=a:=by rw[orI,zn h]
theorem xP(h:a=0):orI (a::l)=orI l:=by rw[orI,zp h]
theorem up0{f:Nat->Int}(a:∀j<i,f j=0)(h:f i=0):∀j<i+1,f j=0:=λj hj=>by grind
def aFF(m:Nat)(t:Tb):Int:=orI [lk2 t,lk3 t,lk4 t,lk5 m t,lk6 t]
theorem axH(s:Sc)(t:Tb)(hB:TbB t)(hc:0<t.o.length):qf 265 [.agg (scC s), .agg t.z] (vi (aFF s.length t)):=by
 have b1:=hB.c;have b2:=hB.u;have G:=hB.f;have H:=hB.s;unfold aFF;refine pF func265 rfl λst=>?_
 focus(repeat' first|apply wZ;rfl|constructor)
 refine aC (X:={x:Nat//x<=t.o.length/\∀j<x,xW t j=0}) (λi=>((((St.nil 87 st).var 2 24 (scC s)).var 3 77 (t.z)).pv 5 (vi (i.1:Nat)))) (λi=>t.o.length-i.1) ⟨0,by omega,by omega⟩ ?_ λi=>?_;rotate_left;have⟨i,hi,B⟩:=i;dsimp only;by_cases o:i<t.o.length;have hs:=aE6 t i b1 o;have A:xW t i≠0->orI [lk2 t,lk3 t,lk4 t,lk5 s.length t,lk6 t]=xW t i:=λh=>by
  have e:lk2 t=xW t i:=nM o h B
  rw[tL (by rw[e];exact h),e]
 have I:=λh=>up0 B h;generalize xW t i=E at*;rotate_left;have z2:lk2 t=0:=nO λj hj=>B j (by omega);rw[xP z2];have m:lk3 t=if gY t.o[0]=false\/t.o[0].null=true then 6 else 0:=by unfold lk3;rw[zep t.o 0 hc]
 by_cases hk:gY t.o[0]=false\/t.o[0].null=true;rw[zp hk]at m;rw[tL (by rw[m];decide),m];unfold gY at hk;simp only[Bool.and_eq_false_iff,zdf]at hk;rotate_left;rw[zn hk]at m;rw[xP m];unfold gY at hk;simp only[Bool.and_eq_false_iff,zdf]at hk
 focus(repeat' first|apply wZ;rfl|constructor|apply wI;rfl|apply gE;omega|simp<;>omega|exfalso;grind|intro h;simp at h)
 refine aC (X:={x:Nat//x<=t.u.length/\∀j<x,xH t j=0}) (λy=>((((St.nil 87 st).var 2 24 (scC s)).var 3 77 (t.z)).pv 7 (vi (y.1:Nat)))) (λy=>t.u.length-y.1) ⟨0,by omega,by omega⟩ ?_ λy=>?_;rotate_left;have⟨y,hy,g⟩:=y;dsimp only;by_cases q:y<t.u.length;have hs:=aEd t y b1 b2 q;have A:xH t y≠0->orI [lk4 t,lk5 s.length t,lk6 t]=xH t y:=λh=>by
  have e:lk4 t=xH t y:=nM q h g
  rw[tL (by rw[e];exact h),e]
 have C:=λh=>up0 g h;generalize xH t y=E at*;rotate_left;rw[xP (show lk4 t=0 from nO λj hj=>g j (by omega))]
 focus(repeat' first|apply wZ;rfl|constructor|simp<;>omega|intro h;simp at h)
 refine aC (X:={x:Nat//x<=t.f.length/\∀j<x,xM s.length t j=0}) (λz=>((((St.nil 87 st).var 2 24 (scC s)).var 3 77 (t.z)).pv 9 (vi (z.1:Nat)))) (λz=>t.f.length-z.1) ⟨0,by omega,by omega⟩ ?_ λz=>?_;rotate_left;have⟨z,hz,k⟩:=z;dsimp only;by_cases v:z<t.f.length;have hs:=aEF s t z G v;have A:xM s.length t z≠0->orI [lk5 s.length t,lk6 t]=xM s.length t z:=λh=>by
  have e:lk5 s.length t=xM s.length t z:=nM v h k
  rw[tL (by rw[e];exact h),e]
 have D:=λh=>up0 k h;generalize xM s.length t z=E at*;rotate_left;rw[xP (show lk5 s.length t=0 from nO λj hj=>k j (by omega))]
 focus(repeat' first|apply wZ;rfl|constructor|simp<;>omega|intro h;simp at h)
 refine aC (X:={x:Nat//x<=t.s.length/\∀j<x,xR t j=0}) (λw=>(((St.nil 87 st).var 3 77 (t.z)).pv 11 (vi (w.1:Nat)))) (λw=>t.s.length-w.1) ⟨0,by omega,by omega⟩ ?_ λw=>?_;rotate_left;have⟨w,hw,a⟩:=w;dsimp only;by_cases p:w<t.s.length;have hs:=aDb t w H p;have A:xR t w≠0->orI [lk6 t]=xR t w:=λh=>by
  have e:lk6 t=xR t w:=nM p h a
  rw[tL (by rw[e];exact h),e]
 have F:=λh=>up0 a h;generalize xR t w=E at*;rotate_left;rw[xP (show lk6 t=0 from nO λj hj=>a j (by omega))];rotate_left
 all_goals (repeat' first|((first|refine⟨⟨i+1,by omega,I ‹_›⟩,?_,by simp only;omega⟩|refine⟨⟨y+1,by omega,C ‹_›⟩,?_,by simp only;omega⟩|refine⟨⟨z+1,by omega,D ‹_›⟩,?_,by simp only;omega⟩|refine⟨⟨w+1,by omega,F ‹_›⟩,?_,by simp only;omega⟩);focus((repeat' first|constructor);done))|apply wZ;rfl|omega|constructor|apply hs|show(_:PV)=_;((rw[A ‹_›]);done);done|apply wY;rfl|apply wI;rfl|apply gE;omega|simp<;>omega|exfalso;grind|intro h;simp at h|intro h)
 all_goals (repeat'(fail))
theorem auF(s:Sc)(k:Nat)(hl:s.length<200000000000000)(hk:k<s.length)(hB:TbB s[k]):qf 178 [.agg (scC s),vi (k:Nat)] (vi (vW s k)):=by
 have b1:=hB.c;have b2:=hB.u;have B:=hB.f;have C:=hB.s;have D:=hB.k;have hn:=ajA s[k].name;have hp:=axH s s[k] hB;have e:vW s k=orI [lk0 s k,lk1 s[k],lk2 s[k],lk3 s[k],lk4 s[k],lk5 s.length s[k],lk6 s[k]]:=by unfold vW lks;rw[zep s k hk]
 rw[e];have h0:lk0 s k=if sD s[k].name=false then 1 else if ayP s k=true then 5 else 0:=by unfold lk0;rw[zep s k hk]
 have a:ayP s k=(s.take k).any λt=>decide (t.name=s[k].name):=by unfold ayP;rw[zep s k hk]
 rcases hN:sD s[k].name with _|_
 rw[hN,zp rfl]at h0;rw[hN]at hn;rw[tL (by rw[h0];decide),h0];refine pF func178 rfl λst=>?_;rotate_left;rw[hN,zn (by simp)]at h0;rw[hN]at hn;refine pF func178 rfl λst=>?_
 focus(repeat' first|apply wZ;rfl|constructor|apply hn|apply wY;rfl|apply wI;rfl|apply gE;omega)
 refine aC (X:={x:Nat//x<=k/\∀j (h:j<s.length),j<x->s[j].name≠s[k].name}) (λi=>(((((St.nil 67 st).pv 1 (vi (k:Nat))).var 2 24 (scC s)).var 5 77 (s[k].z)).pv 6 (vi (i.1:Nat)))) (λi=>k-i.1) ⟨0,by omega,by omega⟩ ?_ λi=>?_;rotate_left;have⟨i,hi,y⟩:=i;dsimp only;by_cases z:¬k<=i;have A:i<s.length:=by omega
 by_cases hq:s[i].name=s[k].name;have ha:ayP s k=true:=by rw[a];exact zay.2 ⟨s[i],List.mem_iff_getElem.2 ⟨i,by rw[zlt];omega,by rw[List.getElem_take]⟩,by rw[zde];exact hq⟩
 rw[zp ha]at h0;rw[tL (by rw[h0];decide),h0];rotate_left;have q:∀j (h:j<s.length),j<i+1->s[j].name≠s[k].name:=λj hj o=>by
  rcases zls.1 o with w|w
  ·exact y j hj w
  ·subst w;exact hq
 rotate_left;have ha:ayP s k=false:=by
  rw[a,<-znt,zay];rintro⟨x,hx,g⟩;obtain⟨j,hj,rfl⟩:=zgo hx;rw[zlt]at hj;rw[List.getElem_take,zde]at g;exact y j (by omega) (by omega) g
 rw[zn (by rw[ha];simp)]at h0;rw[xP h0];by_cases v:s[k].o.length<1\/s[k].o.length>16\/s[k].h.length>16\/s[k].u.length>16\/s[k].f.length>16\/s[k].s.length>16;have m:lk1 s[k]=2:=by unfold lk1;rw[zp v]
 rw[tL (by rw[m];decide),m];rotate_left;have m:lk1 s[k]=0:=by unfold lk1;rw[zn v]
 rw[xP m];have p:=hp (by omega);rotate_left
 all_goals (repeat' first|refine⟨⟨i+1,by omega,q⟩,?_,?_⟩|apply wZ;rfl|apply KR.mk;kernel_rfl|omega|constructor|apply p|apply wY;rfl|apply wI;rfl|apply gE;omega|simp<;>omega|exfalso;grind|intro h;simp at h;omega|intro h;simp at h|intro h)
 all_goals (repeat' first|apply wZ;rfl|constructor|apply hn)
theorem zU(s:Sc)(hl:s.length<200000000000000)(hB:∀t∈s,TbB t):qf 111 [.agg (scC s)] (vi (bY s)):=by
 unfold bY;by_cases c:s.length<1\/s.length>16;rw[zp c];refine pF func111 rfl λst=>?_;rotate_left;rw[zn c];refine pF func111 rfl λst=>?_
 focus(repeat' first|apply wZ;rfl|constructor|intro h;simp at h;omega|intro h;simp at h)
 refine aC (X:={x:Nat//x<=s.length/\∀j<x,vW s j=0}) (λi=>(((St.nil 28 st).var 1 24 (scC s)).pv 3 (vi (i.1:Nat)))) (λi=>s.length-i.1) ⟨0,by omega,by omega⟩ ?_ λi=>?_;rotate_left;have⟨i,hi,f⟩:=i;dsimp only;by_cases a:i<s.length;have hs:=auF s i hl a (hB _ (zgm a));have g:vW s i≠0->eV (vW s) s.length=vW s i:=λh=>nM a h f;have k:=λh=>up0 f h;generalize vW s i=E at*;rotate_left;have e:eV (vW s) s.length=0:=nO λj hj=>f j (by omega);rotate_left
 all_goals (repeat' first|refine⟨⟨i+1,by omega,k ‹_›⟩,?_,?_⟩|apply wZ;rfl|omega|constructor|apply hs|show(_:PV)=_;(first|(rw[g ‹_›]);done|(rw[e]);done);done|apply wY;rfl|simp<;>omega|intro h;simp at h|intro h)
 all_goals (repeat'(fail))
theorem aAF(c:Cl)(hl:c.p.length<1000000000000):qf 179 [.agg c.z] (vb (mK T.rightP c)):=by
 have a:=apA c (by omega);have f:=aoK c (by omega);have hv:=jH c.val;have e:=mU c;have h4:=T.rright_spec c hl;unfold mK;generalize cB c.val=A at*;generalize kJ c=B at*;generalize bL c=C at*;generalize iI c=D at*;generalize T.rightP c=E at*;refine pF func179 rfl λst=>?_
 repeat' first|apply wZ;rfl|constructor|(first|apply hv|apply a|apply e|apply f|apply h4)|show(_:PV)=_;simp[*];done;done|apply wY;rfl|intro h
theorem aCi{l:List Dt}(h:k<l.length)(hf:xS l k=false):oK l=false:=by unfold oK;rw[aeU h hf]
theorem aA5(l:List Dt)(hl:l.length<1000000000000):qf 180 [.seq (l.map Dt.z)] (vb (oK l)):=by
 refine pF func180 rfl λst=>?_
 focus(repeat' first|apply wZ;rfl|show Cn _;constructor)
 refine aC (X:={x:Nat//x<=l.length/\∀j<x,xS l j=true}) (λy=>(((St.nil 55 st).pv 0 (.seq (l.map Dt.z))).pv 3 (vi (y.1:Nat)))) (λy=>l.length-y.1) ⟨0,by omega,by omega⟩ ?_ λy=>?_
 ·repeat' first|show Cn _;constructor|exact rfl
 obtain⟨y,hy,a⟩:=y;dsimp only;by_cases g:l.length<=y;have e:oK l=true:=by unfold oK;exact tY λk hk=>a k (by omega)
 rotate_left;have c:y<l.length:=by omega
 have e:=Iff.refl (xS l y=true);by_cases h0:y=0;subst h0
 conv at e=>rhs;simp only[xS,eG,zep l 0 c,zba,zde,decide_true,Bool.true_or,and_true]
 have i:=adT (aCi c) e;have f:=sJ a e;have ha:=kG l[0] l[0];rotate_left;obtain⟨k,rfl⟩:∃k,y=k+1:=⟨y-1,by omega⟩;have hd:=kG l[k+1] l[k]
 conv at e=>rhs;simp only[xS,eG,zep l (k+1) c,show k+1-1=k from rfl,zep l k (by omega),zba,zde,Bool.or_eq_true,h0,false_or]
 have i:=adT (aCi c) e;have f:=sJ a e;rotate_left
 all_goals (repeat' first|apply iX;intro hw;exact(show _=((0:Nat):Int)from by exact(lZ hw).elim);apply gE;omega;rfl|apply iX;intro hw;exact(show((((k+1:Nat):Int))-1=((k:Nat):Int))from by omega);apply gE;omega;rfl|((first|refine⟨⟨1,by omega,f (by grind)⟩,?_,by simp only;omega⟩|refine⟨⟨k+2,by omega,f (by grind)⟩,?_,by simp only;omega⟩);focus((repeat' first|show Cn _;constructor|exact rfl);done))|apply wZ;rfl|show Cn _;constructor|exact rfl|apply KR.mk;kernel_rfl|(first|apply ha|apply hd)|show(_:PV)=_;(first|(rw[e]);done|(rw[i (by grind)];done);done);done|apply wY;rfl|apply wI;rfl|apply gE;omega|omega|simp only[zql];omega|intro h;simp at h)
theorem aFV{tx:Cl->Int}{t:Tb}{l:Ln}(h:0<=l.key/\l.key<1073741824/\l.c.length=t.o.length)(hc:∀k<l.c.length,sI tx t l k=true):jX tx t l=(decide (l.c[0]!.val=⟨1,l.key,e0⟩)&&oK l.b):=by
 unfold jX sG;rw[zdt h,tY hc];rfl
theorem aA4(t:Tb)(l:Ln)(ht:0<t.o.length)(hl:l.c.length<1000000000000/\l.b.length<1000000000000)(hp:∀c∈l.c,c.p.length<1000000000000):qf 112 [.agg t.z, .agg l.z] (vb (jX T.rightP t l)):=by
 have hd:=aA5 l.b hl.2;by_cases h0:¬(0<=l.key/\l.key<1073741824/\l.c.length=t.o.length);rw[apO _ (by unfold sG;rw[zdj h0];rfl)];refine pF func112 rfl λst=>?_;rotate_left
 replace h0:=zdn h0
 have⟨o,p,q⟩:=h0;have f:(decide (l.c[0].val.k=1)&&(decide (l.c[0].val.n=l.key)&&decide (l.c[0].val.s=e0)))=decide (l.c[0].val=⟨1,l.key,e0⟩):=by rw[zbi];simp[Vl.ext_iff]
 refine pF func112 rfl λst=>?_
 focus(repeat' first|apply wZ;rfl|constructor|intro h;simp at h;omega|intro h;simp at h)
 refine aC (X:={x:Nat//x<=l.c.length/\∀j<x,sI T.rightP t l j=true}) (λi=>((((St.nil 66 st).var 2 77 (t.z)).var 3 96 (l.z)).pv 5 (vi (i.1:Nat)))) (λi=>l.c.length-i.1) ⟨0,by omega,by omega⟩ ?_ λi=>?_;rotate_left;have⟨i,hi,g⟩:=i;dsimp only;by_cases m:l.c.length<=i;have e:=aFV (tx:=T.rightP) ⟨o,p,q⟩ λk hk=>g k (by omega);rw[zep l.c 0 (by omega),<-f]at e;rotate_left;have a:i<l.c.length:=by omega
 have hc:=aAF l.c[i] (hp _ (zgm a));have e:=Iff.refl (sI T.rightP t l i=true)
 conv at e=>rhs;simp only[sI,zep l.c i a,zep t.o i (show i<t.o.length by omega),zba,zde]
 have u:=adT (aCB T.rightP (t:=t) a) e;have v:=sJ g e;rotate_left
 all_goals (repeat' first|refine⟨⟨i+1,by omega,v (by grind)⟩,?_,?_⟩|apply wZ;rfl|apply KR.mk;kernel_rfl|omega|constructor|(first|apply hd|apply hc)|show(_:PV)=_;(first|(rw[e]);done|(rw[u (by grind)]);done);done|apply wY;rfl|apply wI;rfl|apply gE;omega|apply gE;show 0<_;omega|simp<;>omega|intro h;simp at h)
 all_goals (repeat'(fail))
def aLd(d:Da):Prop:=d.l.length<1000000000000/\∀l∈d.l,(l.c.length<1000000000000/\l.b.length<1000000000000)/\∀c∈l.c,c.p.length<1000000000000
theorem atQ(s:Sc)(b:Bs)(hl:s.length<1000000000000)(hB:∀t∈s,TbB t)(hb:b.length<1000000000000)(hd:∀d∈b,aLd d):qf 51 [.agg (scC s), .agg (bsC b)] (vb (bA T.rightP s b)):=by
 have hs:=zU s (by omega) hB;by_cases h0:¬(bY s=0/\b.length=s.length);rw[aCJ _ h0];generalize bY s=R at*;refine pF func51 rfl λst=>?_;rotate_left
 replace h0:=zdn h0
 obtain⟨p,F⟩:=h0;rw[p]at hs;refine pF func51 rfl λst=>?_
 focus(repeat' first|apply wZ;rfl|show Cn _;constructor|apply hs|apply wY;rfl|simp only[zql];omega|intro h;simp at h)
 refine aC (X:={x:Nat//x<=b.length/\∀j<x,zP T.rightP s b j=true}) (λi=>((((St.nil 71 st).var 2 24 (scC s)).var 3 27 (bsC b)).pv 5 (vi (i.1:Nat)))) (λi=>b.length-i.1) ⟨0,by omega,by omega⟩ ?_ λi=>?_;rotate_left;obtain⟨i,hi,C⟩:=i;dsimp only;by_cases D:b.length<=i;have e:=atE T.rightP ⟨p,F⟩ λk hk=>C k (by omega);rotate_left;have g:i<b.length:=by omega
 have o:i<s.length:=by omega
 have w:=adZ p o;obtain⟨J,E⟩:=hd _ (zgm g);have e:=Iff.refl (zP T.rightP s b i=true)
 conv at e=>rhs;simp only[zP,vY,zep s i o,zep b i g,zba,zde,qF]
 have B:=adT (aCj T.rightP (s:=s) g) e;have G:=sJ C e;by_cases u:¬b[i].l.length<=2000;have v:=B λq=>u q.1;rotate_left
 all_goals (repeat' first|apply wZ;rfl|show Cn _;constructor|exact rfl|show(_:PV)=_;(first|(rw[e]);done|(rw[v]);done);done|apply wI;rfl|apply gE;omega|simp only[zql];omega|intro h;simp at h)
 focus(repeat'(fail))
 refine aC (X:={x:Nat//x<=b[i].l.length/\∀j<x,lnR T.rightP s[i] b[i].l j=true}) (λy=>((((((St.nil 71 st).var 2 24 (scC s)).var 3 27 (bsC b)).pv 5 (vi (i:Nat))).pv 6 (.seq (b[i].l.map Ln.z))).pv 7 (vi (y.1:Nat)))) (λy=>b[i].l.length-y.1) ⟨0,by omega,by omega⟩ ?_ λy=>?_;rotate_left;obtain⟨y,hy,m⟩:=y;dsimp only;by_cases z:b[i].l.length<=y;rotate_left;have a:y<b[i].l.length:=by omega
 obtain⟨H,I⟩:=E _ (zgm a);have A:=aA4 s[i] b[i].l[y] w H I;have e:=Iff.refl (lnR T.rightP s[i] b[i].l y=true);have c:=λh:¬lnR T.rightP s[i] b[i].l y=true=>B λq=>h (q.2 y a);by_cases h0:y=0;subst h0
 conv at e=>rhs;simp only[lnR,zep b[i].l 0 a,decide_true,Bool.true_or,Bool.and_true]
 have f:=sJ m e;rw[e]at c;rotate_left;obtain⟨k,rfl⟩:∃k,y=k+1:=⟨y-1,by omega⟩
 conv at e=>rhs;simp only[lnR,zep b[i].l (k+1) a,show k+1-1=k from rfl,zep b[i].l k (by omega),zba,zde,Bool.or_eq_true,h0,false_or]
 have f:=sJ m e;rw[e]at c;rotate_left
 all_goals (repeat' first|apply iX;intro hw;exact(show _=((0:Nat):Int)from by exact(lZ hw).elim);apply gE;omega;rfl|apply iX;intro hw;exact(show((((k+1:Nat):Int))-1=((k:Nat):Int))from by omega);apply gE;omega;rfl|((first|refine⟨⟨i+1,by omega,G ⟨by omega,λk hk=>m k (by omega)⟩⟩,?_,by simp only;omega⟩|refine⟨⟨1,by omega,f (by grind)⟩,?_,by simp only;omega⟩|refine⟨⟨k+2,by omega,f (by grind)⟩,?_,by simp only;omega⟩);focus((repeat' first|show Cn _;constructor|exact rfl);done))|apply wZ;rfl|show Cn _;constructor|exact rfl|apply KR.mk;kernel_rfl|apply A|show(_:PV)=_;rw[c (by grind)];done|apply wY;rfl|apply wI;rfl|apply gE;omega|omega|simp only[zql];omega|intro h;simp at h)
 all_goals (repeat' first|apply wZ;rfl|show Cn _;constructor|exact rfl|apply hs|intro h;simp at h;omega|intro h;simp at h)
theorem aKp(s:Sc)(hl:s.length<1000000000000)(st:aD):qc 160 [.agg (scC s)] st λr S=>∃id,r= .agg [.vec id 1 0 s.length]/\st id=none/\S=upd st id (some (.arr 108 ((List.replicate s.length ()).map yU))):=by
 refine pC func160 rfl ?_
 focus(repeat' first|apply wZ;rfl|constructor)
 refine jS 3 108 1 [] rfl rfl rfl λid a=>?_;refine aC (X:={x:Nat×Nat//x.1<=s.length/\st x.2=none}) (λi=>(((((St.nil 19 (upd st i.1.2 (some (.arr 108 ((List.replicate i.1.1 ()).map yU))))).var 1 24 (scC s)).var 2 27 ([.val (.slice none 0 0)])).var 3 27 ([.vec i.1.2 1 0 i.1.1])).pv 4 (vi (i.1.1:Nat)))) (λi=>s.length-i.1.1) ⟨(0,id),by simp,a⟩ ?_ λi=>?_
 ·dsimp only
  repeat' first|exact Cn.t0|constructor
 obtain⟨⟨i,id⟩,hi,a⟩:=i;simp only at hi a;dsimp only;have k:(List.replicate i ()).length=i:=by simp
 by_cases j:s.length<=i;obtain rfl:i=s.length:=by omega
 rotate_left;have e:List.replicate (i+1) ()=List.replicate i ()++[()]:=List.replicate_succ' ..;rotate_left
 all_goals (repeat' first|refine Cn.rr ?_;exact⟨id,rfl,a,rfl⟩;done|refine⟨⟨(i+1,g),by simp only;omega,aI c⟩,?_,?_⟩;(dsimp only;try rw[e])|exact Cn.any (aM ‹_›)|apply wZ;rfl|omega|constructor|apply apV pk (f:=yU) [()] 24;(iterate 9 rfl);exact aA _ _ _;omega;exactλ_=>rfl;exactλ_=>rfl;exact uX;(focus(simp;omega));(focus(simp;omega));rfl;intro g c|simp<;>omega|intro h;simp at h)
theorem BsS.dar(h:BsS n b)(hn:n<=1000):∀d∈b,aLd d:=λd hd=>by
 have⟨c,a⟩:=h.2 d hd
 refine⟨by omega,λl hl=>?_⟩
 have⟨e,f,g⟩:=a l hl
 grind
theorem eZ(h:BsS n b)(hn:n<=1000){s:Sc}(hs:ScB s)(hl:s.length<=20):qf 51 [.agg (scC s), .agg (bsC b)] (vb (bA T.rightP s b)):=
 atQ s b (by omega) hs (by have:=h.1;omega) (h.dar hn)
theorem axE(c:Cl)(hl:c.p.length<1000000000000):qf 329 [.agg c.z] (.agg (agB c).z):=by
 rw[aDI];refine pF func329 rfl λst=>?_
 focus(repeat' first|apply wZ;rfl|constructor)
 refine aC (X:={x:Nat//x<=c.p.length}) (λi=>(((((St.nil 32 st).var 1 92 (c.z)).var 2 46 ([vi 0,vi 0,vs e0])).var 3 46 ((aeE c.p i.1).z)).pv 4 (vi (i.1:Nat)))) (λi=>c.p.length-i.1) ⟨0,by omega⟩ ?_ λi=>?_;rotate_left;have⟨i,hi⟩:=i;dsimp only;by_cases f:c.p.length<=i;obtain rfl:i=c.p.length:=by omega
 rotate_left;have a:i<c.p.length:=by omega
 have hx:aeE c.p (i+1)=if i=0\/dF (aeE c.p i) c.p[i].val=true then c.p[i].val else aeE c.p i:=by
  show(if _ then _ else _)=_;rw[zep c.p i a]
 have e:=kK (aeE c.p i) c.p[i].val;generalize aeE c.p i=M at*;generalize dF M c.p[i].val=B at*;by_cases h0:i=0;rw[zp (.inl h0)]at hx;rotate_left;rcases B with _|_
 rw[zn (by simp[h0])]at hx;rotate_left;rw[zp (.inr rfl)]at hx
 all_goals (repeat' first|refine⟨⟨i+1,by omega⟩,?_,?_⟩;dsimp only;rw[hx]|apply wZ;rfl|apply KR.mk;kernel_rfl|omega|constructor|apply e|apply wY;rfl|apply wI;rfl|apply gE;omega|simp<;>omega|intro h;simp at h;done|intro h;simp at h;omega|intro h;simp at h)
theorem aGi(c:Cl)(hl:c.p.length<1000000000)(st:aD):qc 391 [.agg c.z] st λr S=>∃id,r= .vec id 1 0 (aeK (gC c).toArray)/\st id=none/\∃o,S=upd st id (some o):=by
 refine pC func391 rfl ?_
 focus(repeat' first|apply wZ;rfl|constructor)
 refine cL 3 3 1 rfl rfl rfl λid a=>?_;refine aC (X:={x:Nat×List Int×Nat//Found (gC c).toArray c.p.length x.1 x.2.1/\st x.2.2=none}) (λi=>(((St.nil 59 (upd st i.1.2.2 (some (.arr 3 (i.1.2.1.map I1))))).var 1 92 (c.z)).pv 3 (.vec i.1.2.2 1 0 i.1.2.1.length))) (λi=>c.p.length-i.1.1) ⟨(0,[],id),Found.zero,a⟩ ?_ λi=>?_;dsimp only;rotate_left;obtain⟨⟨p,out,id⟩,z,a⟩:=i;simp only at z a;dsimp only;have J:=z.short;have g:=z.go
 focus(repeat' first|apply wZ;rfl|constructor|simp<;>omega|intro h;simp at h)
 refine aC (X:={x:Nat//x<=c.p.length}) (λy=>((((((St.nil 59 (upd st id (some (.arr 3 (out.map I1))))).var 1 92 (c.z)).pv 3 (.vec id 1 0 out.length)).pv 4 (vb ((mnI out c.p y.1).1))).pv 5 (vi ((mnI out c.p y.1).2))).pv 6 (vi (y.1:Nat)))) (λy=>c.p.length-y.1) ⟨0,by omega⟩ ?_ λy=>?_;dsimp only;rotate_left;have⟨y,hy⟩:=y;dsimp only;by_cases F:c.p.length<=y;obtain rfl:y=c.p.length:=by omega
 generalize mnI out c.p c.p.length=M at*;have⟨m,l⟩:=M;dsimp only at*;rcases m with _|_
 have e:=g.1 rfl;rotate_left;have⟨q,hq,u⟩:=g.2 rfl;have I:=z.le;have H:=u.le;have e:(out++[l]).length=out.length+1:=by simp
 rotate_left;have C:y<c.p.length:=by omega
 have hx:mnI out c.p (y+1)=if(wM out c.p[y].val.n&&(!(mnI out c.p y).1||decide (c.p[y].val.n<(mnI out c.p y).2)))=true then(true,c.p[y].val.n)else mnI out c.p y:=by
  show(if _ then _ else _)=_;rw[zep c.p y C]
 unfold wM at hx;generalize mnI out c.p y=M at*;have⟨m,l⟩:=M;dsimp only at hx;clear g;by_cases h0:out.length=0;simp only[h0,decide_true,Bool.true_or,Bool.true_and]at hx;obtain rfl:out=[]:=List.eq_nil_of_length_eq_zero h0;rcases m with _|_
 rw[zp (by simp)]at hx;rotate_left;by_cases k:c.p[y].val.n<l;rw[zp (by simp[k])]at hx;rotate_left;rw[zn (by simp[k])]at hx;rotate_left;have w:out.length-1<out.length:=by omega
 have G:((out.length:Nat):Int)-1=((out.length-1:Nat):Int):=by omega
 have A:out[out.length-1]?.getD 0=out[out.length-1]:=by rw[zgg w];rfl
 have B:out≠[]:=λq=>h0 (by rw[q];rfl);rw[zdj h0,Bool.false_or,zep out (out.length-1) w]at hx;by_cases E:c.p[y].val.n>out[out.length-1];rw[zdt E,Bool.true_and]at hx;rcases m with _|_
 rw[zp (by simp)]at hx;rotate_left;by_cases k:c.p[y].val.n<l;rw[zp (by simp[k])]at hx;rotate_left;rw[zn (by simp[k])]at hx;rotate_left;rw[zdj E,Bool.false_and,zn (by simp)]at hx
 all_goals (repeat' first|refine⟨⟨y+1,by omega⟩,?_,?_⟩;dsimp only;rw[hx]|refine⟨⟨(q,out++[l],D),u,aI v⟩,?_,?_⟩;(dsimp only;try rw[e])|exact Cn.any (aM ‹_›)|refine Cn.rr ?_;exact⟨id,by rw[e],a,_,rfl⟩;done|apply wZ;rfl|exact Cn.t0|omega|constructor|simp<;>omega|intro h;simp at h|exact rfl|apply ixA pk;(iterate 5 rfl);rotate_left;rfl;intro hw;exact(show _=((out.length-1:Nat):Int)from by omega);intro hw;omega;rfl;exact Nat.zero_add _|apply ldA pk I1.elem;rfl;rfl;rotate_left;rfl;exact aA _ _ _;intro hw;omega;rfl|apply ldA pk I1.elem;rfl;rfl;rotate_left;rfl;exact aA _ _ _;intro hw;(focus(simp[gw]at hw;done));rfl|apply ixA pk (j:=0) (j':=0);(iterate 5 rfl);rotate_left;rfl;intro hw;exact absurd hw (by simp[gw]);intro hw;exact absurd hw (by simp[gw]);rfl;rfl|apply wI;rfl|apply gE;omega|(exfalso;rcases h.1 with q|q;exact B q;rw[A]at q;omega)|apply apV pk (f:=I1) [l] 8;(iterate 9 rfl);exact aA _ _ _;omega;exactλ_=>rfl;exactλ_=>rfl;exact mJ;(focus(simp;omega));(focus(simp;omega));rfl;intro D v)
theorem asP(c:Cl)(hl:c.p.length<1000000000):qf 331 [.agg c.z] (.agg (arN c).z):=by
 intro st;have hn:=aGi c hl st;refine pC func331 rfl ?_
 repeat' first|exact Cn.any ⟨_,_,st,rfl,zwr _,aG (zsr _) hid,rfl,rfl⟩|apply cP;rfl;apply hn;rintro _ st' (⟨id,rfl,hid,o,rfl⟩)|apply wZ;rfl|constructor|apply wY;rfl
theorem apY(c:Cl)(hl:c.p.length<=1000):qf 261 [.agg c.z] (.agg (bH c).z):=by
 have a:=axE c (by omega);have e:=awD c;have f:=asP c (by omega);have h4:=T.rshow_spec c (by omega);unfold bH;generalize agB c=A at*;generalize ahP c=B at*;generalize arN c=C at*;generalize T.showP c=D at*;refine pF func261 rfl λst=>?_
 repeat' first|apply wZ;rfl|constructor|(first|apply a|apply e|apply f|apply h4)|show(_:PV)=_;((repeat first|rw[zp ‹_›]|rw[zn ‹_›]);rfl);done|apply wY;rfl|intro h
theorem aI6(l:Ln)(hl:l.c.length<1000000000000)(hs:∀c∈l.c,c.p.length<=1000)(st:aD):qc 174 [.agg l.z] st λr S=>∃id,r= .vec id 3 0 l.c.length/\st id=none/\S=upd st id (some (.arr 46 ((l.c.map bH).map Vl.z))):=by
 refine pC func174 rfl ?_
 repeat' first|apply wZ;rfl|constructor
 refine cL 3 46 3 rfl rfl rfl λid a=>?_;refine aC (X:={x:Nat×Nat//x.1<=l.c.length/\st x.2=none}) (λi=>((((St.nil 22 (upd st i.1.2 (some (.arr 46 (((l.c.map bH).take i.1.1).map Vl.z))))).var 1 96 (l.z)).pv 3 (.vec i.1.2 3 0 i.1.1)).pv 4 (vi (i.1.1:Nat)))) (λi=>l.c.length-i.1.1) ⟨(0,id),by simp,a⟩ ?_ λi=>?_;dsimp only;rotate_left;obtain⟨⟨i,id⟩,hi,a⟩:=i;simp only at hi a;dsimp only;by_cases m:l.c.length<=i;have e:(l.c.map bH).take i=l.c.map bH:=ztl (by simp;omega);obtain rfl:i=l.c.length:=by omega
 rotate_left;have k:i<l.c.length:=by omega
 have hc:=apY l.c[i] (hs _ (zgm k));have e:(l.c.map bH).take (i+1)=(l.c.map bH).take i++[bH l.c[i]]:=by rw[zts (by simpa using k)];simp
 generalize bH l.c[i]=V at*
 all_goals (repeat' first|refine⟨⟨(i+1,j),by simp only;omega,aI g⟩,?_,?_⟩;(dsimp only;try rw[e])|exact Cn.any (aM ‹_›)|refine Cn.rr ?_;exact⟨id,rfl,a,by rw[e];rfl⟩;done|apply wZ;rfl|exact Cn.t0|omega|constructor|simp<;>omega|intro h;simp at h|exact rfl|apply hc|apply apV pk (f:=Vl.z) [V] 32;(iterate 9 rfl);exact aA _ _ _;(focus(simp;omega));exactλ_=>rfl;exactλ_=>rfl;exact arH;(focus(simp;omega));(focus(simp;omega));rfl;intro j g|apply wY;rfl|apply wI;rfl|apply gE;omega)
theorem axB(l:Ln)(hl:l.c.length<1000000000000)(hs:∀c∈l.c,c.p.length<=1000):qf 174 [.agg l.z] (.seq ((l.c.map bH).map Vl.z)):=λst=>
 eS (aI6 l hl hs _) λp st' h=>by
  obtain⟨id,rfl,a,rfl⟩:=h
  exact .inl ⟨id,46,(l.c.map _).map _,_,st,aA _ _ _,vI,dI (by simp),bN a,rfl,rfl⟩
theorem aE3(b:Bs)(k:Int)(hl:(aF b k).length<1000000000000)(hs:∀l∈aF b k,l.c.length<1000000000000/\∀c∈l.c,c.p.length<=1000)(st:aD):qc 102 [.agg (bsC b),vi k] st λr S=>∃id,r= .vec id 1 0 (aF b k).length/\st id=none/\S=upd st id (some (.arr 49 ((cO bH b k).map roC))):=by
 have ho:=iL b k;unfold cO;generalize aF b k=L at*;refine pC func102 rfl ?_
 focus(repeat' first|apply wZ;rfl|constructor|apply ho|apply wY;rfl)
 refine cL 5 49 1 rfl rfl rfl λid a=>?_;refine aC (X:={x:Nat×Nat//x.1<=L.length/\st x.2=none}) (λi=>((((St.nil 26 (upd st i.1.2 (some (.arr 49 (((L.map (aqX bH)).take i.1.1).map roC))))).pv 5 (.vec i.1.2 1 0 i.1.1)).pv 6 (.seq (L.map Ln.z))).pv 7 (vi (i.1.1:Nat)))) (λi=>L.length-i.1.1) ⟨(0,id),by simp,a⟩ ?_ λi=>?_;dsimp only;rotate_left;obtain⟨⟨i,id⟩,hi,a⟩:=i;simp only at hi a;dsimp only;by_cases o:L.length<=i;have e:(L.map (aqX bH)).take i=L.map (aqX bH):=ztl (by simp;omega);obtain rfl:i=L.length:=by omega
 rotate_left;have j:i<L.length:=by omega
 have hc:=axB L[i] (hs _ (zgm j)).1 (hs _ (zgm j)).2;have e:(L.map (aqX bH)).take (i+1)=(L.map (aqX bH)).take i++[L[i].c.map bH]:=by rw[zts (by simpa using j)];simp[aqX]
 all_goals (repeat' first|refine⟨⟨(i+1,m),by simp only;omega,aI g⟩,?_,?_⟩;(dsimp only;try rw[e])|exact Cn.any (aM ‹_›)|refine Cn.rr ?_;exact⟨id,rfl,a,by rw[e];rfl⟩;done|apply wZ;rfl|exact Cn.t0|omega|constructor|simp<;>omega|intro h;simp at h|exact rfl|apply hc|apply apV pk (f:=roC) [L[i].c.map bH] 24;(iterate 9 rfl);exact aA _ _ _;(focus(simp;omega));exactλ_=>rfl;exactλ_=>rfl;exact aBl;(focus(simp;omega));(focus(simp;omega));rfl;intro m g|apply wY;rfl|apply wI;rfl|apply gE;omega)
theorem vZ(hb:BsS n b)(hn:n<=1000)(k:Int):qf 102 [.agg (bsC b),vi k] (.seq ((cO bH b k).map roC)):=λst=>
 eS (aE3 b k (by have:=(hb.l k).1;omega) (λl hl=>by
  have:=(hb.l k).2 l hl
  exact⟨by have:=this.2.1;omega,this.2.2⟩) _) λp st' h=>by
  obtain⟨id,rfl,a,rfl⟩:=h
  exact .inl ⟨id,49,(cO _ b k).map _,_,st,aA _ _ _,asC,dI (by simp[cO]),bN a,rfl,rfl⟩
end Go.Proofs.YtigmnfepdlbcpaaGreatDoor
namespace Go.Proofs.YtigmnfepdlbcpaaGreatDoor.X
open Go Go.Abs Tryz
variable{e x:Ex}{i l:Nat}{a b k n:Int}{α:Type}{v:Vl}{row:List Vl}{g:Bool}
section
attribute [local irreducible] Ev PWp
def Ex.lit(e:Ex):List PV:=[vi e.k,vi e.n,vi e.v.k,vi e.v.n,vs e.v.s, .seq (Ex.rows e.of)]
theorem Ex.lit_eq(e:Ex):e.lit=e.z:=by cases e;rfl
theorem Ex.ok'(h:e.ok):e.of.length<2^62/\Ex.oks e.of:=by cases e;simpa
theorem Ex.rows_at{l:List Ex}(h:i<l.length):(Ex.rows l)[i]?=some (l[i]'h).lit:=by rw[Ex.lit_eq];exact Ex.rows_get (by simp)
attribute [local simp] Vl.eta Ex.rows_len vK alC
theorem avF{b:ByteArray}:qf 392 [.agg [vi k,vi n,vs b]] (vb (rightV ⟨k,n,b⟩)):=by
 refine pF func392 rfl λst=>?_
 repeat' first|apply wZ;rfl|constructor|show(_:PV)=_;simp_all[rightV];done|intro h
def jY(k a b:Int):Bool:=if k=2\/k=3\/k=4\/k=7\/k=8\/k=9 then(decide (a=0)||decide (a=1))&&(decide (b=0)||decide (b=1))else if k=5\/k=6 then decide (a=b)||decide (a=0)||decide (b=0)else true
theorem aaY{k a b:Int}:qf 386 [vi k,vi a,vi b] (vb (jY k a b)):=by
 refine pF func386 rfl λst=>?_
 repeat' first|apply wZ;rfl|omega|constructor|show(_:PV)=_;simp_all[jY];done|intro h
def iE :Nat->Ex->Int
 |0,_=>1
 |l+1,e=>e.of.foldl (λn x=>max n (1+iE l x)) 1
theorem ahL(f:Int->Ex->Int)(B:Int)(hf:∀n x,n<=B->f n x<=B):∀(l:List Ex)(n:Int),n<=B->l.foldl f n<=B
 |[],n,h=>h
 |x::l,n,h=>ahL f B hf l _ (hf n x h)
theorem ajC(f:Int->Ex->Int)(hf:∀n x,n<=f n x):∀(l:List Ex)(n:Int),n<=l.foldl f n
 |[],n=>Int.le_refl _
 |x::l,n=>Int.le_trans (hf n x) (ajC f hf l _)
theorem pW :∀(l:Nat)(e:Ex),iE l e<=l+1/\1<=iE l e
 |0,_=>by simp[iE]
 |l+1,e=>by
  refine⟨ahL _ _ (λn x h=>?_) _ _ (by omega),ajC _ (λn x=>by omega) _ _⟩
  have:=(pW l x).1
  omega
theorem ahQ(l:Nat)(hl:∀x,(iE l x=l+1)↔eY l x=true):∀(os:List Ex)(n:Int),n<=l+2->(os.foldl (λn x=>max n (1+iE l x)) n=l+2↔(n=l+2\/os.any (eY l)=true))
 |[],n,_=>by simp
 |x::os,n,h=>by
  have a:=pW l x
  rw[List.foldl_cons,ahQ l hl _ _ (by omega),List.any_cons,Bool.or_eq_true,<-hl x]
  grind
theorem agC :∀(l:Nat)(e:Ex),(iE l e=l+1)↔eY l e=true
 |0,_=>by simp[iE,eY]
 |l+1,e=>by
  simp only[iE,eY]
  have:=ahQ l (agC l) e.of 1 (by omega)
  grind
def sV(l:Nat)(of:List Ex)(i:Nat):Int:=(of.take i).foldl (λn x=>max n (1+iE l x)) 1
theorem arO(l:Nat){of:List Ex}(h:of[i]?=some x):sV l of (i+1)=max (sV l of i) (1+iE l x):=by
 unfold sV;have hl:i<of.length:=(zge.1 h).1;rw[zts hl,List.foldl_append];have:of[i]=x:=(zge.1 h).2;simp[this]
theorem aEx(l:Nat)(of:List Ex)(i:Nat):sV l of i<=l+2/\1<=sV l of i:=by
 exact⟨ahL _ _ (λn x h=>by have:=(pW l x).1;omega) _ _ (by omega),ajC _ (λn x=>by omega) _ _⟩
theorem Ex.oks_at{l:List Ex}(h:Ex.oks l)(hi:i<l.length):(l[i]'hi).ok:=Ex.oks_mem h (zgm _)
theorem azY{l:List α}(hi:i<l.length):l[i]?=some (l[i]'hi):=by simp
theorem agW :∀(left:Nat)(e:Ex)(z:Int),z=(left:Nat)->left<=1000->e.ok->qf 333 [.agg e.lit,vi z] (vi (iE left e))
 |left,e,z,hz,hl,c=>by
  have c:=Ex.ok' c
  have f:∀(l:Nat)(i:Nat)(hi:i<e.of.length)(z:Int),left=l+1->z=(l:Nat)->qf 333 [.agg (e.of[i]'hi).lit,vi z] (vi (iE l (e.of[i]'hi))):=λl i hi z g hz=>agW l _ z hz (by omega) (Ex.oks_at c.2 hi)
  refine pF func333 rfl λst=>?_
  repeat' first|apply wZ;rfl|constructor
  refine aC (X:={i:Nat//i<=e.of.length/\(left=0->i=0)}) (λi=>(((((St.nil 30 st).pv 1 (vi z)).var 2 80 (e.lit)).pv 5 (vi (sV (left-1) e.of i.1))).pv 6 (vi (i.1:Nat)))) (λi=>e.of.length-i.1) ⟨0,by omega,by omega⟩ ?_ λi=>?_
  ·repeat' first|constructor
  have⟨i,hi,h0⟩:=i
  dsimp only
  have j:=aEx (left-1) e.of i
  rcases Nat.lt_or_ge i e.of.length with a|a
  ·have k:=arO (left-1) (azY a)
   have h4:=pW (left-1) (e.of[i]'a);have f:=λz=>f (left-1) i a z
   repeat' first|refine⟨⟨i+1,by omega,by omega⟩,?_,?_⟩|apply wZ;rfl|omega|constructor|apply cR pk;(iterate 6 rfl);rotate_left;rfl;intro hw;rfl;(intro hw;apply Ex.rows_at<;>omega);intro _;rfl;rfl|apply f<;>(omega)|show(_:PV)=_;(rcases left with _|left)<;>simp_all[iE,sV]<;>omega;done|apply wY;rfl|simp<;>omega|intro h;simp at h
  ·repeat' first|apply wZ;rfl|constructor|show(_:PV)=_;(rcases left with _|left)<;>simp_all[iE,sV,ztl];done|intro h;simp at h;omega|intro h;simp at h
theorem yI(h:eY (l+1) e=false)(hi:i<e.of.length):eY l (e.of[i]'hi)=false:=by
 simp only[eY]at h
 grind
theorem rH(e:Ex):bE e=(fG e.k e.n e.v e.of.length&&(decide (e.k=0)||decide (e.k=1)||e.of.all bE)):=by
 cases e;rw[bE,mQ];rfl
theorem amA(m:Int)(e:Ex):dS m e=((!decide (e.k=0)||decide (e.n<m))&&e.of.all (dS m)):=by
 cases e;rw[dS,oG];rfl
theorem asZ{l:List α}{p:α->Bool}(h:i<l.length):(l.drop i).all p=(p (l[i]'h)&&(l.drop (i+1)).all p):=by
 rw[List.drop_eq_getElem_cons h,List.all_cons]
theorem mR :∀(l:Nat)(e:Ex)(z:Int),z=(l:Nat)->l<=1000->eY l e=false->e.ok->qf 334 [.agg e.lit,vi z] (vb (bE e))
 |0,e,z,_,_,hd,_=>by simp[eY]at hd
 |l+1,e,z,hz,hl,hd,f=>by
  have f:=Ex.ok' f
  have m:∀(i:Nat)(hi:i<e.of.length)(z:Int),z=(l:Nat)->qf 334 [.agg (e.of[i]'hi).lit,vi z] (vb (bE (e.of[i]'hi))):=λi hi z hz=>mR l _ z hz (by omega) (yI hd hi) (Ex.oks_at f.2 hi)
  rw[rH]
  refine pF func334 rfl λst=>?_
  apply wO pk;rfl;exact All.nil;exact All.nil
  refine jE rfl (λh0=>?_) λh0=>?_
  ·repeat' first|apply wZ;rfl|constructor|show(_:PV)=_;simp_all[fG,vz];done
  apply wC pk;rfl;rfl;exact All.nil;exact All.nil
  refine jE rfl (λj=>?_) λj=>?_
  ·simp at h0 j
   repeat' first|apply wZ;rfl|constructor|apply avF|show(_:PV)=_;simp_all[fG,vz];grind;done|apply wY;rfl
  simp at h0 j
  by_cases hk:2<=e.k/\e.k<=10
  case neg=>(repeat' first|apply wZ;rfl|omega|constructor|show(_:PV)=_;simp_all[fG];omega;done|intro h)
  refine aM9 0 ((((St.nil 93 st).pv 1 (vi z)).var 2 80 (e.lit)).pv 5 (vi (dZ e.k))) rfl ?_ ?_
  ·repeat' first|refine Cn.ok (c:= .s _ _) ?_|apply wZ;rfl|omega|constructor|simp_all[dZ];done|intro h
  repeat' first|apply wZ;rfl|constructor|intro h;simp at h
  ·simp only[fG,zn h0,zn j];simp_all[vz,eY];grind
  refine aC (X:={i:Nat//i<=e.of.length/\e.of.all bE=(e.of.drop i).all bE}) (λi=>((((St.nil 93 st).pv 1 (vi z)).var 2 80 (e.lit)).pv 7 (vi (i.1:Nat)))) (λi=>e.of.length-i.1) ⟨0,by omega,by simp⟩ ?_ λi=>?_
  ·repeat' first|constructor
  have⟨i,hi,g⟩:=i
  dsimp only
  rcases Nat.lt_or_ge i e.of.length with a|a
  ·rw[asZ a]at g
   have m:=λz=>m i a z
   repeat' first|refine⟨⟨i+1,by omega,by simp_all⟩,?_,?_⟩|apply wZ;rfl|omega|constructor|apply cR pk;(iterate 6 rfl);rotate_left;rfl;intro hw;rfl;(intro hw;apply Ex.rows_at<;>omega);intro _;rfl;rfl|apply m<;>(omega)|show(_:PV)=_;simp_all[fG,dZ];done|apply wY;rfl|simp<;>omega|intro h;simp at h;omega|intro h;simp at h|intro h
  ·repeat' first|apply wZ;rfl|constructor|show(_:PV)=_;simp_all[fG,dZ,vz,List.drop_eq_nil_of_le];done|intro h;simp at h;omega|intro h;simp at h
theorem wR(m:Int):∀(l:Nat)(e:Ex)(z:Int),z=(l:Nat)->l<=1000->eY l e=false->e.ok->qf 321 [.agg e.lit,vi m,vi z] (vb (dS m e))
 |0,e,z,_,_,hd,_=>by simp[eY]at hd
 |l+1,e,z,hz,hl,hd,c=>by
  have c:=Ex.ok' c
  have g:∀(i:Nat)(hi:i<e.of.length)(z:Int),z=(l:Nat)->qf 321 [.agg (e.of[i]'hi).lit,vi m,vi z] (vb (dS m (e.of[i]'hi))):=λi hi z hz=>wR m l _ z hz (by omega) (yI hd hi) (Ex.oks_at c.2 hi)
  rw[amA]
  refine pF func321 rfl λst=>?_
  repeat' first|apply wZ;rfl|constructor|show(_:PV)=_;simp_all;omega;done|intro h;simp at h
  refine aC (X:={i:Nat//i<=e.of.length/\e.of.all (dS m)=(e.of.drop i).all (dS m)}) (λi=>(((((St.nil 40 st).pv 1 (vi m)).pv 2 (vi z)).var 3 80 (e.lit)).pv 7 (vi (i.1:Nat)))) (λi=>e.of.length-i.1) ⟨0,by omega,by simp⟩ ?_ λi=>?_
  ·repeat' first|constructor
  have⟨i,hi,f⟩:=i
  dsimp only
  rcases Nat.lt_or_ge i e.of.length with a|a
  ·rw[asZ a]at f
   have g:=λz=>g i a z
   repeat' first|refine⟨⟨i+1,by omega,by simp_all⟩,?_,?_⟩|apply wZ;rfl|omega|constructor|apply cR pk;(iterate 6 rfl);rotate_left;rfl;intro hw;rfl;(intro hw;apply Ex.rows_at<;>omega);intro _;rfl;rfl|apply g<;>(omega)|show(_:PV)=_;simp_all;done|apply wY;rfl|simp<;>omega|intro h;simp at h;omega|intro h;simp at h|intro h
  ·repeat' first|apply wZ;rfl|constructor|show(_:PV)=_;simp_all[List.drop_eq_nil_of_le];omega;done|intro h;simp at h;omega|intro h;simp at h
theorem pK(a:e.ok):qf 262 [.agg e.lit] (vi (oD e)):=by
 have g:=agW 20 e 20 rfl (by omega) a;have c:=mR 20 e 20 rfl (by omega);have f:=agC 20 e;have h4:=pW 20 e;rcases hd:eY 20 e with _|_<;>rw[hd]at f<;>simp at f
 have c:=c hd a;rotate_left
 all_goals (refine pF func262 rfl λst=>?_;repeat'(first|apply wZ;rfl|omega|constructor|apply g|apply c|show(_:PV)=_;simp_all[oD];(try omega);done|apply wY;rfl|intro h;simp at h|intro h))
def abJ(k:Int)(n:Nat)(a c:Int×Int):Int×Int:=if a.2≠0 then(0,a.2)else if n>1 then(if c.2≠0 then(0,c.2)else if jY k a.1 c.1 then(1,0)else(0,6))else if jY k a.1 0 then(1,0)else(0,6)
theorem alT{l:List Int}(hf:bE e=true)(h0:¬e.k=0)(f:¬e.k=1)(h:0<e.of.length)(d:Int×Int):bD l e=abJ e.k e.of.length (bD l (e.of[0]'h)) (if j:1<e.of.length then bD l (e.of[1]'(j))else d):=by
 have⟨k,n,v,of⟩:=e;rw[rH]at hf;simp only[Ex.k,Ex.n,Ex.v,Ex.of]at*;have hl:of.length=(dZ k).toNat/\2<=k/\k<=10:=by simp_all[fG];omega
 rcases of with _|⟨x,_|⟨y,_|⟨w,of⟩⟩⟩
 ·exact absurd h (Nat.lt_irrefl _)
 ·have hk:k=9\/k=10:=by simp[dZ]at hl;omega
  simp only[bD,gK,zn h0,zn f,abJ];by_cases hx:(bD l x).2=0<;>simp[hx,pE,jY,jM]<;>rcases hk with rfl|rfl<;>simp<;>grind
 ·have hk:k=2\/k=3\/k=4\/k=5\/k=6\/k=7\/k=8:=by simp[dZ]at hl;omega
  show bD l (.mk k n v [x,y])=abJ k 2 (bD l x) (bD l y);clear hf h hl;simp only[bD,gK,zn h0,zn f,abJ];generalize bD l x=a;generalize bD l y=c;have⟨a,g⟩:=a;have⟨c,i⟩:=c;by_cases hx:g=0<;>by_cases hy:i=0<;>simp[hx,hy];have m:pE (jM k) 0 [a,c]=jY k a c:=by
   rw[zbi];simp only[pE,jY,jM];rcases hk with rfl|rfl|rfl|rfl|rfl|rfl|rfl<;>simp<;>by_cases ha:a=0<;>simp[ha]<;>omega
  rw[m]
 ·simp[dZ]at hl;split at hl<;>omega
theorem azU{l:List Int}(h:e.k=0):bD l e=(l.getD e.n.toNat 0,0):=by
 cases e;simp only[Ex.k]at h;rw[bD,zp h];rfl
theorem aAc{l:List Int}(h0:¬e.k=0)(h:e.k=1):bD l e=(e.v.k,0):=by
 cases e;simp only[Ex.k]at h h0;rw[bD,zn h0,zp h];rfl
theorem aG0{l:List Int}(h:i<l.length):(iN l)[i]?=some [vi (l[i]'h)]:=aaS (by simp)
theorem aG4{l:List Vl}(h:i<l.length):(aiQ l)[i]?=some (l[i]'h).z:=by simp[aiQ,h]
theorem acX(t:List Int):∀(l:Nat)(e:Ex)(z:Int),z=(l:Nat)->l<=1000->eY l e=false->bE e=true->dS t.length e=true->e.ok->qf 322 [.agg e.lit, .seq (iN t),vi z] (.tup [vi ((bD t e).1),vi ((bD t e).2)])
 |0,e,z,_,_,hd,_,_,_=>by simp[eY]at hd
 |l+1,e,z,hz,hl,hd,hf,ht,f=>by
  have f:=Ex.ok' f
  have o:=hf
  have q:=ht
  rw[rH]at o
  rw[amA]at q
  have j:∀(i:Nat)(hi:i<e.of.length)(z:Int),z=(l:Nat)->¬e.k=0->¬e.k=1->qf 322 [.agg (e.of[i]'hi).lit, .seq (iN t),vi z] (.tup [vi ((bD t (e.of[i]'hi)).1),vi ((bD t (e.of[i]'hi)).2)]):=λi hi z hz h0 c=>acX t l _ z hz (by omega) (yI hd hi) (by simp_all) (by simp_all) (Ex.oks_at f.2 hi)
  refine pF func322 rfl λst=>?_
  by_cases h0:e.k=0
  ·have m:0<=e.n/\e.n<t.length:=by simp_all[fG]
   rw[azU h0];have g:e.n.toNat<t.length:=by omega
   have p:t.getD e.n.toNat 0=t[e.n.toNat]:=by simp[List.getD,g]
   have hg:=aG0 g;rw[p]
   repeat' first|apply wZ;rfl|omega|constructor|apply cR pk;(iterate 6 rfl);rotate_left;rfl;intro hw;exact(Int.toNat_of_nonneg (by omega)).symm;(intro hw;apply hg<;>omega);intro _;rfl;rfl|intro h
  by_cases c:e.k=1
  ·rw[aAc h0 c]
   repeat' first|apply wZ;rfl|omega|constructor|intro h
  have m:e.of.length=(dZ e.k).toNat:=by simp_all[fG];omega
  have a:e.of.length=1\/e.of.length=2:=by simp only[m,dZ];split<;>simp
  clear m
  rcases a with a|a
  ·rw[alT hf h0 c (by omega) (0,0),dif_neg (by omega)]
   simp only[abJ,a];have j:=λz hz=>j 0 (by omega) z hz h0 c
   repeat' first|apply wZ;rfl|omega|constructor|apply cR pk;(iterate 6 rfl);rotate_left;rfl;intro hw;rfl;(intro hw;apply Ex.rows_at<;>omega);intro _;rfl;rfl|((first|apply j|apply aaY)<;>(omega))|show(_:PV)=_;simp_all;done|apply wY;rfl|intro h;simp at h;omega|intro h;simp at h|intro h
  ·rw[alT hf h0 c (by omega) (0,0),dif_pos (by omega)]
   simp only[abJ,a];have u:=λz hz=>j 0 (by omega) z hz h0 c;have v:=λz hz=>j 1 (by omega) z hz h0 c
   repeat' first|apply wZ;rfl|omega|constructor|apply cR pk;(iterate 6 rfl);rotate_left;rfl;intro hw;rfl;(intro hw;apply Ex.rows_at<;>omega);intro _;rfl;rfl|((first|apply u|apply v|apply aaY)<;>(omega))|show(_:PV)=_;simp_all;done|apply wY;rfl|intro h;simp at h;omega|intro h;simp at h|intro h
theorem avU(c:Co):qf 243 [.agg c.z] (vi (bW c)):=by
 unfold bW;refine pF func243 rfl λst=>?_
 repeat' first|apply wZ;rfl|omega|constructor|show(_:PV)=_;simp[*];done;done|intro h
theorem rtype_spec(a:e.ok){l:List Int}(hl:l.length<2^62):qf 244 [.agg e.lit, .seq (iN l)] (.tup [vi ((gP e l).1),vi ((gP e l).2)]):=by
 have g:=pK a;have c:=λh=>wR ((l.length:Nat):Int) 20 e 20 rfl (by omega) h a;have f:oD e=0->dS l.length e=true->_:=λhm ht=>acX l 20 e 20 rfl (by omega) (kH hm).1 (kH hm).2 ht a;rw[<-vK]at c;have h4:=@kH e;by_cases hm:oD e=0;have c:=c (h4 hm).1;have f:=f hm;rotate_left
 all_goals (refine pF func244 rfl λst=>?_;repeat'(first|apply wZ;rfl|omega|constructor|apply g|((first|apply c|apply f)<;>(assumption))|show(_:PV)=_;simp_all[gP];done|apply wY;rfl|intro h;simp at h|intro h))
theorem rright_spec(m:e.ok)(cols:List Co)(hl:cols.length<10000000000):qf 156 [.agg e.lit, .seq (cols.map Co.z)] (vi (RightR e (cols.map bW))):=by
 have hT:=rtype_spec m (l:=cols.map bW) (by rw[zql];omega);have c:RightR e (cols.map bW)=if(gP e (cols.map bW)).2=0 then(if(gP e (cols.map bW)).1=2 then 6 else 0)else(gP e (cols.map bW)).2:=rfl
 generalize gP e (cols.map bW)=T at*;generalize RightR e (cols.map bW)=R at*;unfold iN at hT;obtain⟨q,T2⟩:=T;dsimp only at*;refine pF func156 rfl λst=>?_
 focus(repeat' first|apply wZ;rfl|show Cn _;constructor)
 refine yQ 5 3 rfl rfl λid a=>?_;have a:st id=none:=a;refine aC (X:={x:Nat×Nat//x.1<=cols.length/\st x.2=none}) (λi=>(((((St.nil 34 (upd st i.1.2 (some (.tok 3)))).pv 1 (.seq (cols.map Co.z))).var 2 80 (e.lit)).pv 5 (.own i.1.2 (((cols.take i.1.1).map bW).map I1))).pv 6 (vi (i.1.1:Nat)))) (λi=>cols.length-i.1.1) ⟨(0,id),by simp,a⟩ ?_ λi=>?_;rotate_left;obtain⟨⟨i,id⟩,hi,a⟩:=i;simp only at hi a;dsimp only;by_cases f:cols.length<=i;rw[ztl f];by_cases h0:T2=0<;>by_cases p:q=2;rw[zp h0,zp p]at c;subst c;rotate_left;rw[zp h0,zn p]at c;subst c;subst h0;rotate_left;rw[zn h0]at c;subst c;rotate_left;rw[zn h0]at c;subst c;rotate_left;have k:i<cols.length:=by omega
 have hs:=avU cols[i];have j:((cols.take (i+1)).map bW).map I1=((cols.take i).map bW).map I1++[I1 (bW cols[i])]:=by rw[zts k,zmd,zmd];rfl
 have u:((cols.take i).map bW).length<=i:=by rw[zql];exact List.length_take_le ..
 generalize bW cols[i]=K at*
 all_goals (repeat' first|refine⟨⟨(i+1,o),by simp only;omega,gM g⟩,?_,?_⟩;dsimp only;rw[j]|exact Cn.any (aM ‹_›)|apply cV;focus((apply hT);done)|refine Cn.any ?_;refine⟨_,_,_,rfl,zwr _,eE ‹_›,?_,rfl⟩;rfl|apply wZ;rfl|exact Cn.t0|show Cn _;constructor|apply wY;rfl|omega|simp<;>omega|intro h;simp at h|intro h|exact rfl|apply hs|show _=_;simp[I1];done|apply apS pk (K) 8;(iterate 8 rfl);exact aA _ _ _;exactλ_=>rfl;exactλ_=>rfl;exact mJ;omega;omega;rfl;intro o g|apply wI;rfl|apply gE;omega)
end
section
attribute [local irreducible] Ev PWp
def inM(n:Int):Prop:= -1099511627776<=n/\n<=1099511627776
theorem iD(a: -9223372036854775808<=n)(c:n<=9223372036854775807):IntKind.wrap .i64 n=n:=atG ⟨a,c⟩
theorem aGL(ha:inM a)(hb:inM b):sF (· + ·) a b=(decide (a+b>1099511627776)||decide (a+b< -1099511627776)):=by
 unfold inM at ha hb;unfold sF aDU;simp only;rw[iD (by simp) (by simp),iD (by omega) (by omega)];simp
theorem aGu(ha:inM a)(hb:inM b):sF (· - ·) a b=(decide (a-b>1099511627776)||decide (a-b< -1099511627776)):=by
 unfold inM at ha hb;unfold sF aDU;simp;rw[iD (by simp) (by simp),iD (by omega) (by omega)];simp
theorem aeP{x:Int}(hx:0<x):(b>1099511627776/x\/b< -(1099511627776/x))↔(x*b>1099511627776\/x*b< -1099511627776):=by
 have a:b<=1099511627776/x↔b*x<=1099511627776:=Int.le_ediv_iff_mul_le hx;have c: -b<=1099511627776/x↔ -b*x<=1099511627776:=Int.le_ediv_iff_mul_le hx
 grind
theorem aJe(a b:Int):(max a (0-a))*(max b (0-b))=a*b\/(max a (0-a))*(max b (0-b))= -(a*b):=by grind
theorem aGj:sF (· * ·) a b=(decide (a*b>1099511627776)||decide (a*b< -1099511627776)):=by
 have c:=aJe a b;unfold sF aDU;simp only;rw[iD (n:=1*1) (by omega) (by omega)];generalize j:max a (0-a)=A at*;generalize hB:max b (0-b)=B at*;have f:0<=A:=by omega
 have g:0<=B:=by omega
 have i:0<=A*B:=Int.mul_nonneg f g;by_cases hb:B>0
 ·have hl:A<=1099511627776/B↔A*B<=1099511627776:=Int.le_ediv_iff_mul_le hb
  by_cases ho:A*B>1099511627776
  ·grind
  ·have h:¬A>1099511627776/B:=by omega
   have e:IntKind.wrap .i64 (a*b)=a*b:=iD (by omega) (by omega);rw[zdj h,Bool.and_false,Bool.false_or];show(decide (IntKind.wrap .i64 (a*b)>1099511627776)||decide (IntKind.wrap .i64 (a*b)< -1099511627776))=_;rw[e]
 ·have h0:B=0:=by omega
  have h:a*b=0:=by rw[h0]at c;simp at c;omega
  have e:IntKind.wrap .i64 (a*b)=a*b:=iD (by omega) (by omega);rw[zdj hb,Bool.and_false,Bool.false_and,Bool.false_and,Bool.false_or];show(decide (IntKind.wrap .i64 (a*b)>1099511627776)||decide (IntKind.wrap .i64 (a*b)< -1099511627776))=_;rw[e]
theorem tdiv_neg{x:Int}(hx:0<x):Int.tdiv 1099511627776 (-x)= -(1099511627776/x):=by
 rw[Int.tdiv_neg,Int.tdiv_eq_ediv_of_nonneg (by simp)]
def wK(k a b:Int):Bool:=if k=2 then decide (a+b>1099511627776)||decide (a+b< -1099511627776)else if k=3 then decide (a-b>1099511627776)||decide (a-b< -1099511627776)else decide (a*b>1099511627776)||decide (a*b< -1099511627776)
def opQ(k a b:Int):Int:=if k=2 then a+b else if k=3 then a-b else a*b
theorem aBb(ha:inM a)(hb:inM b):qf 394 [vi k,vi a,vi b] (fS (if wK k a b=true then(v0,20)else(vN (opQ k a b),0))):=by
 unfold inM at ha hb;have⟨p,u⟩:=ha;have⟨b1,b2⟩:=hb;by_cases j:k=2;subst j;have e:wK 2 a b=(decide (a+b>1099511627776)||decide (a+b< -1099511627776)):=rfl;have i:opQ 2 a b=a+b:=rfl;rw[e,i];by_cases ho:a+b>1099511627776\/a+b< -1099511627776;rw[zp (by simpa using ho)];refine pF func394 rfl λst=>?_;rotate_left;rw[zn (by simpa using ho)];refine pF func394 rfl λst=>?_;rotate_left;by_cases m:k=3;subst m;have e:wK 3 a b=(decide (a-b>1099511627776)||decide (a-b< -1099511627776)):=rfl;have i:opQ 3 a b=a-b:=rfl;rw[e,i];by_cases ho:a-b>1099511627776\/a-b< -1099511627776;rw[zp (by simpa using ho)];refine pF func394 rfl λst=>?_;rotate_left;rw[zn (by simpa using ho)];refine pF func394 rfl λst=>?_;rotate_left;have e:wK k a b=(decide (a*b>1099511627776)||decide (a*b< -1099511627776)):=by unfold wK;rw[zn j,zn m]
 have i:opQ k a b=a*b:=by unfold opQ;rw[zn j,zn m]
 rw[e,i];clear e i;by_cases ho:a*b>1099511627776\/a*b< -1099511627776;rw[zp (by simpa using ho)];rcases Int.lt_trichotomy a 0 with h0|h0|h0
 obtain⟨x,rfl⟩:∃x,a= -x:=⟨-a,by omega⟩;have hx:0<x:=by omega
 have hd:=tdiv_neg hx;have g:=aeP (b:=b) hx;rw[Int.neg_mul]at ho;have f:=g.2 (by omega);have hp:1<=1099511627776/x:=(Int.le_ediv_iff_mul_le hx).2 (by omega);have hq:1099511627776/x<=1099511627776:=Int.ediv_le_self _ (by omega);generalize 1099511627776/x=D at*;refine pF func394 rfl λst=>?_
 ((apply aGv pk 50);rfl;(focus repeat' constructor);(focus repeat'(exact All.nil)))
 refine jE rfl (λh=>by simp at h;omega) λh=>?_
 ((apply gon pk 50);rfl;(focus repeat' constructor);(focus repeat'(exact All.nil)))
 refine jE rfl (λh=>by simp at h;omega) λh=>?_
 ((apply gon pk 50);rfl;(focus repeat' constructor);(focus repeat'(exact All.nil)))
 refine jE rfl (λh=>?_) λh=>by simp at h;omega
 ((apply gon pk 1);rfl;(focus repeat' constructor);(focus repeat'(exact All.nil)))
 refine iG ?_
 apply jL aT;iterate 4 rfl
 apply aIl (c:= -D);rfl;rfl;omega;rw[hd];exact iD (by omega) (by omega);rfl;rfl;rfl
 apply jL aT;iterate 4 rfl
 refine rU ?_;rotate_left
 ·subst h0
  simp at ho
 have f:=(aeP (b:=b) h0).2 ho;have hp:0<=1099511627776/a:=Int.ediv_nonneg (by omega) (by omega);have hq:1099511627776/a<=1099511627776:=Int.ediv_le_self _ (by omega);refine pF func394 rfl λst=>?_;rotate_left;rw[zn (by simpa using ho)];rcases Int.lt_trichotomy a 0 with h0|h0|h0
 obtain⟨x,rfl⟩:∃x,a= -x:=⟨-a,by omega⟩;have hx:0<x:=by omega
 have hd:=tdiv_neg hx;have g:=aeP (b:=b) hx;rw[Int.neg_mul]at ho;have f:¬(b>1099511627776/x\/b< -(1099511627776/x)):=λq=>by have:=g.1 q;omega
 have hp:1<=1099511627776/x:=(Int.le_ediv_iff_mul_le hx).2 (by omega);have hq:1099511627776/x<=1099511627776:=Int.ediv_le_self _ (by omega);have o: -x*b= -(x*b):=Int.neg_mul ..;generalize 1099511627776/x=D at*;refine pF func394 rfl λst=>?_
 ((apply aGv pk 50);rfl;(focus repeat' constructor);(focus repeat'(exact All.nil)))
 refine jE rfl (λh=>by simp at h;omega) λh=>?_
 ((apply gon pk 50);rfl;(focus repeat' constructor);(focus repeat'(exact All.nil)))
 refine jE rfl (λh=>by simp at h;omega) λh=>?_
 ((apply gon pk 50);rfl;(focus repeat' constructor);(focus repeat'(exact All.nil)))
 refine jE rfl (λh=>?_) λh=>by simp at h;omega
 ((apply gon pk 1);rfl;(focus repeat' constructor);(focus repeat'(exact All.nil)))
 refine iG ?_
 apply jL aT;iterate 4 rfl
 apply aIl (c:= -D);rfl;rfl;omega;rw[hd];exact iD (by omega) (by omega);rfl;rfl;rfl
 apply jL aT;iterate 4 rfl
 refine rU ?_;rotate_left;subst h0;have hz:(0:Int)*b=0:=Int.zero_mul b;refine pF func394 rfl λst=>?_;rotate_left;have f:¬(b>1099511627776/a\/b< -(1099511627776/a)):=λq=>ho ((aeP h0).1 q);have hp:0<=1099511627776/a:=Int.ediv_nonneg (by omega) (by omega);have hq:1099511627776/a<=1099511627776:=Int.ediv_le_self _ (by omega);refine pF func394 rfl λst=>?_
 all_goals (repeat' first|apply wZ;rfl|omega|constructor|intro h;simp at h;done|intro h;simp at h;omega|intro h;simp at h|intro h)
theorem atO{x:Bool}:qf 393 [vb x] (.agg [vi 1,vi (if x then 1 else 0),vs e0]):=by
 refine pF func393 rfl λst=>?_
 repeat' first|apply wZ;rfl|constructor|show(_:PV)=_;simp[*];done;done|intro h
theorem aaW(h:rightV v=true):inM v.n:=by
 unfold rightV at h;unfold inM;split at h
 ·simp at h;omega
 ·split at h
  ·simp at h;omega
  ·split at h
   ·simp at h;omega
   ·cases h
def isZ(v:Vl):Bool:=decide (v.k=1)&&decide (v.n=0)
def isO(v:Vl):Bool:=decide (v.k=1)&& !decide (v.n=0)
def pO(k:Int)(a b:Vl):Vl×Int:=
 if jY k a.k b.k=false then(v0,6)else if k=10 then(fL (decide (a.k=0)),0)else if k=7/\(isZ a||isZ b)=true then(fL false,0)else if k=8/\(isO a||isO b)=true then(fL true,0)
 else if(decide (a.k=0)||decide (b.k=0))=true then(v0,0)else if k=2\/k=3\/k=4 then(if wK k a.n b.n=true then(v0,20)else(vN (opQ k a.n b.n),0))
 else if k=5 then(fL (eqV a b),0)else if k=6 then(if a.k=2 then(fL (ajV a.s b.s),0)else(fL (decide (a.n<b.n)),0))else if k=7 then(fL true,0)else if k=8 then(fL false,0)else(fL (decide (a.n=0)),0)
theorem aiM(a b:Vl)(e:2<=k)(f:k<=10)(ha:inM a.n)(hb:inM b.n):qf 335 [vi k, .agg a.z, .agg b.z] (fS (pO k a b)):=by
 have hg:=@aaY k a.k b.k;have c:=λk' (_:k'=k)=>aBb (k:=k) ha hb;have c:=c k rfl;have hk:k=2\/k=3\/k=4\/k=5\/k=6\/k=7\/k=8\/k=9\/k=10:=by omega
 have hd:pO k a b=pO k a b:=rfl
 conv at hd=>rhs;unfold pO isZ isO eqV fL
 generalize pO k a b=R at*;generalize jY k a.k b.k=G at*;generalize(if wK k a.n b.n=true then(v0,(20:Int))else(vN (opQ k a.n b.n),0))=Q at*;obtain⟨⟨g,i,j⟩,m⟩:=Q;unfold fS at c;dsimp only at c;rcases hk with rfl|rfl|rfl|rfl|rfl|rfl|rfl|rfl|rfl
 all_goals simp only[Int.reduceEq,if_false,false_and,true_and,or_self,or_false,false_or,or_true,true_or,if_true,reduceIte]at hd
 rotate_left;rotate_left;rotate_left;rotate_left;rotate_left;rotate_left;rotate_left;rotate_left
 all_goals (refine pF func335 rfl λst=>?_;repeat'(first|apply wZ;rfl|constructor|(first|apply hg|apply c|apply atO)|show(_:PV)=_;(first|rw[hd];simp[*,fS,v0,vN];done|rw[hd];by_cases z1:a.k=1<;>by_cases z2:a.n=0<;>by_cases z3:b.k=1<;>by_cases z4:b.n=0<;>by_cases z5:a.k=0<;>by_cases z6:b.k=0<;>(first|exfalso;omega|simp[*,fS,v0,vN,ajV];done|simp[*,fS,v0,vN,ajV];by_cases hz:Op.bytesLess a.s.toList b.s.toList=true<;>simp[hz];done));done|apply wY;rfl|intro h;simp at h|intro h))
theorem right_cases(h:rightV v=true):(v.k=0/\v.n=0/\v.s=e0)\/(v.k=1/\v.s=e0/\inM v.n)\/(v.k=2/\v.n=0):=by
 unfold rightV at h;unfold inM
 grind
theorem tI :rightV v0=true:=rfl
theorem ajP(a: -1099511627776<=n)(c:n<=1099511627776):rightV (vN n)=true:=by simp[rightV,vN,a,c]
theorem adO(b:Bool):rightV (fL b)=true:=by cases b<;>exact ajP (by simp) (by simp)
theorem aAg{op:Int->Int->Int}{a b:Vl}:rightV (rZ op a b).1=true:=by
 unfold rZ;split
 ·rfl
 ·rename_i h
  simp[sF]at h;exact ajP (by omega) (by omega)
theorem adS{r:Vl->Vl->Vl×Int}{a b:Vl}(h:rightV (r a b).1=true):rightV (jK r a b).1=true:=by
 unfold jK;split
 ·rfl
 ·exact h
theorem aAn(k:Int)(a b:Vl):rightV (oJ k a b).1=true:=by
 unfold oJ
 repeat' split
 all_goals first
  |exact adS aAg
  |exact adS (adO _)
  |exact adO _
  |(unfold acW;(repeat' split)<;>first|exact tI|exact ajP (by simp) (by simp))
theorem nY(c:∀v∈row,rightV v=true):∀{e:Ex},bE e=true->rightV (bM row e).1=true
 | .mk k n v of,hf=>by
  simp only[bM]
  split
  ·split
   ·exact tI
   ·rw[List.getD_eq_getElem?_getD]
    cases hi:row[n.toNat]? with
    |none=>exact tI
    |some x=>exact c x (List.mem_of_getElem? hi)
  ·split
   ·rename_i h0 a
    subst a;simp[bE,fG]at hf;exact hf.1.2
   ·split
    ·exact tI
    ·split
     ·exact aAn _ _ _
     ·exact tI
theorem avL(h:rightV v=true):auZ v=isZ v:=by
 unfold auZ isZ;rcases right_cases h with⟨a,_,e⟩|⟨a,c,_⟩|⟨a,_⟩
 ·grind
 ·grind
 grind
theorem aGy :∀l:List UInt8,Op.bytesLess l l=false
 |[]=>rfl
 |a::l=>by simp[Op.bytesLess,aGy l]
theorem aKr :ajV e0 e0=false:=aGy _
theorem aA3{a b:Vl}(ha:rightV a=true)(hb:rightV b=true)(h:a.k=b.k)(h0:¬a.k=0):dF a b=if a.k=2 then ajV a.s b.s else decide (a.n<b.n):=by
 unfold dF;rcases right_cases ha with⟨c,_,_⟩|⟨c,e,_⟩|⟨c,e⟩
 ·grind
 ·rcases right_cases hb with⟨h4,_,_⟩|⟨h4,h5,_⟩|⟨h4,h5⟩
  ·omega
  ·rw[e,h5,aKr,Bool.or_false,zn (by omega)]
  ·omega
 ·rcases right_cases hb with⟨h4,_,_⟩|⟨h4,h5,_⟩|⟨h4,h5⟩
  ·omega
  ·omega
  grind
theorem aIE{a b:Vl}(h:2<=k)(i:k<=10)(ha:rightV a=true)(hb:rightV b=true)(hg:jY k a.k b.k=true):oJ k a b=pO k a b:=by
 have c:=aaW ha;have hB:=aaW hb;have e:=c;have f:=hB;unfold inM at e f;have hk:k=2\/k=3\/k=4\/k=5\/k=6\/k=7\/k=8\/k=9\/k=10:=by omega
 have g:¬jY k a.k b.k=false:=by rw[hg];simp
 unfold pO;rw[zn g];rcases hk with rfl|rfl|rfl|rfl|rfl|rfl|rfl|rfl|rfl
 all_goals simp only[oJ,jK,acW,Int.reduceEq,if_false,false_and,true_and,or_self,or_false,false_or,or_true,true_or,if_true,reduceIte]
 ·by_cases hn:(decide (a.k=0)||decide (b.k=0))=true
  ·rw[zp hn,zp hn]
  rw[zn hn,zn hn];unfold rZ;dsimp only;rw[aGL c hB,show wK 2 a.n b.n=(decide (a.n+b.n>1099511627776)||decide (a.n+b.n< -1099511627776))from rfl,iD (by omega) (by omega)];rfl
 ·by_cases hn:(decide (a.k=0)||decide (b.k=0))=true
  ·rw[zp hn,zp hn]
  rw[zn hn,zn hn];unfold rZ;dsimp only;rw[aGu c hB,show wK 3 a.n b.n=(decide (a.n-b.n>1099511627776)||decide (a.n-b.n< -1099511627776))from rfl,iD (by omega) (by omega)];rfl
 ·by_cases hn:(decide (a.k=0)||decide (b.k=0))=true
  ·rw[zp hn,zp hn]
  rw[zn hn,zn hn];unfold rZ;dsimp only;rw[aGj,show wK 4 a.n b.n=(decide (a.n*b.n>1099511627776)||decide (a.n*b.n< -1099511627776))from rfl];by_cases ho:(decide (a.n*b.n>1099511627776)||decide (a.n*b.n< -1099511627776))=true
  ·rw[zp ho,zp ho]
  ·rw[zn ho,zn ho]
   simp at ho;rw[iD (by omega) (by omega)];rfl
 ·by_cases hn:(decide (a.k=0)||decide (b.k=0))=true
  ·rw[zp hn,zp hn]
  rw[zn hn,zn hn];simp[jY]at hg hn;rw[aA3 ha hb (by omega) (by omega)];by_cases h5:a.k=2
  ·rw[zp h5,zp h5]
  ·rw[zn h5,zn h5]
 ·rw[avL ha,avL hb]
  rfl
 ·rfl
def ajD(k:Int)(n:Nat)(a c:Vl×Int):Vl×Int:=if a.2≠0 then(v0,a.2)else if n>1 then(if c.2≠0 then(v0,c.2)else pO k a.1 c.1)else pO k a.1 a.1
theorem aHS{c:Int}(e:2<=k)(f:k<=8):pE (jM k) 0 [a,c]=jY k a c:=by
 have hk:k=2\/k=3\/k=4\/k=5\/k=6\/k=7\/k=8:=by omega
 rw[zbi];simp only[pE,jY,jM];rcases hk with rfl|rfl|rfl|rfl|rfl|rfl|rfl<;>simp<;>omega
theorem aGK(h:k=9\/k=10):pE (jM k) 0 [a]=jY k a a:=by
 simp only[pE,jY,jM]
 grind
theorem aBE{a b:Vl}(c:2<=k)(e:k<=10)(ha:rightV a=true)(hb:rightV b=true)(hg:g=jY k a.k b.k):(if g=true then oJ k a b else(v0,6))=pO k a b:=by
 subst hg;by_cases h:jY k a.k b.k=true
 ·rw[zp h,aIE c e ha hb h]
 ·unfold pO;grind
theorem axD(q:∀v∈row,rightV v=true)(hf:bE e=true)(h0:¬e.k=0)(p:¬e.k=1)(h:0<e.of.length)(d:Vl×Int):bM row e=ajD e.k e.of.length (bM row (e.of[0]'h)) (if z:1<e.of.length then bM row (e.of[1]'(z))else d):=by
 have⟨k,n,v,of⟩:=e;have⟨hk,hn,hv,f,i⟩:=rI hf h0 p;simp only[Ex.k,Ex.n,Ex.v,Ex.of]at*;rcases of with _|⟨x,_|⟨y,_|⟨w,of⟩⟩⟩
 ·exact absurd h (Nat.lt_irrefl _)
 ·have j:k=9\/k=10:=by simp[dZ]at f;omega
  have hx:=nY q (i x (by simp));have hm:dZ k=1:=by unfold dZ;rw[zp j]
  show bM row (.mk k n v [x])=ajD k 1 (bM row x) d;simp only[bM,kV,zn h0,zn p,ajD,hm];generalize bM row x=a at*;have⟨a,o⟩:=a;by_cases hz:o=0
  ·simp only[hz,if_true]
   have:=aBE (g:=pE (jM k) 0 ([a].map Vl.k)) hk.1 hk.2 hx hx (aGK j)
   simpa using this
  ·simp[hz]
 ·have j:k=2\/k=3\/k=4\/k=5\/k=6\/k=7\/k=8:=by simp[dZ]at f;omega
  have hx:=nY q (i x (by simp));have hy:=nY q (i y (by simp));have hm:dZ k=2:=by unfold dZ;rw[zn (by omega)]
  show bM row (.mk k n v [x,y])=ajD k 2 (bM row x) (bM row y);simp only[bM,kV,zn h0,zn p,ajD,hm];generalize bM row x=a at*;generalize bM row y=c at*;have⟨a,o⟩:=a;have⟨c,u⟩:=c;by_cases hz:o=0<;>by_cases m:u=0
  ·simp only[hz,m,if_true]
   have:=aBE (g:=pE (jM k) 0 ([a,c].map Vl.k)) hk.1 hk.2 hx hy (aHS hk.1 (by omega))
   simpa using this
  ·simp[hz,m]
  ·simp[hz]
  ·simp[hz]
 ·simp[dZ]at f;split at f<;>omega
theorem aE0(h:e.k=0):bM row e=if e.n>=row.length then(v0,4)else(row.getD e.n.toNat v0,0):=by
 cases e;simp only[Ex.k]at h;rw[bM,zp h];rfl
theorem aDa(h0:¬e.k=0)(h:e.k=1):bM row e=(e.v,0):=by
 cases e;simp only[Ex.k]at h h0;rw[bM,zn h0,zp h];rfl
theorem aiF{row:List Vl}(m:row.length<2^62)(u:∀v∈row,rightV v=true):∀(l:Nat)(e:Ex)(z:Int),z=(l:Nat)->l<=1000->eY l e=false->bE e=true->e.ok->qf 263 [.agg e.lit, .seq (aiQ row),vi z] (fS (bM row e))
 |0,e,z,_,_,hd,_,_=>by simp[eY]at hd
 |l+1,e,z,hz,hl,hd,hf,g=>by
  have g:=Ex.ok' g
  have y:=hf
  rw[rH]at y
  have j:∀(i:Nat)(hi:i<e.of.length)(z:Int),z=(l:Nat)->¬e.k=0->¬e.k=1->qf 263 [.agg (e.of[i]'hi).lit, .seq (aiQ row),vi z] (fS (bM row (e.of[i]'hi))):=λi hi z hz h0 f=>aiF m u l _ z hz (by omega) (yI hd hi) (by simp_all) (Ex.oks_at g.2 hi)
  have L:=alC row
  refine pF func263 rfl λst=>?_
  by_cases h0:e.k=0
  ·have x:0<=e.n:=by simp_all[fG]
   rw[aE0 h0];by_cases E:e.n>=row.length
   ·rw[zp E]
    repeat' first|apply wZ;rfl|omega|constructor|intro h;simp at h|intro h
   ·rw[zn E]
    have h4:e.n.toNat<row.length:=by omega
    have o:=aG4 h4;rw[List.getD_eq_getElem?_getD,zgg h4,Option.getD_some];generalize row[e.n.toNat]'h4=w at*
    repeat' first|apply wZ;rfl|omega|constructor|apply cR pk;(iterate 6 rfl);rotate_left;rfl;intro hw;exact(Int.toNat_of_nonneg (by omega)).symm;(intro hw;apply o<;>omega);intro _;rfl;rfl|intro h;simp at h|intro h
  by_cases f:e.k=1
  ·rw[aDa h0 f]
   repeat' first|apply wZ;rfl|omega|constructor|intro h
  have x:e.of.length=(dZ e.k).toNat:=by simp_all[fG];omega
  have a:e.of.length=1\/e.of.length=2:=by simp only[x,dZ];split<;>simp
  have hk:2<=e.k/\e.k<=10:=by simp_all[fG]
  clear x
  have c:∀(i:Nat)(hi:i<e.of.length),inM (bM row (e.of[i]'hi)).1.n:=λi hi=>aaW (nY u (by simp_all))
  rcases a with a|a
  ·rw[axD u hf h0 f (by omega) (v0,0),dif_neg (by omega)]
   simp only[ajD,a];have D:0<e.of.length:=by omega
   have B:=Ex.rows_len e.of;have j:=λz hz=>j 0 D z hz h0 f;have hs:=aiM (bM row (e.of[0]'(by omega))).1 (bM row (e.of[0]'(by omega))).1 hk.1 hk.2 (c 0 (by omega)) (c 0 (by omega));generalize bM row (e.of[0]'(by omega))=A at*;generalize J:pO e.k A.1 A.1=S at*;obtain⟨⟨F,G,H⟩,I⟩:=A;unfold fS at j;unfold Vl.z at hs;dsimp only at*
   repeat' first|apply wZ;rfl|omega|constructor|apply cR pk;(iterate 6 rfl);rotate_left;rfl;intro hw;rfl;(intro hw;apply Ex.rows_at<;>omega);intro _;rfl;rfl|((first|apply j|apply hs)<;>(omega))|show(_:PV)=_;(simp_all[fS,v0];done);done|apply wY;rfl|intro h;simp at h|intro h
  ·rw[axD u hf h0 f (by omega) (v0,0),dif_pos (by omega)]
   simp only[ajD,a];have D:0<e.of.length:=by omega
   have B:=Ex.rows_len e.of;have M:1<e.of.length:=by omega
   have p:=λz hz=>j 0 D z hz h0 f;have q:=λz hz=>j 1 M z hz h0 f;have hs:=aiM (bM row (e.of[0]'(by omega))).1 (bM row (e.of[1]'(by omega))).1 hk.1 hk.2 (c 0 (by omega)) (c 1 (by omega));generalize bM row (e.of[0]'(by omega))=A at*;generalize bM row (e.of[1]'(by omega))=C at*;generalize J:pO e.k A.1 C.1=S at*;obtain⟨⟨F,G,H⟩,I⟩:=A;obtain⟨⟨c1,c2,N⟩,O⟩:=C;unfold fS at p q;unfold Vl.z at hs;dsimp only at*
   repeat' first|apply wZ;rfl|omega|constructor|apply cR pk;(iterate 6 rfl);rotate_left;rfl;intro hw;rfl;(intro hw;apply Ex.rows_at<;>omega);intro _;rfl;rfl|((first|apply p|apply q|apply hs)<;>(omega))|show(_:PV)=_;(simp_all[fS,v0];done);done|apply wY;rfl|intro h;simp at h|intro h
theorem Eval_right(a:∀v∈row,rightV v=true):rightV (EvalR e row).1=true:=by
 unfold EvalR;by_cases h:oD e=0
 ·rw[zn λq=>q h];exact nY a (kH h).2
 ·rw[zp h];rfl
theorem rEval_spec(c:e.ok)(a:row.length<2^62)(j:∀v∈row,rightV v=true):qf 175 [.agg e.lit, .seq (aiQ row)] (fS (EvalR e row)):=by
 have g:=pK c;have h4:=@kH e;by_cases hm:oD e=0;have i:=aiF a j 20 e 20 rfl (by omega) (h4 hm).1 (h4 hm).2 c;rw[hm]at g;have f:EvalR e row=bM row e:=by unfold EvalR;rw[zn λq=>q hm]
 rw[f];generalize bM row e=R at*;rotate_left;have f:EvalR e row=(v0,oD e):=by unfold EvalR;rw[zp hm]
 rw[f];generalize oD e=M at*
 all_goals (refine pF func175 rfl λst=>?_;repeat'(first|apply wZ;rfl|omega|constructor|apply g|apply i|apply wY;rfl|intro h))
end
end Go.Proofs.YtigmnfepdlbcpaaGreatDoor.X
namespace Go.Proofs.YtigmnfepdlbcpaaGreatDoor
open Go Go.Abs Tryz
variable{i k n u:Nat}{rows:List (List Vl)}{above c e g:Int}{p q:Int->Prop}{all:Bool}{L a:List Ln}{D:List Int}{s:Sc}{is was:Bs}
section
theorem aJt(h:k<rows.length)(hp:pwU u (rows.take k))(hn:∀n (_:n<k),¬(rows[k][u]!.k=1/\(rows[n]'(by omega))[u]!.k=1/\rows[k][u]!.n=(rows[n]'(by omega))[u]!.n)):pwU u (rows.take (k+1)):=(aHg h).2 ⟨hp,λhk=>by
 rw[List.any_eq_false]
 intro x hx q
 obtain⟨n,a,rfl⟩:=zgo hx
 grind⟩
theorem aM4(h:k<rows.length)(hn:n<k)(a:rows[k][u]!.k=1)(c:(rows[n]'(by omega))[u]!.k=1)(e:rows[k][u]!.n=(rows[n]'(by omega))[u]!.n):¬pwU u (rows.take (k+1)):=λq=>by
 have:=((aHg h).1 q).2 a
 rw[List.any_eq_false]at this
 refine this (rows[n]'(by omega)) ?_ (by grind)
 exact List.mem_iff_getElem.2 ⟨n,by grind,by simp⟩
theorem aJ1{m:Su}(h:i<rows.length):gV m g (rows.take (i+1))=gV m g (rows.take i)+arW m g rows[i]:=by
 unfold gV;rw[zts h,zmd,List.sum_append];simp
theorem aGe{l:List Ln}{k:Int}{n:Nat}(h:n<l.length)(e:l[n].key=k):(bJ l k).isSome=true:=by
 unfold bJ
 grind
theorem aJJ{l:List Ln}{k:Int}(hn:∀n (h:n<l.length),l[n].key≠k):(bJ l k).isSome=false:=by
 rw[<-znt];unfold bJ;rw[List.find?_isSome];rintro⟨x,hx,q⟩;obtain⟨n,a,rfl⟩:=zgo hx
 grind
theorem arT{t:Tb}{r:List Vl}(h:cY t r=0):∀v∈r,X.rightV v=true:=λv hv=>by
 obtain⟨j,hj,rfl⟩:=zgo hv
 unfold cY at h
 split at h
 ·have:=eW.1 h j (zmr.2 hj)
  rw[zep r j hj]at this;unfold mW at this;split at this
  ·cases this
  ·rename_i q
   have q:=by simpa using q
   exact q
 ·cases h
theorem aDB{v:Vl}(hv:X.rightV v=true):chE (v,e)=if e=0 then(if v.k=1/\v.n=0 then 9 else 0)else e:=by
 unfold chE;by_cases c:e=0
 ·rw[zp c,zp c]
  by_cases h:v.k=1/\v.n=0
  ·rw[zp h,zp]
   rcases X.right_cases hv with⟨a,_,_⟩|⟨a,f,_⟩|⟨a,_⟩
   ·omega
   ·rw[Vl.ext_iff]
    grind
   ·omega
  grind
 omega
end
section
attribute [local irreducible] Ev PWp
theorem afX(t:Tb)(r:List Vl)(hc:t.o.length<1000000000000000)(v:r.length<1000000000000000):qf 157 [.seq (t.o.map Co.z), .seq (r.map Vl.z)] (vi (cY t r)):=by
 unfold cY;by_cases hl:¬t.o.length=r.length;rw[zn hl];refine pF func157 rfl λst=>?_;rotate_left
 replace hl:=zdn hl
 rw[zp hl];refine pF func157 rfl λst=>?_
 focus(repeat' first|apply wZ;rfl|constructor|simp<;>omega|intro h;simp at h)
 refine aC (X:={x:Nat//x<=r.length/\∀j<x,mW t.o[j]! r[j]! =0}) (λi=>((((St.nil 62 st).pv 0 (.seq (t.o.map Co.z))).pv 1 (.seq (r.map Vl.z))).pv 5 (vi (i.1:Nat)))) (λi=>r.length-i.1) ⟨0,by omega,by omega⟩ ?_ λi=>?_;rotate_left;have⟨i,hi,m⟩:=i;dsimp only;by_cases o:r.length<=i;have e:dH (λk=>mW t.o[k]! r[k]!) (List.range r.length)=0:=uW λj hj=>m j (by omega);rotate_left;have c:i<r.length:=by omega
 have g:i<t.o.length:=by omega
 have hv:=jH r[i];have hk:=asM t.o[i];have e:=afA (f:=λk=>mW t.o[k]! r[k]!) c m;have hu:mW t.o[i] r[i]=0->∀j<i+1,mW t.o[j]! r[j]! =0:=λh j hj=>by
  rcases zls.1 hj with q|q
  ·exact m j q
  ·subst q;rw[zep t.o j g,zep r j c];exact h
 simp only[zep t.o i g,zep r i c]at e;have hd:mW t.o[i] r[i]=if cB r[i]=false then 1 else if r[i].k=0/\(t.o[i].k=0\/t.o[i].k=1)/\t.o[i].null=false then 7 else if r[i].k≠0/\r[i].k≠bW t.o[i]then 6 else 0:=rfl
 generalize mW t.o[i] r[i]=E at*;generalize cB r[i]=A at*;generalize bW t.o[i]=K at*;rcases A with _|_
 rw[zp rfl]at hd;have e:=e (by omega);rw[hd]at e;rotate_left;rw[zn (by simp)]at hd;by_cases h0:r[i].k=0;by_cases a:(t.o[i].k=0\/t.o[i].k=1)/\t.o[i].null=false;rw[zp ⟨h0,a⟩]at hd;have e:=e (by omega);rw[hd]at e;have p:t.o[i].k>=0/\t.o[i].k<=1:=by omega
 have u:=a.2;rotate_left;rw[zn λq=>a q.2,zn λq=>q.1 h0]at hd;have hu:=hu hd;have p:t.o[i].null=false->¬(t.o[i].k>=0/\t.o[i].k<=1):=λq z=>a ⟨by omega,q⟩;rotate_left;rw[zn λq=>h0 q.1]at hd;by_cases a:r[i].k=K;rw[zn λq=>q.2 a]at hd;have hu:=hu hd;rotate_left;rw[zp ⟨h0,a⟩]at hd;have e:=e (by omega);rw[hd]at e
 all_goals (repeat' first|refine⟨⟨i+1,by omega,hu⟩,?_,?_⟩|apply wZ;rfl|apply KR.mk;kernel_rfl|omega|constructor|(first|apply hv|apply hk)|show(_:PV)=_;rw[e];done|apply wY;rfl|apply wI;rfl|apply gE;omega|simp<;>omega|exfalso;simp at*;grind|intro h;simp at h|intro h)
variable(t:Tb)(rows:List (List Vl))(b:Bs)
theorem aqZ(hc:t.o.length<1000000000000000)(hl:rows.length<1000000000000000)(g:∀r∈rows,r.length<1000000000000000):qf 103 [.agg t.z, .seq (rows.map roC),vb false] (vi (dH (cY t) rows)):=by
 refine pF func103 rfl λst=>?_
 focus(repeat' first|apply wZ;rfl|constructor)
 refine aC (X:={x:Nat//x<=rows.length/\∀j (h:j<rows.length),j<x->cY t rows[j]=0}) (λi=>(((((St.nil 61 st).pv 1 (.seq (rows.map roC))).pv 2 (vb false)).var 3 77 (t.z)).pv 7 (vi (i.1:Nat)))) (λi=>rows.length-i.1) ⟨0,by omega,by omega⟩ ?_ λi=>?_;rotate_left;have⟨i,hi,c⟩:=i;dsimp only;by_cases f:rows.length<=i;have e:dH (cY t) rows=0:=fV λj hj=>c j hj (by omega);rotate_left;have a:i<rows.length:=by omega
 have hk:=afX t rows[i] hc (g _ (zgm a));have e:=lG c a;have hu:=lF c a;generalize cY t rows[i]=E at*
 all_goals (repeat' first|refine⟨⟨i+1,by omega,hu ‹_›⟩,?_,?_⟩|apply wZ;rfl|apply KR.mk;kernel_rfl|omega|constructor|apply hk|show(_:PV)=_;rw[e ‹_›];done|apply wY;rfl|apply wI;rfl|apply gE;omega|show(_:PV)=_;rw[e];done|simp<;>omega|intro h;simp at h|intro h)
theorem arC(hl:rows.length<1000000000000000)(hx:t.h.length<1000000000000000)(hk:tH t)(M:∀r∈rows,r.length<1000000000000000/\∀v∈r,X.rightV v=true):qf 103 [.agg t.z, .seq (rows.map roC),vb true] (vi (dH (exR t) rows)):=by
 refine pF func103 rfl λst=>?_
 focus(repeat' first|apply wZ;rfl|constructor)
 refine aC (X:={x:Nat//x<=rows.length/\∀j (h:j<rows.length),j<x->exR t rows[j]=0}) (λi=>(((((St.nil 61 st).pv 1 (.seq (rows.map roC))).pv 2 (vb true)).var 3 77 (t.z)).pv 7 (vi (i.1:Nat)))) (λi=>rows.length-i.1) ⟨0,by omega,by omega⟩ ?_ λi=>?_;rotate_left;have⟨i,hi,C⟩:=i;dsimp only;by_cases J:rows.length<=i;have e:dH (exR t) rows=0:=fV λj hj=>C j hj (by omega);rotate_left;have m:i<rows.length:=by omega
 have⟨N,u⟩:=M _ (zgm m);have e:=lG C m;have hu:=lF C m
 focus(repeat' first|apply wZ;rfl|constructor|simp<;>omega|intro h;simp at h)
 refine aC (X:={x:Nat//x<=t.h.length/\∀j (h:j<t.h.length),j<x->chE (X.EvalR (exOf t.h[j]) rows[i])=0}) (λy=>((((((St.nil 61 st).pv 1 (.seq (rows.map roC))).pv 2 (vb true)).var 3 77 (t.z)).pv 7 (vi (i:Nat))).pv 9 (vi (y.1:Nat)))) (λy=>t.h.length-y.1) ⟨0,by omega,by omega⟩ ?_ λy=>?_;rotate_left;have⟨y,hy,o⟩:=y;dsimp only;by_cases E:t.h.length<=y;have L:exR t rows[i]=0:=fV λj hj=>o j hj (by omega);rotate_left;have k:y<t.h.length:=by omega
 have⟨F,D⟩:=zR (hk _ (zgm k));have I:=lG (f:=λc=>chE (X.EvalR (exOf c) rows[i])) o k;have w:=lF (f:=λc=>chE (X.EvalR (exOf c) rows[i])) o k;change chE _≠0->exR t rows[i]=chE _ at I;change chE (X.EvalR (exOf t.h[y]) rows[i])=0->_ at w;have H:=X.rEval_spec F (by omega) u;rw[X.Ex.lit_eq]at H;have G:=X.Eval_right (e:=exOf t.h[y]) u;have q:t.h[y]?=some (exOf t.h[y]).z:=by rw[D,zgg k]
 generalize X.EvalR (exOf t.h[y]) rows[i]=p at*;generalize exOf t.h[y]=x at*;have⟨S,T,V,U⟩:=x;have⟨v,A⟩:=p;have g:=aDB (e:=A) G;have a:chE (v,A)≠0->dH (exR t) rows=chE (v,A):=λh=>by
  have:=I h
  rw[e (by rw[this];exact h),this]
 have⟨O,Q,R⟩:=v;by_cases z:A=0;by_cases B:O=1/\Q=0;rw[zp z,zp B]at g;rw[g]at a;have hf:=a (by decide);obtain⟨rfl,rfl⟩:=B;rotate_left;rw[zp z,zn B]at g;have hw:=w g;rotate_left;rw[zn z]at g;rw[g]at a;have hf:=a z
 all_goals (repeat' first|refine⟨⟨y+1,by omega,hw⟩,?_,?_⟩|refine⟨⟨i+1,by omega,hu L⟩,?_,?_⟩|apply wZ;rfl|apply KR.mk;kernel_rfl|omega|constructor|apply cR pk;(iterate 6 rfl);rotate_left;rfl;intro hw;rfl;(intro hw;apply q<;>omega);intro _;rfl;rfl|apply H|show(_:PV)=_;rw[hf];done|apply wY;rfl|apply wI;rfl|apply gE;omega|show(_:PV)=_;rw[e];done|simp<;>omega|intro h;simp at h;omega|intro h;simp at h)
theorem atN(hl:rows.length<1000000000000000)(hu:t.u.length<1000000000000000)(Y:∀u∈t.u,0<=u/\∀r∈rows,u<r.length):qf 104 [.agg t.z, .seq (rows.map roC)] (vb (!jZ t rows)):=by
 have D:=arV (t:=t) (rows:=rows);have a:=λj k hj h=>aB2 (t:=t) (rows:=rows) (j:=j) (k:=k) hj h;generalize jZ t rows=B at*;refine pF func104 rfl λst=>?_
 focus(repeat' first|apply wZ;rfl|constructor)
 refine aC (X:={x:Nat//x<=t.u.length/\∀j (h:j<t.u.length),j<x->pwU t.u[j].toNat rows}) (λi=>((((St.nil 65 st).pv 1 (.seq (rows.map roC))).var 2 77 (t.z)).pv 5 (vi (i.1:Nat)))) (λi=>t.u.length-i.1) ⟨0,by omega,by omega⟩ ?_ λi=>?_;rotate_left;have⟨i,hi,O⟩:=i;dsimp only;by_cases Q:t.u.length<=i;have e:B=true:=D λj hj=>O j hj (by omega);rotate_left;have w:i<t.u.length:=by omega
 have⟨Z,C⟩:=Y _ (zgm w);have a:=λk=>a i k w;have A:pwU t.u[i].toNat rows->∀j (h:j<t.u.length),j<i+1->pwU t.u[j].toNat rows:=λh j hj H=>by
  rcases zls.1 H with q|q
  ·exact O j hj q
  ·subst q;exact h
 obtain⟨u,hu⟩:∃u:Nat,t.u[i]=(u:Int):=⟨t.u[i].toNat,by omega⟩;have L:t.u[i].toNat=u:=by omega
 rw[L]at a A
 focus(repeat' first|apply wZ;rfl|constructor|simp<;>omega|intro h;simp at h)
 refine aC (X:={x:Nat//x<=rows.length/\pwU u (rows.take x)}) (λy=>(((((St.nil 65 st).pv 1 (.seq (rows.map roC))).var 2 77 (t.z)).pv 5 (vi (i:Nat))).pv 6 (vi (y.1:Nat)))) (λy=>rows.length-y.1) ⟨0,by omega,by unfold pwU;simp⟩ ?_ λy=>?_;rotate_left;have⟨y,hy,p⟩:=y;dsimp only;by_cases m:rows.length<=y;rw[ztl m]at p;rotate_left;have v:y<rows.length:=by omega
 have I:=C _ (zgm v);have f:u<rows[y].length:=by rw[hu]at I;omega
 focus(repeat' first|apply wZ;rfl|constructor|simp<;>omega|intro h;simp at h)
 refine aC (X:={x:Nat//x<=y/\∀n (_:n<x) (o:n<y),¬(rows[y][u]!.k=1/\(rows[n]'(by omega))[u]!.k=1/\rows[y][u]!.n=(rows[n]'(by omega))[u]!.n)}) (λz=>((((((St.nil 65 st).pv 1 (.seq (rows.map roC))).var 2 77 (t.z)).pv 5 (vi (i:Nat))).pv 6 (vi (y:Nat))).pv 7 (vi (z.1:Nat)))) (λz=>y-z.1) ⟨0,by omega,by omega⟩ ?_ λz=>?_;rotate_left;have⟨z,hz,E⟩:=z;dsimp only;by_cases G:y<=z;have hw:=aJt v p λn hn=>E n (by omega) hn;rotate_left;have N:z<y:=by omega
 have M:z<rows.length:=by omega
 have J:=C _ (zgm M);have g:u<rows[z].length:=by rw[hu]at J;omega
 have c:=λR S T=>a (y+1) (aM4 (u:=u) v N R S T);have F:¬(rows[y][u]!.k=1/\rows[z][u]!.k=1/\rows[y][u]!.n=rows[z][u]!.n)->∀n (_:n<z+1) (o:n<y),¬(rows[y][u]!.k=1/\(rows[n]'(by omega))[u]!.k=1/\rows[y][u]!.n=(rows[n]'(by omega))[u]!.n):=λh n hn o=>by
  rcases zls.1 hn with q|q
  ·exact E n q o
  ·subst q;exact h
 rw[zep rows[y] u f,zep rows[z] u g]at c;rw[show(¬(rows[y][u]!.k=1/\rows[z][u]!.k=1/\rows[y][u]!.n=rows[z][u]!.n))=¬(rows[y][u].k=1/\rows[z][u].k=1/\rows[y][u].n=rows[z][u].n)from by rw[zep rows[y] u f,zep rows[z] u g]]at F;by_cases hc:rows[y][u].k=1/\rows[z][u].k=1/\rows[y][u].n=rows[z][u].n;have e:B=false:=c hc.1 hc.2.1 hc.2.2;have⟨U,V,W⟩:=hc;rotate_left;have hw:=F hc
 all_goals (repeat' first|apply iX;intro hw;exact hu;apply gE;omega;rfl|refine⟨⟨z+1,by omega,hw⟩,?_,?_⟩|refine⟨⟨y+1,by omega,hw⟩,?_,?_⟩|refine⟨⟨i+1,by omega,A p⟩,?_,?_⟩|apply wZ;rfl|apply KR.mk;kernel_rfl|omega|constructor|show(_:PV)=_;rw[e];rfl;done|apply wI;rfl|apply gE;omega|intro h;simp at h;omega|simp<;>omega|intro h;simp at h)
theorem adH(m:Su)(g:Int)(h:TotOK m rows):qf 114 [.seq (rows.map roC), .agg m.z,vi g] (vi (gV m g rows)):=by
 have o:=h.len;refine pF func114 rfl λst=>?_
 focus(repeat' first|apply wZ;rfl|constructor)
 refine aC (X:={x:Nat//x<=rows.length}) (λi=>((((((St.nil 62 st).pv 0 (.seq (rows.map roC))).pv 2 (vi g)).var 4 87 (m.z)).pv 7 (vi (gV m g (rows.take i.1)))).pv 8 (vi (i.1:Nat)))) (λi=>rows.length-i.1) ⟨0,by omega⟩ ?_ λi=>?_;rotate_left;have⟨i,hi⟩:=i;dsimp only;by_cases e:rows.length<=i;rw[ztl e];rotate_left;have c:i<rows.length:=by omega
 have⟨c1,c2⟩:=h.cl _ (zgm c);have u:=h.c0;have q:=h.b0;have C:=(h.num _ (zgm c)).1;have f:=vG (m:=m) (g:=g) (rows:=rows.take i) λr z=>(h.num r (List.mem_of_mem_take z)).1;have A:(rows.take i).length<=2000:=by rw[zlt];omega
 have a:=aJ1 (m:=m) (g:=g) c;have k:m.n=((m.n.toNat:Nat):Int):=by omega
 have j:m.b=((m.b.toNat:Nat):Int):=by omega
 have p:m.n.toNat<rows[i].length:=by omega
 have B:m.b.toNat<rows[i].length:=by omega
 unfold arW at a;rw[zep rows[i] m.n.toNat p,zep rows[i] m.b.toNat B]at a;rw[zep rows[i] m.n.toNat p]at C;generalize gV m g (rows.take i)=T at*;have t1: -2199023255552000<=T:=by omega
 have t2:T<=2199023255552000:=by omega
 clear f;by_cases hk:rows[i][m.b.toNat].k=1/\rows[i][m.b.toNat].n=g/\rows[i][m.n.toNat].k=1;rw[zp hk]at a;have⟨v,w,y⟩:=hk;rotate_left;rw[zn hk,Int.add_zero]at a
 all_goals (repeat' first|apply iX;intro hw;exact(by first|exact k|exact j);apply gE;omega;rfl|refine⟨⟨i+1,by omega⟩,?_,?_⟩;dsimp only;rw[a]|apply wZ;rfl|apply KR.mk;kernel_rfl|omega|constructor|apply wI;rfl|apply gE;omega|simp<;>omega|intro h;simp at h;omega|intro h;simp at h)
theorem agU(hl:rows.length<1000000000000000)(hx:t.f.length<1000000000000000)(S:∀f∈t.f,0<=f.n/\∀r∈rows,f.n<r.length)(hb:BsS n b)(hn:n<=1000):qf 105 [.agg (bsC b), .agg t.z, .seq (rows.map roC)] (vb (pZ b t rows)):=by
 have D:(∀j (h:j<t.f.length),(rows.all λr=> !decide (r[t.f[j].n.toNat]!.k=1)||(bJ (aF b t.f[j].t) r[t.f[j].n.toNat]!.n).isSome)=true)->pZ b t rows=true:=λh=>by
  unfold pZ
  rw[zal]
  intro f hf
  obtain⟨j,hj,rfl⟩:=zgo hf
  exact h j hj
 have p:∀j (h:j<t.f.length),(rows.all λr=> !decide (r[t.f[j].n.toNat]!.k=1)||(bJ (aF b t.f[j].t) r[t.f[j].n.toNat]!.n).isSome)=false->pZ b t rows=false:=λj hj h=>by
  unfold pZ
  rw[<-znt,zal]
  intro q
  rw[q _ (zgm hj)]at h;cases h
 generalize pZ b t rows=B at*;refine pF func105 rfl λst=>?_
 focus(repeat' first|apply wZ;rfl|show Cn _;constructor)
 refine aC (X:={x:Nat//x<=t.f.length/\∀j (h:j<t.f.length),j<x->(rows.all λr=> !decide (r[t.f[j].n.toNat]!.k=1)||(bJ (aF b t.f[j].t) r[t.f[j].n.toNat]!.n).isSome)=true}) (λi=>(((((St.nil 65 st).pv 2 (.seq (rows.map roC))).var 3 27 (bsC b)).var 4 77 (t.z)).pv 7 (vi (i.1:Nat)))) (λi=>t.f.length-i.1) ⟨0,by omega,by omega⟩ ?_ λi=>?_;rotate_left;obtain⟨i,hi,V⟩:=i;dsimp only;by_cases Y:t.f.length<=i;have e:B=true:=D λj hj=>V j hj (by omega);rotate_left;have A:i<t.f.length:=by omega
 obtain⟨hf0,I⟩:=S _ (zgm A);have p:=p i A;have T:(rows.all λr=> !decide (r[t.f[i].n.toNat]!.k=1)||(bJ (aF b t.f[i].t) r[t.f[i].n.toNat]!.n).isSome)=true->∀j (h:j<t.f.length),j<i+1->(rows.all λr=> !decide (r[t.f[j].n.toNat]!.k=1)||(bJ (aF b t.f[j].t) r[t.f[j].n.toNat]!.n).isSome)=true:=λh j hj o=>by
  rcases zls.1 o with q|q
  ·exact V j hj q
  ·subst q;exact h
 focus(repeat' first|apply wZ;rfl|show Cn _;constructor|simp<;>omega|intro h;simp at h)
 refine aC (X:={x:Nat//x<=rows.length/\∀j (h:j<rows.length),j<x->(!decide (rows[j][t.f[i].n.toNat]!.k=1)||(bJ (aF b t.f[i].t) rows[j][t.f[i].n.toNat]!.n).isSome)=true}) (λy=>((((((St.nil 65 st).pv 2 (.seq (rows.map roC))).var 3 27 (bsC b)).var 4 77 (t.z)).pv 7 (vi (i:Nat))).pv 8 (vi (y.1:Nat)))) (λy=>rows.length-y.1) ⟨0,by omega,by omega⟩ ?_ λy=>?_;rotate_left;obtain⟨y,hy,C⟩:=y;dsimp only;by_cases F:rows.length<=y;have hw:=T (by
  rw[zal]
  intro r S
  obtain⟨j,hj,rfl⟩:=zgo S
  exact C j hj (by omega))
 rotate_left;have E:y<rows.length:=by omega
 have Z:=I _ (zgm E);have c:(!decide (rows[y][t.f[i].n.toNat]!.k=1)||(bJ (aF b t.f[i].t) rows[y][t.f[i].n.toNat]!.n).isSome)=false->B=false:=λh=>p (by
  rw[<-znt,zal]
  intro q
  rw[q _ (zgm E)]at h;cases h)
 have u:(!decide (rows[y][t.f[i].n.toNat]!.k=1)||(bJ (aF b t.f[i].t) rows[y][t.f[i].n.toNat]!.n).isSome)=true->∀j (h:j<rows.length),j<y+1->(!decide (rows[j][t.f[i].n.toNat]!.k=1)||(bJ (aF b t.f[i].t) rows[j][t.f[i].n.toNat]!.n).isSome)=true:=λh j hj o=>by
  rcases zls.1 o with q|q
  ·exact C j hj q
  ·subst q;exact h
 have v:t.f[i].n=((t.f[i].n.toNat:Nat):Int):=by omega
 have R:t.f[i].n.toNat<rows[y].length:=by omega
 have w:=zep rows[y] t.f[i].n.toNat R;rw[w]at c u;clear w;have Q:=iL b t.f[i].t;have hlb:=(hb.l t.f[i].t).1;have O:=λn (h:n<(aF b t.f[i].t).length)=>@aGe (aF b t.f[i].t) rows[y][t.f[i].n.toNat].n n h;have M:=@aJJ (aF b t.f[i].t) rows[y][t.f[i].n.toNat].n;generalize(bJ (aF b t.f[i].t) rows[y][t.f[i].n.toNat].n).isSome=G at*;generalize aF b t.f[i].t=L at*;by_cases a:¬rows[y][t.f[i].n.toNat].k=1;have hw:=u (by simp[a]);rotate_left
 replace a:=zdn a
 focus(repeat' first|apply iX;intro hw;exact v;apply gE;omega;rfl|apply wZ;rfl|show Cn _;constructor|exact rfl|apply KR.mk;kernel_rfl|apply Q|apply wY;rfl|apply wI;rfl|apply gE;omega|omega|simp<;>omega|intro h;simp at h|intro h)
 refine aC (X:={x:Nat×Bool//x.1<=L.length/\(x.2=true->G=true)/\(x.2=false->∀n (h:n<L.length),n<x.1->L[n].key≠rows[y][t.f[i].n.toNat].n)}) (λz=>((((((((((St.nil 65 st).pv 2 (.seq (rows.map roC))).var 3 27 (bsC b)).var 4 77 (t.z)).pv 7 (vi (i:Nat))).pv 8 (vi (y:Nat))).var 9 46 (rows[y][t.f[i].n.toNat].z)).pv 10 (vb z.1.2)).pv 11 (.seq (L.map Ln.z))).pv 12 (vi (z.1.1:Nat)))) (λz=>L.length-z.1.1) ⟨(0,false),by simp,by simp,by simp⟩ ?_ λz=>?_;rotate_left;obtain⟨⟨z,g⟩,hz,k,m⟩:=z;simp only at hz k m;dsimp only;by_cases H:L.length<=z;rcases g with _|_
 have e:B=false:=c (by rw[M λn h=>m rfl n h (by omega),a];simp);rotate_left;have hw:=u (by rw[k rfl];simp);rotate_left;have U:z<L.length:=by omega
 by_cases W:L[z].key=rows[y][t.f[i].n.toNat].n;have N:=O z U W;rotate_left;have J:g=false->∀n (h:n<L.length),n<z+1->L[n].key≠rows[y][t.f[i].n.toNat].n:=λq n h hn=>by
  rcases zls.1 hn with r|r
  ·exact m q n h r
  ·subst r;exact W
 all_goals (repeat' first|refine⟨⟨(z+1,g),by simp only;omega,k,J⟩,?_,?_⟩;dsimp only|refine⟨⟨(z+1,true),by simp only;omega,λ_=>N,λq=>by cases q⟩,?_,?_⟩;dsimp only|apply iX;intro hw;exact v;apply gE;omega;rfl|refine⟨⟨y+1,by omega,hw⟩,?_,?_⟩|refine⟨⟨i+1,by omega,hw⟩,?_,?_⟩|apply wZ;rfl|show Cn _;constructor|exact rfl|apply KR.mk;kernel_rfl|apply wI;rfl|apply gE;omega|omega|show(_:PV)=_;rw[e];done|simp<;>omega|intro h;simp at h|intro h)
theorem aAz(hx:t.s.length<1000000000000000)(hl:rows.length<1000000000000000)(hT:∀m∈t.s,TotOK m rows):qf 106 [.agg t.z, .seq (rows.map roC)] (vb (rE t rows)):=by
 have z:(∀j (h:j<t.s.length),(rows.all λr=> !wU t.s[j] r&&(!decide (r[t.s[j].b.toNat]!.k=1)||decide (gV t.s[j] r[t.s[j].b.toNat]!.n rows<=t.s[j].max)))=true)->rE t rows=true:=λh=>by
  unfold rE
  rw[zal]
  intro m hm
  obtain⟨j,hj,rfl⟩:=zgo hm
  exact h j hj
 have p:∀j (h:j<t.s.length),(rows.all λr=> !wU t.s[j] r&&(!decide (r[t.s[j].b.toNat]!.k=1)||decide (gV t.s[j] r[t.s[j].b.toNat]!.n rows<=t.s[j].max)))=false->rE t rows=false:=λj hj h=>by
  unfold rE
  rw[<-znt,zal]
  intro q
  rw[q _ (zgm hj)]at h;cases h
 generalize rE t rows=B at*;refine pF func106 rfl λst=>?_
 focus(repeat' first|apply wZ;rfl|constructor)
 refine aC (X:={x:Nat//x<=t.s.length/\∀j (h:j<t.s.length),j<x->(rows.all λr=> !wU t.s[j] r&&(!decide (r[t.s[j].b.toNat]!.k=1)||decide (gV t.s[j] r[t.s[j].b.toNat]!.n rows<=t.s[j].max)))=true}) (λi=>((((St.nil 75 st).pv 1 (.seq (rows.map roC))).var 2 77 (t.z)).pv 5 (vi (i.1:Nat)))) (λi=>t.s.length-i.1) ⟨0,by omega,by omega⟩ ?_ λi=>?_;rotate_left;have⟨i,hi,L⟩:=i;dsimp only;by_cases M:t.s.length<=i;have e:B=true:=z λj hj=>L j hj (by omega);rotate_left;have u:i<t.s.length:=by omega
 have c:=hT _ (zgm u);have p:=p i u;have H:(rows.all λr=> !wU t.s[i] r&&(!decide (r[t.s[i].b.toNat]!.k=1)||decide (gV t.s[i] r[t.s[i].b.toNat]!.n rows<=t.s[i].max)))=true->∀j (h:j<t.s.length),j<i+1->(rows.all λr=> !wU t.s[j] r&&(!decide (r[t.s[j].b.toNat]!.k=1)||decide (gV t.s[j] r[t.s[j].b.toNat]!.n rows<=t.s[j].max)))=true:=λh j hj o=>by
  rcases zls.1 o with q|q
  ·exact L j hj q
  ·subst q;exact h
 focus(repeat' first|apply wZ;rfl|constructor|simp<;>omega|intro h;simp at h)
 refine aC (X:={x:Nat//x<=rows.length/\∀j (h:j<rows.length),j<x->(!wU t.s[i] rows[j]&&(!decide (rows[j][t.s[i].b.toNat]!.k=1)||decide (gV t.s[i] rows[j][t.s[i].b.toNat]!.n rows<=t.s[i].max)))=true}) (λy=>(((((St.nil 75 st).pv 1 (.seq (rows.map roC))).var 2 77 (t.z)).pv 5 (vi (i:Nat))).pv 6 (vi (y.1:Nat)))) (λy=>rows.length-y.1) ⟨0,by omega,by omega⟩ ?_ λy=>?_;rotate_left;have⟨y,hy,w⟩:=y;dsimp only;by_cases F:rows.length<=y;have hw:=H (by
  rw[zal]
  intro r R
  obtain⟨j,hj,rfl⟩:=zgo R
  exact w j hj (by omega))
 rotate_left;have A:y<rows.length:=by omega
 have⟨c1,c2⟩:=c.cl _ (zgm A);have O:=c.c0;have N:=c.b0;have a:(!wU t.s[i] rows[y]&&(!decide (rows[y][t.s[i].b.toNat]!.k=1)||decide (gV t.s[i] rows[y][t.s[i].b.toNat]!.n rows<=t.s[i].max)))=false->B=false:=λh=>p (by
  rw[<-znt,zal]
  intro q
  rw[q _ (zgm A)]at h;cases h)
 have g:(!wU t.s[i] rows[y]&&(!decide (rows[y][t.s[i].b.toNat]!.k=1)||decide (gV t.s[i] rows[y][t.s[i].b.toNat]!.n rows<=t.s[i].max)))=true->∀j (h:j<rows.length),j<y+1->(!wU t.s[i] rows[j]&&(!decide (rows[j][t.s[i].b.toNat]!.k=1)||decide (gV t.s[i] rows[j][t.s[i].b.toNat]!.n rows<=t.s[i].max)))=true:=λh j hj o=>by
  rcases zls.1 o with q|q
  ·exact w j hj q
  ·subst q;exact h
 have E:t.s[i].n=((t.s[i].n.toNat:Nat):Int):=by omega
 have C:t.s[i].b=((t.s[i].b.toNat:Nat):Int):=by omega
 have S:t.s[i].n.toNat<rows[y].length:=by omega
 have U:t.s[i].b.toNat<rows[y].length:=by omega
 unfold wU at a g;have G:=adH rows t.s[i] rows[y][t.s[i].b.toNat].n c;have I:=zep rows[y] t.s[i].n.toNat S;have J:=zep rows[y] t.s[i].b.toNat U;rw[I,J]at a;have g:=λh=>g (by rw[I,J];exact h);clear I J;generalize gV t.s[i] rows[y][t.s[i].b.toNat].n rows=T at*;by_cases f:rows[y][t.s[i].n.toNat].k=1/\rows[y][t.s[i].n.toNat].n<0;have e:B=false:=a (by simp[f.1,f.2]);have⟨k,D⟩:=f;rotate_left;have v:(decide (rows[y][t.s[i].n.toNat].k=1)&&decide (rows[y][t.s[i].n.toNat].n<0))=false:=by rw[<-znt];simpa using f
 by_cases k:rows[y][t.s[i].b.toNat].k=1/\T>t.s[i].max;have e:B=false:=a (by rw[v];simp[k.1];omega);have⟨D,Q⟩:=k;rotate_left;have hw:=g (by rw[v];simp;omega)
 all_goals (repeat' first|apply iX;intro hw;exact(by first|exact E|exact C);apply gE;omega;rfl|refine⟨⟨y+1,by omega,hw⟩,?_,?_⟩|refine⟨⟨i+1,by omega,hw⟩,?_,?_⟩|apply wZ;rfl|apply KR.mk;kernel_rfl|omega|constructor|apply G|show(_:PV)=_;rw[e];done|apply wY;rfl|apply wI;rfl|apply gE;omega|simp<;>omega|intro h;simp at h;omega|intro h;simp at h)
end
section
attribute [local irreducible] Ev PWp
theorem apP(s:Sc)(hl:s.length<200000000000000)(hB:∀t∈s,TbB t)(hT:∀t∈s,tH t)(hc:∀t∈s,t.o.length<10000000000):qf 94 [.agg (scC s)] (vi (rightC s)):=by
 have D:=zU s hl hB;by_cases h0:¬bY s=0;have e:rightC s=bY s:=by unfold rightC;rw[zn h0]
 rw[e];generalize bY s=R at*;refine pF func94 rfl λst=>?_;rotate_left
 replace h0:=zdn h0
 have e:rightC s=dH rightX s:=by unfold rightC;rw[zp h0]
 rw[e];rw[h0]at D;clear e h0;refine pF func94 rfl λst=>?_
 focus(repeat' first|apply wZ;rfl|constructor|apply D|apply wY;rfl)
 refine aC (X:={x:Nat//x<=s.length/\∀j (h:j<s.length),j<x->rightX s[j]=0}) (λi=>(((St.nil 49 st).var 1 24 (scC s)).pv 4 (vi (i.1:Nat)))) (λi=>s.length-i.1) ⟨0,by omega,by omega⟩ ?_ λi=>?_;rotate_left;have⟨i,hi,v⟩:=i;dsimp only;by_cases F:s.length<=i;have e:dH rightX s=0:=fV λj hj=>v j hj (by omega);rotate_left;have a:i<s.length:=by omega
 have hk:=hT _ (zgm a);have z:=hc _ (zgm a);have H:=(hB _ (zgm a)).k;have e:=lG v a;have hu:=lF v a
 focus(repeat' first|apply wZ;rfl|constructor|simp<;>omega|intro h;simp at h)
 refine aC (X:={x:Nat//x<=s[i].h.length/\∀j (h:j<s[i].h.length),j<x->X.RightR (exOf s[i].h[j]) (s[i].o.map bW)=0}) (λy=>((((St.nil 49 st).var 1 24 (scC s)).pv 4 (vi (i:Nat))).pv 5 (vi (y.1:Nat)))) (λy=>s[i].h.length-y.1) ⟨0,by omega,by omega⟩ ?_ λy=>?_;rotate_left;have⟨y,hy,m⟩:=y;dsimp only;by_cases B:s[i].h.length<=y;have G:rightX s[i]=0:=fV λj hj=>m j hj (by omega);rotate_left;have g:y<s[i].h.length:=by omega
 have⟨C,w⟩:=zR (hk _ (zgm g));have A:=lG (f:=λc=>X.RightR (exOf c) (s[i].o.map bW)) m g;have u:=lF (f:=λc=>X.RightR (exOf c) (s[i].o.map bW)) m g;change X.RightR (exOf s[i].h[y]) (s[i].o.map bW)≠0->rightX s[i]=X.RightR (exOf s[i].h[y]) (s[i].o.map bW)at A;change X.RightR (exOf s[i].h[y]) (s[i].o.map bW)=0->_ at u;have E:=X.rright_spec C s[i].o z;rw[X.Ex.lit_eq]at E;have q:s[i].h[y]?=some (exOf s[i].h[y]).z:=by rw[w,zgg g]
 generalize X.RightR (exOf s[i].h[y]) (s[i].o.map bW)=p at*;generalize exOf s[i].h[y]=x at*;have⟨I,J,M,L⟩:=x;by_cases hp:p=0;rotate_left;have o:dH rightX s=p:=by rw[e (by rw[A hp];exact hp),A hp]
 all_goals (repeat' first|refine⟨⟨y+1,by omega,u hp⟩,?_,?_⟩|refine⟨⟨i+1,by omega,hu G⟩,?_,?_⟩|apply wZ;rfl|apply KR.mk;kernel_rfl|omega|constructor|apply cR pk;(iterate 6 rfl);rotate_left;rfl;intro hw;rfl;(intro hw;apply q<;>omega);intro _;rfl;rfl|apply E|show(_:PV)=_;rw[o];done|apply wI;rfl|apply gE;omega|show(_:PV)=_;rw[e];done|apply D|apply wY;rfl|simp<;>omega|intro h;simp at h|intro h)
section
variable{n:Nat}{s:Sc}{b:Bs}(hB:CkB n s b)
include hB
theorem CkB.rright :qf 94 [.agg (scC s)] (vi (rightC s)):=apP s (by have:=hB.len;omega) hB.sb hB.chk hB.n
theorem aEq :qf 46 [.agg (scC s), .agg (bsC b)] (vi (whyC s b)):=by
 have B:=hB.rright;have D:=eZ hB.bs hB.hn hB.sb hB.len;have hsl:=hB.len;by_cases p:¬(rightC s=0/\bA T.rightP s b=true);have e:whyC s b=1:=by
  unfold whyC mayC;rw[zn λq=>p (by rw[zba,zde]at q;exact q)]
 rw[e];generalize rightC s=R at*;generalize bA T.rightP s b=A at*;refine pF func46 rfl λst=>?_;rotate_left;have⟨w,hg⟩:=zdn p;have e:whyC s b=ckW bH exR s b:=by unfold whyC mayC;rw[w,hg];rfl
 rw[e];clear e;rw[w]at B;rw[hg]at D;have z:=yR w;obtain⟨⟨_,hbl⟩,_⟩:=aS.1 hg;have v:(∀j<s.length,ckT exR b s[j]! (cO bH b j)=0)->ckW bH exR s b=0:=λh=>uW h;have a:∀i<s.length,(∀j<i,ckT exR b s[j]! (cO bH b j)=0)->ckT exR b s[i]! (cO bH b i)≠0->ckW bH exR s b=ckT exR b s[i]! (cO bH b i):=λi hi B D=>afA (f:=λk:Nat=>ckT exR b s[k]! (cO bH b k)) hi B D;generalize ckW bH exR s b=W at*;refine pF func46 rfl λst=>?_
 focus(repeat' first|apply wZ;rfl|constructor|(first|apply B|apply D)|apply wY;rfl)
 refine aC (X:={x:Nat//x<=s.length/\∀j<x,ckT exR b s[j]! (cO bH b j)=0}) (λi=>((((St.nil 62 st).var 2 24 (scC s)).var 3 27 (bsC b)).pv 7 (vi (i.1:Nat)))) (λi=>s.length-i.1) ⟨0,by omega,by omega⟩ ?_ λi=>?_;rotate_left;have⟨i,hi,O⟩:=i;dsimp only;by_cases Z:s.length<=i;have e:W=0:=v λj hj=>O j (by omega);rotate_left;have g:i<s.length:=by omega
 have hib:i<b.length:=by omega
 have Q:=vZ hB.bs hB.hn (i:Int);have a:=a i g O;have J:ckT exR b s[i]! (cO bH b i)=0->∀j<i+1,ckT exR b s[j]! (cO bH b j)=0:=λh j hj=>by
  rcases zls.1 hj with q|q
  ·exact O j q
  ·subst q;exact h
 rw[zep s i g]at a J;have⟨n1,n2,n3,n4,n5⟩:=jF z g;have hrl:=rows_len hg g;have y:=λr (o:r∈cO bH b i)=>aqE aJC hg g o;have V:=λm (hm:m∈s[i].s)=>tN hg g hm;have I:=λu (hu:u∈s[i].u)=>aFE z g hu;have G:=λf (hf:f∈s[i].f)=>amY z g hf;have E:=hB.chk _ (zgm g);generalize cO bH b i=rows at*;have H:∀r∈rows,r.length<=1000:=λr o=>by have:=(y r o).len;omega
 have Y:=aqZ s[i] rows (by omega) (by omega) λr o=>by have:=H r o;omega
 have f1:=atN s[i] rows (by omega) (by omega) λu hu=>⟨by have:=(I u hu).c1;omega,λr o=>by have:=(I u hu).c2;have:=(y r o).len;omega⟩;have L:=λh:dH (cY s[i]) rows=0=>arC s[i] rows (by omega) (by omega) E λr o=>⟨by have:=H r o;omega,arT (eW.1 h r o)⟩;have f3:=agU s[i] rows b (by omega) (by omega) (λf hf=>⟨by have:=(G f hf).c1;omega,λr o=>by have:=(G f hf).c2;have:=(y r o).len;omega⟩) hB.bs hB.hn;have f4:=aAz s[i] rows (by omega) (by omega) V;have c:ckT exR b s[i] rows=if dH (cY s[i]) rows≠0 then dH (cY s[i]) rows else if jZ s[i] rows=false then 8 else if dH (exR s[i]) rows≠0 then dH (exR s[i]) rows else if pZ b s[i] rows=false then 10 else if rE s[i] rows=false then 11 else 0:=rfl
 generalize ckT exR b s[i] rows=C at*;generalize dH (cY s[i]) rows=M at*;generalize jZ s[i] rows=U at*;generalize dH (exR s[i]) rows=N at*;generalize pZ b s[i] rows=F at*;generalize rE s[i] rows=S at*;by_cases z1:M≠0;rw[zp z1]at c;have e:W=M:=by rw[a (by rw[c];exact z1),c]
 rotate_left;rw[zn z1]at c;have z1:M=0:=by omega
 have L:=L z1;rw[z1]at Y;rcases U with _|_
 rw[zp rfl]at c;have e:W=8:=by rw[a (by rw[c];decide),c]
 rotate_left;rw[zn (by simp)]at c;by_cases z2:N≠0;rw[zp z2]at c;have e:W=N:=by rw[a (by rw[c];exact z2),c]
 rotate_left;rw[zn z2]at c;have z2:N=0:=by omega
 rw[z2]at L;rcases F with _|_
 rw[zp rfl]at c;have e:W=10:=by rw[a (by rw[c];decide),c]
 rotate_left;rw[zn (by simp)]at c;rcases S with _|_
 rw[zp rfl]at c;have e:W=11:=by rw[a (by rw[c];decide),c]
 rotate_left;rw[zn (by simp)]at c;have hw:=J c
 all_goals (repeat' first|refine⟨⟨i+1,by omega,hw⟩,?_,?_⟩|apply wZ;rfl|omega|constructor|(first|apply Q|apply Y|apply f1|apply L|apply f3|apply f4)|show(_:PV)=_;rw[e];done|simp<;>omega|(first|apply B|apply D)|apply wY;rfl|apply wI;rfl|apply gE;omega|exfalso;simp at*;grind|intro h;simp at h|intro h)
theorem acQ(table c a:Int):qf 53 [.agg (scC s), .agg (bsC b),vi table,vi c,vi a] (vi (totC s b table c a)):=by
 have p:=hB.rright;have u:=eZ hB.bs hB.hn hB.sb hB.len;have v:=hB.len;by_cases f:¬(rightC s=0/\bA T.rightP s b=true/\0<=table/\table<s.length);have e:totC s b table c a=0:=by
  unfold totC;rw[dif_neg];rintro⟨q,⟨w,x⟩,_⟩;unfold mayC at q;rw[zba,zde]at q;exact f ⟨q.1,q.2,w,x⟩
 rw[e];generalize rightC s=R at*;generalize bA T.rightP s b=A at*;rotate_left;have⟨i,hg,t1,t2⟩:=zdn f;obtain⟨k,rfl⟩:∃k:Nat,table=(k:Int):=⟨table.toNat,by omega⟩;have hk:k<s.length:=by omega
 have g:mayC s b=true:=by unfold mayC;rw[hg,zdt i];rfl
 rw[i]at p;rw[hg]at u;have j:=yR i;have⟨z,B,C,n4,n5⟩:=jF j hk;by_cases hs:¬(0<=c/\c<s[k].s.length);have e:totC s b k c a=0:=by
  unfold totC;rw[dif_neg];rintro⟨_,_,q⟩;rw[zin,zep s k hk]at q;exact hs q
 rw[e];rotate_left
 replace hs:=zdn hs
 obtain⟨y,rfl⟩:∃y:Nat,c=(y:Int):=⟨c.toNat,by omega⟩;have hy:y<s[k].s.length:=by omega
 have hT:=tN hg hk (zgm hy);have e:totC s b k y a=gV s[k].s[y] a (cO bH b k):=by
  unfold totC;rw[dif_pos ⟨g,⟨by omega,by omega⟩,by omega,by rw[zin,zep s k hk];omega⟩];rw[zin,zin,zep s k hk,zep s[k].s y hy]
 rw[e];have m:=vZ hB.bs hB.hn (k:Int);have o:=adH (cO bH b k) s[k].s[y] a hT;generalize gV s[k].s[y] a (cO bH b k)=R at*;generalize cO bH b k=rows at*
 all_goals (refine pF func53 rfl λst=>?_;repeat'(first|apply wZ;rfl|apply KR.mk;kernel_rfl|constructor|(first|apply p|apply u|apply m|apply o)|apply wY;rfl|apply wI;rfl|apply gE;omega|simp<;>omega|exfalso;simp[gw]at*;grind|intro h;simp at h;omega|intro h;simp at h))
end
end
section
def IsMin(o:Option Int)(p:Int->Prop):Prop:=match o with
 |none=>∀g,¬p g
 |some g=>p g/\∀h,p h->g<=h
theorem IsMin.uniq:∀{o o':Option Int},IsMin o p->IsMin o' p->o=o'
 |none,none,_,_=>rfl
 |none,some g,h,k=>absurd k.1 (h g)
 |some g,none,h,k=>absurd h.1 (k g)
 |some g,some _,h,k=>by have:=h.2 _ k.1;have:=k.2 g h.1;grind
theorem IsMin.of(h:∀g,p g↔q g):∀{o:Option Int},IsMin o p->IsMin o q
 |none,k=>λg hg=>k g ((h g).2 hg)
 |some _,k=>⟨(h _).1 k.1,λx hx=>k.2 x ((h x).2 hx)⟩
def amO(above:Int)(all:Bool)(o:Option Int):Option Int->Option Int
 |none=>o
 |some g=>if(all=true\/g>above)/\(o=none\/g<o.getD 0)then some g else o
theorem aEM{o:Option Int}(h:IsMin o q)(x:Option Int):IsMin (amO above all o x) (λg=>q g\/(x=some g/\(all=true\/g>above))):=by
 cases x with
 |none=>simpa
 |some g=>
  unfold amO;dsimp only;by_cases a:all=true\/g>above
  ·cases o with
   |none=>
    rw[zp ⟨a, .inl rfl⟩];refine⟨.inr ⟨rfl,a⟩,λy hy=>?_⟩;rcases hy with hy|⟨hy,_⟩
    ·exact absurd hy (h y)
    ·cases hy;exact Int.le_refl _
   |some w=>
    by_cases c:g<w
    ·rw[zp ⟨a, .inr c⟩]
     refine⟨.inr ⟨rfl,a⟩,λy hy=>?_⟩;rcases hy with hy|⟨hy,_⟩
     ·have:=h.2 y hy;omega
     ·cases hy;exact Int.le_refl _
    ·rw[zn (by grind)]
     refine⟨.inl h.1,λy hy=>?_⟩;rcases hy with hy|⟨hy,_⟩
     ·exact h.2 y hy
     ·cases hy;omega
  ·rw[zn λq=>a q.1]
   exact IsMin.of (λy=>⟨.inl,λhy=>hy.elim id λ⟨e,w⟩=>by cases e;exact absurd w a⟩) h
def iK(L:List Ln)(c above:Int)(all:Bool):Option Int:=L.foldl (λo l=>amO above all o (ptP l c)) none
theorem aHH(h:i<L.length):iK (L.take (i+1)) c above all=amO above all (iK (L.take i) c above all) (ptP L[i] c):=by
 unfold iK;rw[zts h,List.foldl_append];rfl
theorem amJ(L:List Ln)(c above:Int)(all:Bool):IsMin (iK L c above all) (λg=>g∈L.filterMap (λl=>ptP l c)/\(all=true\/g>above)):=by
 have key:∀(L:List Ln)(o:Option Int)(q:Int->Prop),IsMin o q->IsMin (L.foldl (λo l=>amO above all o (ptP l c)) o) (λg=>q g\/(g∈L.filterMap (λl=>ptP l c)/\(all=true\/g>above))):=λL=>by
  induction L with
  |nil=>simp
  |cons l L ih=>
   intro o q h;refine IsMin.of (λg=>?_) (ih _ _ (aEM h (ptP l c)))
   grind
 exact IsMin.of (λg=>by simp) (key L none (λ_=>False) λ_ h=>h)
def amD :Option Int->Option Int->Option Int
 |none,b=>b
 |some x,none=>some x
 |some x,some y=>if x<y then some x else some y
theorem aDh:∀{a b:Option Int},IsMin a p->IsMin b q->IsMin (amD a b) (λg=>p g\/q g)
 |none,none,h,k=>λg hg=>hg.elim (h g) (k g)
 |none,some y,h,k=>⟨.inr k.1,λg hg=>hg.elim (λw=>absurd w (h g)) (k.2 g)⟩
 |some x,none,h,k=>⟨.inl h.1,λg hg=>hg.elim (h.2 g) λw=>absurd w (k g)⟩
 |some x,some y,h,k=>by
  show IsMin (if x<y then some x else some y) _
  by_cases c:x<y
  ·rw[zp c]
   exact⟨.inl h.1,λg hg=>hg.elim (h.2 g) λw=>by have:=k.2 g w;omega⟩
  ·rw[zn c]
   exact⟨.inr k.1,λg hg=>hg.elim (λw=>by have:=h.2 g w;omega) (k.2 g)⟩
theorem aIo(l:List Int):(lN l).Pairwise (· < ·):=by
 have:=pM yO ((eC _ _).nodup_iff.2 (aeW l)) (zC yO _);exact this.imp fun{a b} h=>of_decide_eq_true h
theorem aAq(hp:D.Pairwise (· < ·))(j:Nat)(above:Int)(all:Bool)(h:all=true/\j=0\/all=false/\0<j/\D[j-1]?=some above):IsMin D[j]? (λg=>g∈D/\(all=true\/g>above)):=by
 have m:∀a b (ha:a<D.length) (hb:b<D.length),a<b->D[a]<D[b]:=λa b ha hb f=>List.pairwise_iff_getElem.1 hp a b ha hb f;have c:∀g∈D,(all=true\/g>above)->∃i,∃hi:i<D.length,j<=i/\D[i]=g:=λg hg hk=>by
  obtain⟨i,hi,rfl⟩:=zgo hg
  grind
 by_cases hj:j<D.length
 ·rw[zgg hj]
  refine⟨⟨zgm hj,?_⟩,λg ⟨hg,hk⟩=>?_⟩
  ·grind
  ·obtain⟨i,hi,k,rfl⟩:=c g hg hk
   by_cases e:i=j
   ·subst e;exact Int.le_refl _
   ·have:=m j i hj hi (by omega);omega
 ·rw[List.getElem?_eq_none (by omega)]
  exactλg ⟨hg,hk⟩=>by
   have⟨i,hi,k,_⟩:=c g hg hk
   omega
theorem aBM{e:List Ln}(f:lN (a.filterMap (λl=>ptP l c)++e.filterMap λl=>ptP l c)=D){j:Nat}(h:all=true/\j=0\/all=false/\0<j/\D[j-1]?=some above):amD (iK a c above all) (iK e c above all)=D[j]?:=by
 refine IsMin.uniq (aDh (amJ a c _ all) (amJ e c _ _)) (IsMin.of (λg=>?_) (aAq (by rw[<-f];exact aIo _) j _ _ h));rw[<-f,aDq,zma]
 grind
end
section
attribute [local irreducible] Ev PWp
theorem agX :ptR none= .tup [vi 0,vb false]:=rfl
theorem pY(g:Int):ptR (some g)= .tup [vi g,vb true]:=rfl
theorem ahW(b:Bs)(k:Int)(m:Su)(above:Int)(all:Bool)(v:∀l∈aF b k,eN l m.b)(hl:(aF b k).length<4611686018427387904):qf 113 [.agg (bsC b),vi k, .agg m.z,vi above,vb all] (ptR (iK (aF b k) m.b above all)):=by
 have p:=iL b k;generalize aF b k=L at*;have u:(L.map Ln.z).length=L.length:=zql _;refine pF func113 rfl λst=>?_
 focus(repeat' first|apply wZ;rfl|constructor|apply p|apply wY;rfl)
 refine aC (X:={x:Nat//x<=L.length}) (λi=>((((((((St.nil 58 st).pv 3 (vi above)).pv 4 (vb all)).var 7 87 (m.z)).pv 12 (vi ((iK (L.take i.1) m.b above all).getD 0))).pv 13 (vb ((iK (L.take i.1) m.b above all).isSome))).pv 14 (.seq (L.map Ln.z))).pv 15 (vi (i.1:Nat)))) (λi=>L.length-i.1) ⟨0,by omega⟩ ?_ λi=>?_;rotate_left;have⟨i,hi⟩:=i;dsimp only;by_cases j:L.length<=i;rw[ztl j];rotate_left;have f:i<L.length:=by omega
 have a:=aHH (c:=m.b) (above:=above) (all:=all) f;have hp:=jP L[i] m.b (v _ (zgm f));generalize iK (L.take i) m.b above all=o at*;rcases hpt:ptP L[i] m.b with _|g
 rw[hpt]at hp a;rw[agX]at hp;have e:iK (L.take (i+1)) m.b above all=o:=a;rotate_left;rw[hpt]at hp a;rw[pY]at hp;unfold amO at a;dsimp only at a;by_cases hc:(all=true\/g>above)/\(o=none\/g<o.getD 0);rw[zp hc]at a;have⟨c1,c2⟩:=hc;rcases o with _|w
 rotate_left;have c2:g<w:=by rcases c2 with q|q;cases q;exact q
 rotate_left;rw[zn hc]at a;rcases o with _|w
 have c1:¬(all=true\/g>above):=λq=>hc ⟨q, .inl rfl⟩;rotate_left;have c1:¬((all=true\/g>above)/\g<w):=λq=>hc ⟨q.1, .inr q.2⟩
 all_goals (repeat' first|refine⟨⟨i+1,f⟩,?_,?_⟩;dsimp only;rw[a]|apply wZ;rfl|apply KR.mk;kernel_rfl|omega|constructor|apply hp|show _=_;simp|apply wY;rfl|apply wI;rfl|apply gE;omega|simp<;>omega|exfalso;apply c1;simp_all;done|(exfalso;rcases c1 with q|q<;>simp_all<;>omega)|intro h;simp at h)
theorem aED(b c:Bs)(k:Int)(m:Su)(above:Int)(all:Bool)(p:∀l∈aF b k,eN l m.b)(hl:(aF b k).length<4611686018427387904)(o:∀l∈aF c k,eN l m.b)(j:(aF c k).length<4611686018427387904):qf 52 [.agg (bsC b), .agg (bsC c),vi k, .agg m.z,vi above,vb all] (ptR (amD (iK (aF b k) m.b above all) (iK (aF c k) m.b above all))):=by
 have f:=ahW b k m above all p hl;have e:=ahW c k m above all o j;generalize iK (aF b k) m.b above all=A at*;generalize iK (aF c k) m.b above all=B at*;rcases A with _|x
 rw[show amD none B=B from rfl];rw[agX]at f;unfold ptR at e⊢;generalize B.isSome=i at*;generalize B.getD 0=g at*;rotate_left;rw[pY]at f;rcases B with _|y
 rw[show amD (some x) none=some x from rfl];rw[agX]at e;rw[pY];rotate_left;rw[pY]at e;rw[show amD (some x) (some y)=if x<y then some x else some y from rfl];by_cases a:x<y;rw[zp a,pY];rotate_left;rw[zn a,pY]
 all_goals (refine pF func52 rfl λst=>?_;repeat'(first|apply wZ;rfl|omega|constructor|(first|apply f|apply e)|apply wY;rfl|intro h;simp at h|intro h))
theorem aH0(g:CkB 200 s was)(m:CkB 200 s is)(w:bA T.rightP s was=true)(C:bA T.rightP s is=true)(st:aD):
  qc 22 [.agg (scC s), .agg (bsC was), .agg (bsC is)] st λr S=>∃id,r= .vec id 4 0 ((List.range s.length).flatMap (sumK s was is)).length/\st id=none/\S=upd st id (some (.arr 60 (((List.range s.length).flatMap (sumK s was is)).map s4C))):=by
 have N:=eZ g.bs g.hn g.sb g.len
 have O:=eZ m.bs m.hn m.sb m.len
 rw[w]at N
 rw[C]at O
 obtain⟨⟨G,e1⟩,_⟩:=aS.1 w
 obtain⟨⟨_,e2⟩,_⟩:=aS.1 C
 have hsl:=lE G
 have hml:(s.map Tb.z).length=s.length:=zql _
 have u:=λk:Int=>(g.bs.l k).1
 have v:=λk:Int=>(m.bs.l k).1
 have J:=λk i=>ajN (s:=s) (was:=was) (is:=is) u v k i
 have hKl:∀k<s.length,(sumK s was is k).length<=6400:=λk hk=>by
  unfold sumK
  have:=mV (f:=sumI s was is k) (List.range s[k]!.s.length) λi _=>J k i
  rw[List.length_range,zep s k hk]at this
  have:=(jF G hk).2.2.2.2
  rw[zep s k hk]
  omega
 have hOl:∀i≤s.length,((List.range i).flatMap (sumK s was is)).length<=6400*16:=λi hi=>by
  have:=mV (f:=sumK s was is) (List.range i) λk hk=>hKl k (by have:=zmr.1 hk;omega)
  rw[List.length_range]at this
  omega
 refine pC func22 rfl ?_
 focus(repeat' first|apply Cn.cf;focus(((first|apply N|apply O));done)|apply wZ;rfl|constructor|apply wY;rfl)
 refine cL 7 60 4 rfl rfl rfl λid a=>?_
 have a:st id=none:=a
 refine aC (X:={x:Nat×Nat//x.1<=s.length/\st x.2=none}) (λi=>((((((St.nil 93 (upd st i.1.2 (some (.arr 60 (((List.range i.1.1).flatMap (sumK s was is)).map s4C))))).var 3 24 (scC s)).var 4 27 (bsC was)).var 5 27 (bsC is)).pv 7 (.vec i.1.2 4 0 ((List.range i.1.1).flatMap (sumK s was is)).length)).pv 8 (vi (i.1.1:Nat)))) (λi=>s.length-i.1.1) ⟨(0,id),by simp,a⟩ ?_ λi=>?_
 ·dsimp only
  repeat' first|exact Cn.t0|constructor
 obtain⟨⟨i,id⟩,hi,a⟩:=i
 simp only at hi a
 dsimp only
 by_cases hend:s.length<=i
 ·obtain rfl:i=s.length:=by omega
  repeat' first|refine Cn.rr ?_;exact⟨id,rfl,a,rfl⟩;done|apply wZ;rfl|omega|constructor|intro h;simp at h
 have hk:i<s.length:=by omega
 have k1:i<was.length:=by omega
 have k2:i<is.length:=by omega
 have W:=rM (sumK s was is) i
 have hO:=hOl i hi
 have Z:sumK s was is i=(List.range s[i].s.length).flatMap (sumI s was is i):=by unfold sumK;rw[zep s i hk]
 have hsn:=(jF G hk).2.2.2.2
 have hSl:∀y≤s[i].s.length,((List.range y).flatMap (sumI s was is i)).length<=6400:=λy hy=>by
  have:=mV (f:=sumI s was is i) (List.range y) λj _=>J i j
  rw[List.length_range]at this
  omega
 rw[Z]at W
 generalize(List.range i).flatMap (sumK s was is)=A at*
 focus(repeat' first|apply wZ;rfl|omega|constructor|intro h;simp at h)
 refine aC (X:={x:Nat×Nat//x.1<=s[i].s.length/\st x.2=none}) (λy=>(((((((St.nil 93 (upd st y.1.2 (some (.arr 60 ((A++(List.range y.1.1).flatMap (sumI s was is i)).map s4C))))).var 3 24 (scC s)).var 4 27 (bsC was)).var 5 27 (bsC is)).pv 7 (.vec y.1.2 4 0 (A++(List.range y.1.1).flatMap (sumI s was is i)).length)).pv 8 (vi (i:Nat))).pv 9 (vi (y.1.1:Nat)))) (λy=>s[i].s.length-y.1.1) ⟨(0,id),by simp,a⟩ ?_ λy=>?_
 ·dsimp only
  rw[show A++(List.range 0).flatMap (sumI s was is i)=A from by simp]
  repeat' first|exact Cn.t0|constructor
 obtain⟨⟨y,id⟩,hy,a⟩:=y
 simp only at hy a
 dsimp only
 by_cases hend1:s[i].s.length<=y
 ·obtain rfl:y=s[i].s.length:=by omega
  repeat' first|refine⟨⟨(i+1,id),by simp only;omega,a⟩,?_,?_⟩;dsimp only;rw[W]|apply wZ;rfl|omega|constructor|apply wI;rfl|apply gE;omega|simp<;>omega|intro h;simp at h
 have H:y<s[i].s.length:=by omega
 have q:=rM (sumI s was is i) y
 have hA:=hSl y hy
 have hDl:(lN (iM was i s[i].s[y]++iM is i s[i].s[y])).length<=400:=by
  have q2:=acD (iM was i s[i].s[y]++iM is i s[i].s[y]);rw[zla]at q2;have q3:=List.length_filterMap_le (λl=>ptP l s[i].s[y].b) (aF was (i:Int));have q4:=List.length_filterMap_le (λl=>ptP l s[i].s[y].b) (aF is (i:Int));have q5:=u (i:Int);have q6:=v (i:Int);unfold iM at q2⊢;omega
 have Y:sumI s was is i y=(lN (iM was i s[i].s[y]++iM is i s[i].s[y])).filterMap (moreS s was is i y):=by unfold sumI;rw[zep s i hk,zep s[i].s y H]
 rw[Y]at q
 have Q:∀l∈aF was (i:Int),eN l s[i].s[y].b:=by rw[gX k1];exact apF w hk (zgm H)
 have R:∀l∈aF is (i:Int),eN l s[i].s[y].b:=by rw[gX k2];exact apF C hk (zgm H)
 have M:=λabove all=>aED was is (i:Int) s[i].s[y] above all Q (by have:=u (i:Int);omega) R (by have:=v (i:Int);omega)
 generalize hD:lN (iM was i s[i].s[y]++iM is i s[i].s[y])=D at*
 have F:=M 0 true
 rw[aBM hD (j:=0) (.inl ⟨rfl,rfl⟩)]at F
 have hnz:∀z (h:z<D.length),qf 52 [.agg (bsC was), .agg (bsC is),vi (i:Nat), .agg s[i].s[y].z,vi (D[z]),vb false] (ptR D[z+1]?):=λz h=>by
  have:=M D[z] false
  rw[aBM hD (j:=z+1) (.inr ⟨rfl,by omega,by rw[Nat.add_sub_cancel,zgg h]⟩)]at this
  exact this
 generalize(List.range y).flatMap (sumI s was is i)=B at*
 unfold ptR at F
 focus(repeat' first|apply Cn.cf;focus((apply F);done)|apply wZ;rfl|constructor|apply wY;rfl|apply wI;rfl|apply gE;omega|simp<;>omega|intro h;simp at h)
 refine aC (X:={x:Nat×Nat//x.1<=D.length/\st x.2=none}) (λz=>((((((((((St.nil 93 (upd st z.1.2 (some (.arr 60 ((A++B++(D.take z.1.1).filterMap (moreS s was is i y)).map s4C))))).var 3 24 (scC s)).var 4 27 (bsC was)).var 5 27 (bsC is)).pv 7 (.vec z.1.2 4 0 (A++B++(D.take z.1.1).filterMap (moreS s was is i y)).length)).pv 8 (vi (i:Nat))).pv 9 (vi (y:Nat))).var 10 87 (s[i].s[y].z)).pv 11 (vi (D[z.1.1]?.getD 0))).pv 12 (vb (D[z.1.1]?.isSome)))) (λz=>D.length-z.1.1) ⟨(0,id),by simp,a⟩ ?_ λz=>?_
 ·dsimp only
  rw[show A++B++(D.take 0).filterMap (moreS s was is i y)=A++B from by simp]
  repeat' first|exact Cn.t0|constructor
 obtain⟨⟨z,id⟩,hz,a⟩:=z
 simp only at hz a
 dsimp only
 have hll:=List.length_filterMap_le (moreS s was is i y) (D.take z)
 rw[zlt]at hll
 by_cases hend2:D.length<=z
 ·obtain rfl:z=D.length:=by omega
  rw[List.take_length,zas,<-q,List.getElem?_eq_none (znr _)]
  repeat' first|refine⟨⟨(y+1,id),by simp only;omega,a⟩,?_,?_⟩;dsimp only|apply wZ;rfl|omega|constructor|simp<;>omega
 have I:z<D.length:=by omega
 have o:=hnz z I
 have U:=acQ m (i:Int) (y:Int) D[z]
 have V:=acQ g (i:Int) (y:Int) D[z]
 have⟨b1,b2⟩:=qW (s:=s) (b:=is) i y D[z]
 have⟨b3,b4⟩:=qW (s:=s) (b:=was) i y D[z]
 have c:=anN (f:=moreS s was is i y) I
 rw[zgg I]
 unfold ptR at o
 by_cases p:totC s is (i:Int) (y:Int) D[z]-totC s was (i:Int) (y:Int) D[z]≠0
 ·have e:moreS s was is i y D[z]=some ((i:Int),(y:Int),D[z],totC s is (i:Int) (y:Int) D[z]-totC s was (i:Int) (y:Int) D[z]):=by unfold moreS;rw[zp p]
  rw[e]at c;dsimp only at c;generalize totC s is (i:Int) (y:Int) D[z]=V1 at*;generalize totC s was (i:Int) (y:Int) D[z]=V2 at*;generalize(D.take z).filterMap (moreS s was is i y)=E at*
  repeat' first|refine⟨⟨(z+1,id'),by simp only;omega,aI L⟩,?_,?_⟩;dsimp only;rw[c,<-zas]|exact Cn.any (aM ‹_›)|apply wZ;rfl|apply KR.mk;kernel_rfl|omega|constructor|(first|apply U|apply V|apply o)|show _=_;simp;omega|apply apV pk (f:=s4C) [((i:Int),(y:Int),D[z],V1-V2)] 32;(iterate 9 rfl);exact aA _ _ _;omega;exactλ_=>rfl;exactλ_=>rfl;exact aCM;(focus(simp;omega));(focus(simp;omega));rfl;intro id' L|apply wY;rfl|simp<;>omega|intro h
 ·have e:moreS s was is i y D[z]=none:=by unfold moreS;rw[zn p]
  rw[e]at c;dsimp only at c;rw[List.append_nil]at c;have p:=zdn p;generalize totC s is (i:Int) (y:Int) D[z]=V1 at*;generalize totC s was (i:Int) (y:Int) D[z]=V2 at*
  repeat' first|refine⟨⟨(z+1,id),by simp only;omega,a⟩,?_,?_⟩;dsimp only;rw[c]|apply wZ;rfl|apply KR.mk;kernel_rfl|omega|constructor|(first|apply U|apply V|apply o)|apply wY;rfl|simp<;>omega|intro h
theorem asW(a:CkB 200 s was)(c:CkB 200 s is):qf 22 [.agg (scC s), .agg (bsC was), .agg (bsC is)] (.seq ((sumsP s was is).map s4C)):=by
 unfold sumsP;by_cases hb:bA T.rightP s was=true/\bA T.rightP s is=true
 ·rw[zp hb]
  exactλst=>eS (sz:=4) (aH0 a c hb.1 hb.2 st) λp st' h=>by
   obtain⟨id,rfl,g,rfl⟩:=h
   exact .inl ⟨id,60,((List.range s.length).flatMap (sumK s was is)).map s4C,_,st,aA _ _ _,aBP,dI (by simp),bN g,rfl,rfl⟩
 ·rw[zn hb]
  have e:=eZ a.bs a.hn a.sb a.len;have f:=eZ c.bs c.hn c.sb c.len;generalize bA T.rightP s was=X at*;generalize bA T.rightP s is=Y at*;refine pF func22 rfl λst=>?_
  repeat' first|exact Cn.any ⟨_,_,_,rfl,aBs,zsr _,rfl,rfl⟩|apply wZ;rfl|constructor|(first|apply e|apply f)|apply wY;rfl|exfalso;simp_all;done|intro h;simp at h
end
end Go.Proofs.YtigmnfepdlbcpaaGreatDoor
