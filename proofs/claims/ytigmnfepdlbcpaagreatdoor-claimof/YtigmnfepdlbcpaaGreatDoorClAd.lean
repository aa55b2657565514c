import Derived.Test.YtigmnfepdlbcpaaGreatDoorClAc
import Derived.Test.YtigmnfepdlbcpaaGreatDoorAbsK
set_option linter.all false
set_option maxHeartbeats 4000000
set_option maxRecDepth 10000
namespace Go.Proofs.YtigmnfepdlbcpaaGreatDoor
open Go Go.Abs Tryz
variable{s:Sc}{b:Bs}{k y:Nat}
section
attribute [local irreducible] Ev PWp
section
variable{tx:Cl->Int}
theorem aJC :∀c:Cl,c.k=0->bH c=c.val:=λc h=>by unfold bH;grind
theorem rows_len(hg:bA tx s b=true)(hk:k<s.length):(cO bH b k).length<=2000:=by
 obtain⟨⟨e,f⟩,c⟩:=aS.1 hg;have a:k<b.length:=by omega
 have:=(gI.1 (c k a)).1;unfold cO;rw[gX a,zql]
 grind
theorem tN(hg:bA tx s b=true)(hk:k<s.length){m:Su}(hm:m∈s[k].s):TotOK m (cO bH b k):=by
 obtain⟨⟨c,f⟩,_⟩:=aS.1 hg;have hs:=aK7 c _ hm;refine⟨rows_len hg hk,by have:=hs.c1;omega,by have:=hs.b1;omega,λr a=>?_,λr a=>?_⟩
 ·have:=(aqE aJC hg hk a).len
  have:=hs.c2;have:=hs.b2;omega
 ·have hc:=hs.c1
  have e:=hs.c2;exact aA7 ((aqE aJC hg hk a).num _ (by omega) hs.kc)
theorem jF(h:bY s=0)(hk:k<s.length):s[k].o.length<=16/\s[k].h.length<=16/\s[k].u.length<=16/\s[k].f.length<=16/\s[k].s.length<=16:=by
 have a:=gG h hk (lk1 s[k]!) (by simp[lks]);unfold lk1 at a
 grind
theorem aK0{t:Tb}{r:List Vl}(h:cY t r=0)(hl:r.length<=1000):X.rowOK r:=by
 refine⟨by omega,λv hv=>?_⟩;obtain⟨j,hj,rfl⟩:=zgo hv;unfold cY at h;split at h
 ·have:=eW.1 h j (zmr.2 hj)
  rw[zep r j hj]at this;unfold mW at this;split at this
  ·cases this
  ·rename_i q
   have q:=by simpa using q
   have:=(aA7 q).1;unfold X.lim;omega
 ·cases h
end
section
variable(ex:Tb->List Vl->Int)(b:Bs)(t:Tb)(rows:List (List Vl))
def stT :Nat->Int
 |0=>dH (cY t) rows
 |1=>if jZ t rows=false then 8 else 0
 |2=>dH (ex t) rows
 |3=>if pZ b t rows=false then 10 else 0
 |_=>if rE t rows=false then 11 else 0
variable{ex b t rows}
theorem aHp(h:∀j<5,stT ex b t rows j=0):ckT ex b t rows=0:=by
 have h0:dH _ _=0:=h 0 (by omega);have a:(if jZ t _=false then(8:Int)else 0)=0:=h 1 (by omega);have c:dH _ _=0:=h 2 (by omega);have e:(if pZ b t _=false then(10:Int)else 0)=0:=h 3 (by omega);have h4:(if rE t _=false then(11:Int)else 0)=0:=h 4 (by omega);unfold ckT
 grind
theorem aLQ(hy:y<5)(a:∀j<y,stT ex b t rows j=0)(h:stT ex b t rows y≠0):ckT ex b t rows=stT ex b t rows y:=by
 unfold ckT
 match y,hy with
 |0,_=>rw[zp (show dH (cY t) rows≠0 from h)];rfl
 |1,_=>
  have h0:dH (cY t) rows=0:=a 0 (by omega);have q:jZ t rows=false:=by
   cases e:jZ t rows with
   |false=>rfl
   |true=>exact absurd (show stT ex b t rows 1=0 from by unfold stT;rw[e];rfl) h
  rw[zn λq=>q h0,zp q];exact(show stT ex b t rows 1=8 from zp q).symm
 |2,_=>
  have h0:dH (cY t) rows=0:=a 0 (by omega);have c:(if jZ t rows=false then(8:Int)else 0)=0:=a 1 (by omega);rw[zn λq=>q h0,zn (λq=>by rw[zp q]at c;cases c),zp (show dH (ex t) rows≠0 from h)];rfl
 |3,_=>
  have h0:dH (cY t) rows=0:=a 0 (by omega);have c:(if jZ t rows=false then(8:Int)else 0)=0:=a 1 (by omega);have f:dH (ex t) rows=0:=a 2 (by omega);have q:pZ b t rows=false:=by
   cases e:pZ b t rows with
   |false=>rfl
   |true=>exact absurd (show stT ex b t rows 3=0 from by unfold stT;rw[e];rfl) h
  rw[zn λq=>q h0,zn (λq=>by rw[zp q]at c;cases c),zn λq=>q f,zp q];exact(show stT ex b t rows 3=10 from zp q).symm
 |4,_=>
  have h0:dH (cY t) rows=0:=a 0 (by omega);have c:(if jZ t rows=false then(8:Int)else 0)=0:=a 1 (by omega);have f:dH (ex t) rows=0:=a 2 (by omega);have g:(if pZ b t rows=false then(10:Int)else 0)=0:=a 3 (by omega);have q:rE t rows=false:=by
   cases e:rE t rows with
   |false=>rfl
   |true=>exact absurd (show stT ex b t rows 4=0 from by unfold stT;rw[e];rfl) h
  rw[zn λq=>q h0,zn (λq=>by rw[zp q]at c;cases c),zn λq=>q f,zn (λq=>by rw[zp q]at g;cases g),zp q];exact(show stT ex b t rows 4=11 from zp q).symm
end
structure CkB (N:Nat) (s:Sc) (b:Bs):Prop where
 sb:ScB s
 len:s.length<=20
 n:∀t∈s,t.o.length<10000000000
 chk:∀t∈s,tH t
 bs:BsS N b
 hn:N<=1000
noncomputable def mayC(s:Sc)(b:Bs):Bool:=decide (rightC s=0)&&bA T.rightP s b
noncomputable def whyC(s:Sc)(b:Bs):Int:=if mayC s b=true then ckW bH exR s b else 1
noncomputable def totC(s:Sc)(b:Bs)(table c a:Int):Int:=
 open Classical in if e:mayC s b=true/\(0<=table/\table<s.length)/\(0<=c/\c<s[table.toNat]!.s.length)then gV s[table.toNat]!.s[c.toNat]! a (cO bH b table)else 0
theorem yR(h:rightC s=0):bY s=0:=by
 unfold rightC at h
 grind
section
variable{n:Nat}{s:Sc}{b:Bs}(hB:CkB n s b)
include hB
theorem CkB.right :qf 61 [.agg (scC s)] (vi (rightC s)):=auX s (by have:=hB.len;omega) hB.sb hB.chk hB.n
theorem jD :qf 65 [.agg (scC s), .agg (bsC b)] (vb (mayC s b)):=by
 have a:=hB.right;have c:=gH hB.bs hB.hn hB.sb hB.len;unfold mayC;generalize rightC s=R at*;generalize bA T.rightP s b=B at*;refine pF func65 rfl λst=>?_
 repeat' first|apply wZ;rfl|constructor|(first|apply a|apply c)|apply wY;rfl
theorem acZ(hk:k<b.length):qf 66 [.agg (bsC b),vi (k:Nat)] (.seq ((cO bH b k).map roC)):=by
 have⟨f,a⟩:=hB.bs.2 _ (zgm hk);have hn:=hB.hn;have e:cO bH b k=b[k].l.map (aoA bH):=by unfold cO;rw[gX _];rfl
 rw[e];exact azJ _ b k _ (by omega) λl hl=>by
  have⟨h,i,g⟩:=a l hl
  exact⟨by omega,λc hc=>aJ3 c (g c hc)⟩
theorem aGs :qf 31 [.agg (scC s), .agg (bsC b)] (vi (whyC s b)):=by
 have hm:=jD hB;have hsl:=hB.len;rcases hmay:mayC s b with _|_
 rw[hmay]at hm;have e:whyC s b=1:=by unfold whyC;rw[hmay];rfl
 rw[e];refine pF func31 rfl λst=>?_;rotate_left;rw[hmay]at hm;have e:whyC s b=ckW bH exR s b:=by unfold whyC;rw[hmay];rfl
 rw[e];clear e;unfold mayC at hmay;rw[zba,zde]at hmay;have⟨O,hg⟩:=hmay;have A:=yR O;obtain⟨⟨_,hbl⟩,_⟩:=aS.1 hg;have v:(∀j<s.length,ckT exR b s[j]! (cO bH b j)=0)->ckW bH exR s b=0:=λh=>uW h;have a:∀i<s.length,(∀j<i,ckT exR b s[j]! (cO bH b j)=0)->ckT exR b s[i]! (cO bH b i)≠0->ckW bH exR s b=ckT exR b s[i]! (cO bH b i):=λi hi h1 h2=>afA (f:=λk:Nat=>ckT exR b s[k]! (cO bH b k)) hi h1 h2;generalize ckW bH exR s b=W at*;refine pF func31 rfl λst=>?_
 focus(repeat' first|apply wZ;rfl|constructor|apply hm|apply wY;rfl)
 refine aC (X:={x:Nat//x<=s.length/\∀j<x,ckT exR b s[j]! (cO bH b j)=0}) (λi=>(((((St.nil 41 st).var 3 27 (bsC b)).pv 16 (.seq (s.map Tb.z))).pv 17 (vi ((s.map Tb.z).length:Nat))).pv 18 (vi (i.1:Nat)))) (λi=>s.length-i.1) ⟨0,by omega,by omega⟩ ?_ λi=>?_;rotate_left;have⟨i,hi,K⟩:=i;dsimp only;by_cases R:s.length<=i;have e:W=0:=v λj hj=>K j (by omega);rotate_left;have c:i<s.length:=by omega
 have N:i<b.length:=by omega
 have P:=acZ hB N;have a:=a i c K;have I:ckT exR b s[i]! (cO bH b i)=0->∀j<i+1,ckT exR b s[j]! (cO bH b j)=0:=λh j hj=>by
  rcases zls.1 hj with q|q
  ·exact K j q
  ·subst q;exact h
 rw[zep s i c]at a I;have⟨n1,n2,n3,n4,n5⟩:=jF A c;have hrl:=rows_len hg c;have z:=λr (g:r∈cO bH b i)=>aqE aJC hg c g;have Q:=λm (hm:m∈s[i].s)=>tN hg c hm;have H:=λu (hu:u∈s[i].u)=>aFE A c hu;have E:=λf (hf:f∈s[i].f)=>amY A c hf;have B:=hB.chk _ (zgm c);generalize cO bH b i=rows at*;have F:∀r∈rows,r.length<=1000:=λr g=>by have:=(z r g).len;omega
 have T:qf 67 [.agg (qP s[i] rows b)] (vi (stT exR b s[i] rows 0)):=aAu s[i] rows b (by omega) (by omega) λr g=>by have:=F r g;omega
 have U:qf 68 [.agg (qP s[i] rows b)] (vi (stT exR b s[i] rows 1)):=awX s[i] rows b (by omega) (by omega) λu hu=>⟨by have:=(H u hu).c1;omega,λr g=>by have:=(H u hu).c2;have:=(z r g).len;omega⟩;have J:stT exR b s[i] rows 0=0->qf 69 [.agg (qP s[i] rows b)] (vi (stT exR b s[i] rows 2)):=λh=>avZ s[i] rows b (by omega) (by omega) B λr g=>aK0 (eW.1 h r g) (F r g);have V:qf 70 [.agg (qP s[i] rows b)] (vi (stT exR b s[i] rows 3)):=aoZ s[i] rows b (by omega) (by omega) (λf hf=>⟨by have:=(E f hf).c1;omega,λr g=>by have:=(E f hf).c2;have:=(z r g).len;omega⟩) hB.bs hB.hn;have Y:qf 71 [.agg (qP s[i] rows b)] (vi (stT exR b s[i] rows 4)):=ayB s[i] rows b (by omega) Q;have w:=aHp (ex:=exR) (b:=b) (t:=s[i]) (rows:=rows);have L:=λy (hy:y<5)=>aLQ (ex:=exR) (b:=b) (t:=s[i]) (rows:=rows) hy;generalize ckT exR b s[i] rows=C at*;generalize stT exR b s[i] rows=S at*
 focus(repeat' first|apply wZ;rfl|apply KR.mk;kernel_rfl|constructor|apply P|apply wY;rfl|apply wI;rfl|apply gE;omega|simp<;>omega|intro h;simp at h)
 refine aC (X:={x:Nat//x<=5/\∀j<x,S j=0}) (λy=>((((((((St.nil 41 st).var 3 27 (bsC b)).var 7 138 (qP s[i] rows b)).pv 16 (.seq (s.map Tb.z))).pv 17 (vi ((s.map Tb.z).length:Nat))).pv 18 (vi (i:Nat))).pv 29 (.agg [.fn 67 [], .fn 68 [], .fn 69 [], .fn 70 [], .fn 71 []])).pv 30 (vi (y.1:Nat)))) (λy=>5-y.1) ⟨0,by omega,by omega⟩ ?_ λy=>?_;rotate_left;have⟨y,hy,p⟩:=y;dsimp only;by_cases M:5<=y;have hw:=I (w λj hj=>p j (by omega));rotate_left;have D:S y≠0->W=S y:=λh=>by
  have e:=L y (by omega) p h
  rw[a (by rw[e];exact h),e]
 have o:S y=0->∀j<y+1,S j=0:=λh j hj=>by
  rcases zls.1 hj with q|q
  ·exact p j q
  ·subst q;exact h
 have h5:y=0\/y=1\/y=2\/y=3\/y=4:=by omega
 rcases h5 with rfl|rfl|rfl|rfl|rfl
 generalize S 0=Z at*;rotate_left;generalize S 1=Z at*;rotate_left;have J:=J (p 0 (by omega));generalize S 2=Z at*;rotate_left;generalize S 3=Z at*;rotate_left;generalize S 4=Z at*
 all_goals (repeat' first|refine⟨⟨5,by omega,o ‹_›⟩,?_,?_⟩|refine⟨⟨4,by omega,o ‹_›⟩,?_,?_⟩|refine⟨⟨3,by omega,o ‹_›⟩,?_,?_⟩|refine⟨⟨2,by omega,o ‹_›⟩,?_,?_⟩|refine⟨⟨1,by omega,o ‹_›⟩,?_,?_⟩|refine⟨⟨i+1,by omega,hw⟩,?_,?_⟩|apply wZ;rfl|omega|constructor|apply Y|apply V|apply J|apply U|apply T|show(_:PV)=_;rw[D ‹_›];done|apply ixV pk 4;(iterate 6 rfl);(focus repeat' constructor);rfl;intro _;rfl;intro _;decide;intro _;rfl;rfl|apply ixV pk 3;(iterate 6 rfl);(focus repeat' constructor);rfl;intro _;rfl;intro _;decide;intro _;rfl;rfl|apply ixV pk 2;(iterate 6 rfl);(focus repeat' constructor);rfl;intro _;rfl;intro _;decide;intro _;rfl;rfl|apply ixV pk 1;(iterate 6 rfl);(focus repeat' constructor);rfl;intro _;rfl;intro _;decide;intro _;rfl;rfl|apply ixV pk 0;(iterate 6 rfl);(focus repeat' constructor);rfl;intro _;rfl;intro _;decide;intro _;rfl;rfl|show(_:PV)=_;rw[e];done|simp<;>omega|intro h;simp at h|apply hm|apply wY;rfl|intro h)
theorem ajL(table g a:Int):qf 37 [.agg (scC s), .agg (bsC b),vi table,vi g,vi a] (vi (totC s b table g a)):=by
 have hm:=jD hB;have x:=hB.len;by_cases c:¬mayC s b=true;have e:totC s b table g a=0:=by unfold totC;rw[dif_neg λq=>c q.1]
 have c:mayC s b=false:=by simpa using c
 rw[e];rw[c]at hm;rotate_left
 replace c:=zdn c
 rw[c]at hm;by_cases ht:¬(0<=table/\table<s.length);have e:totC s b table g a=0:=by unfold totC;rw[dif_neg λq=>ht q.2.1]
 rw[e];rotate_left
 replace ht:=zdn ht
 obtain⟨k,rfl⟩:∃k:Nat,table=(k:Int):=⟨table.toNat,by omega⟩;have hk:k<s.length:=by omega
 have i:=c;unfold mayC at c;rw[zba,zde]at c;have⟨o,hg⟩:=c;have p:=yR o;obtain⟨⟨_,w⟩,_⟩:=aS.1 hg;have⟨A,B,C,n4,n5⟩:=jF p hk;by_cases hs:¬(0<=g/\g<s[k].s.length);have e:totC s b k g a=0:=by
  unfold totC;rw[dif_neg];rintro⟨_,_,q⟩;rw[zin,zep s k hk]at q;exact hs q
 rw[e];rotate_left
 replace hs:=zdn hs
 obtain⟨y,rfl⟩:∃y:Nat,g=(y:Int):=⟨g.toNat,by omega⟩;have hy:y<s[k].s.length:=by omega
 have hT:=tN hg hk (zgm hy);have e:totC s b k y a=gV s[k].s[y] a (cO bH b k):=by
  unfold totC;rw[dif_pos ⟨i,ht,by rw[zin,zep s k hk];exact hs⟩];rw[zin,zin,zep s k hk,zep s[k].s y hy]
 rw[e];have u:=acZ hB (k:=k) (by omega);have v:=acN s[k].s[y] (cO bH b k) hT;have m:=aIq hT.ns a;generalize gV s[k].s[y] a (cO bH b k)=R at*;generalize pD s[k].s[y] (cO bH b k)=M at*;generalize vU s[k].s[y] (cO bH b k)=G at*;generalize cO bH b k=rows at*
 all_goals (refine pF func37 rfl λst=>?_;repeat'(first|apply wZ;rfl|apply KR.mk;kernel_rfl|constructor|(first|apply hm|apply u|apply v)|apply aOs pk aaO (f:=oX) (z:=0) (k:=a) (n:=R);(iterate 5 rfl);rotate_left;rfl;rfl;exact m|apply cR pk (j:=0) (row:=(default:Tb).z);(iterate 6 rfl);rotate_left;rfl;(intro hw;exfalso;first|focus(simp[gw]at hw;done)|simp[gw]at hw;omega);(intro hw;exfalso;first|focus(simp[gw]at hw;done)|simp[gw]at hw;omega);(intro hw;exfalso;first|focus(simp[gw]at hw;done)|simp[gw]at hw;omega);rfl|apply wY;rfl|apply wI;rfl|apply gE;omega|intro h;simp at h;omega|intro h;simp at h))
end
end
section
attribute [local irreducible] Ev PWp
theorem aAa(l:List Pt)(st:aD)(hl:l.length<1000000000000):qc 287 [.seq (l.map Pt.z)] st (LR 154 11 st (l.map Pt.z)):=by
 refine pC func287 rfl ?_
 repeat' first|refine Cn.rr ?_;(first|exact .inr ⟨rfl,hb h,zsr _⟩|exact .inl ⟨id',by rw[zql],a,aA _ _ _,bN a⟩);done|apply wZ;rfl|constructor|apply ap0 pk (f:=Pt.z) l 96;(iterate 10 rfl);exactλ_=>rfl;exactλ_=>rfl;exact fR;omega;omega;rfl;intro id' a|apply aGC pk;(iterate 6 rfl);intro b hb|intro h
theorem abK(l:List Pt)(st:aD)(hl:l.length<1000000000000):qc 287 [.seq (l.map Pt.z)] st λp S=>∃id,p= .vec id 11 0 l.length/\st id=none/\S=upd st id (some (.arr 154 (l.map Pt.z))):=
 abQ (ahK (aAa l st hl)) λp st' ⟨id,a,c,e⟩=>⟨p,st',zwr _,zsr _,id,by rw[a,zql],c,e⟩
end
end Go.Proofs.YtigmnfepdlbcpaaGreatDoor
namespace Go.Proofs.YtigmnfepdlbcpaaGreatDoor.T
open Go Go.Abs Tryz
attribute [local irreducible] Ev PWp
variable{k:Nm}{l:List Pt}{i:Nat}{n t:Int}
def aeC(p:Pt):Pt:={p with gone:=true}
def fY(k:Nm)(l:List Pt):List Pt:=l.map λp=>if aH p=k then aeC p else p
def eraseP(c:Cl)(k:Nm):Cl:={c with p:=fY k c.p}
def lI(k:Nm)(l:List Pt)(i:Nat):List Pt:=fY k (l.take i)++l.drop i
theorem axN(h:i<l.length):(lI k l i)[i]?=some l[i]:=by
 unfold lI fY
 grind
theorem zB(h:i<l.length):lI k l (i+1)=if aH l[i]=k then(lI k l i).set i (aeC l[i])else lI k l i:=by
 unfold lI fY;rw[zts h,zmd];have a:((l.take i).map λp=>if aH p=k then aeC p else p).length=i:=by simp;omega
 split
 ·rename_i e
  rw[List.set_append_right _ _ (by omega),a,List.drop_eq_getElem_cons h];simp only[zmp,List.map_nil,zp e,Nat.sub_self,List.set_cons_zero,zas,List.cons_append,List.nil_append]
 ·rename_i e
  rw[List.drop_eq_getElem_cons h];simp[e]
def aMx(st:aD)(c:Cl)(k:Nm)(p:PV)(st':aD):Prop:=
 ∃id,p= .agg [vi c.k,vi c.val.k,vi c.val.n,vs c.val.s, .vec id 11 0 c.p.length]/\st'=upd st id (some (.arr 154 ((fY k c.p).map Pt.z)))/\st id=none
theorem aCG(p:Pt)(d:Dt)(n:Int):aH p=⟨d,n⟩↔((aH p).d.dev=d.dev/\(aH p).d.seq=d.seq)/\(aH p).a=n:=by
 rw[Nm.ext_iff,Dt.ext_iff]
theorem aIt(c:Cl)(d:Dt)(at_:Int)(st:aD)(hl:c.p.length<1000000000000):qc 206 [.agg c.z, .agg d.z,vi at_] st (aMx st c ⟨d,at_⟩):=by
 refine pC func206 rfl ?_
 repeat' first|apply cP;rfl;apply abK c.p _ hl;rintro _ st' (⟨id,rfl,g,rfl⟩)|apply wZ;rfl|constructor|apply wY;rfl
 have g:st id=none:=g;have j:lI ⟨d,at_⟩ c.p 0=c.p:=rfl;refine aC (X:={x:Nat//x<=c.p.length}) (λi=>((((((((St.nil 34 (upd st id (some (.arr 154 ((lI ⟨d,at_⟩ c.p i.1).map Pt.z))))).pv 2 (vi at_)).var 3 92 ([vi c.k,vi c.val.k,vi c.val.n,vs c.val.s, .vec id 11 0 c.p.length])).var 4 51 (d.z)).var 6 92 ([vi 0,vi 0,vi 0,vs e0, .val (.slice none 0 0)])).pv 14 (.vec id 11 0 c.p.length)).pv 15 (vi (c.p.length:Nat))).pv 16 (vi (i.1:Nat)))) (λi=>c.p.length-i.1) ⟨0,by omega⟩ ?_ λi=>?_;rotate_left;have⟨i,hi⟩:=i;dsimp only;have hf:c.p.length<=i->lI ⟨d,at_⟩ c.p i=fY ⟨d,at_⟩ c.p:=λh=>by unfold lI;rw[ztl h,List.drop_eq_nil_of_le h,List.append_nil]
 have hg:=λh:i<c.p.length=>axN (k:=⟨d,at_⟩) h
 all_goals (repeat' first|apply wDx pk;rfl;kernel_rfl;rfl;rfl|apply Cn.cf;focus((apply qV);done)|refine Cn.rr ?_;have e:=hf (by omega);refine⟨id,rfl,?_,g⟩;show upd st id _=upd st id _;rw[e];done|((refine⟨⟨i+1,by omega⟩,?_,by simp only;omega⟩);rw[zB ‹_›,zp ((aCG _ _ _).2 h)];focus((repeat' first|exact Cn.any (cZ (by((simp only[St.pv,St.put,St.sst,St.setv,St.nil,St.var,eX]);(done))))|constructor);done))|((refine⟨⟨i+1,by omega⟩,?_,by simp only;omega⟩);rw[zB ‹_›,zn λq=>by have:=(aCG _ _ _).1 q;exact h this.1.1 this.1.2 this.2];focus((repeat' first|exact Cn.t0|constructor);done))|apply wZ;rfl|exact Cn.t0|omega|constructor|apply ldL pk Pt.elem (a:=(c.p[i]'‹_›));rfl;rfl;rotate_left;rfl;exact aA _ _ _;intro _;exact hg ‹_›;rfl|apply ixA pk;(iterate 5 rfl);rotate_left;rfl;intro hw;exact(show _=((i:Nat):Int)from by omega);intro hw;omega;rfl;exact Nat.zero_add _|apply stF pk (f:=Pt.z) (c.p[i]'‹_›) (aeC (c.p[i]'‹_›));rfl;rfl;exact aA _ _ _;rfl;exact hg ‹_›;rfl;rfl|apply wY;rfl|intro h;simp at h|exact rfl)
theorem erase_spec(c:Cl)(d:Dt)(at_:Int)(hl:c.p.length<1000000000000):qf 206 [.agg c.z, .agg d.z,vi at_] (.agg (eraseP c ⟨d,at_⟩).z):=λst=>
 eS (aIt c d _ _ hl) λp st' h=>by
  obtain⟨id,rfl,rfl,a⟩:=h
  refine .inl ⟨id,154,(fY _ _).map _,_,st,aA _ _ _,aoW, .agg (.cons .refl (.cons .refl (.cons .refl (.cons .refl (.cons ?_ .nil))))),bN a,rfl,rfl⟩
  have e:((fY ⟨d,at_⟩ c.p).map Pt.z).length=c.p.length:=by simp[fY]
  rw[<-e];exact .all
def wrF(d:Dt)(t:Int):List Pt->Int->Int
 |[],n=>n
 |p::r,n=>if p.d≠d then wrF d t r n else if p.m≠t then-1 else wrF d t r (max n (p.a+1))
def bT(c:Cl)(w:Sp):Int:=if withinB w.m 1 1125899906842624=true/\mayN ⟨⟨w.dev,w.seq⟩,0⟩=true then wrF ⟨w.dev,w.seq⟩ w.m c.p 0 else-1
theorem awL{d:Dt}(h:i<l.length):wrF d t (l.drop i) n=if l[i].d≠d then wrF d t (l.drop (i+1)) n else if l[i].m≠t then-1 else wrF d t (l.drop (i+1)) (max n (l[i].a+1)):=by
 rw[List.drop_eq_getElem_cons h];rfl
theorem asT(c:Cl)(w:Sp)(hl:c.p.length<1000000000000)(hf:∀p∈c.p,bP p=true):qf 290 [.agg c.z, .agg w.z] (vi (bT c w)):=by
 refine pF func290 rfl λst=>?_
 repeat' first|apply wZ;rfl|constructor|(first|apply uL|apply jD ⟨⟨w.dev,w.seq⟩,0⟩)|show(_:PV)=_;rw[bT,zn (by grind)];done|apply wY;rfl|intro h;simp at h
 have j:withinB w.m 1 1125899906842624=true/\mayN ⟨⟨w.dev,w.seq⟩,0⟩=true:=by grind
 refine aC (X:={x:Nat×Int//x.1<=c.p.length/\0<=x.2/\x.2<=2000/\wrF ⟨w.dev,w.seq⟩ w.m (c.p.drop x.1) x.2=wrF ⟨w.dev,w.seq⟩ w.m c.p 0}) (λi=>(((((((St.nil 47 st).var 3 30 (w.z)).var 5 51 ([vi w.dev,vi w.seq])).pv 6 (vi i.1.2)).pv 25 (.seq (c.p.map Pt.z))).pv 26 (vi (c.p.length:Nat))).pv 27 (vi (i.1.1:Nat)))) (λi=>c.p.length-i.1.1) ⟨(0,0),by simp,by simp,by simp,rfl⟩ ?_ λi=>?_;rotate_left;obtain⟨⟨i,n⟩,hi,f,g,a⟩:=i;simp only at hi f g a;dsimp only;have hs:=λh:i<c.p.length=>awL (d:=⟨w.dev,w.seq⟩) (t:=w.m) (n:=n) h;have hb:=λh:i<c.p.length=>mZ (hf _ (zgm h));have hd:=λh:i<c.p.length=>(Dt.ext_iff (c.p[i]'h).d ⟨w.dev,w.seq⟩);by_cases e:i<c.p.length;have hs:=hs e;have hb:=hb e;have hd:=hd e;rotate_left
 all_goals (repeat' first|((first|refine⟨⟨(i+1,n),by simp only;omega,f,g,by rw[<-a,hs];grind⟩,?_,by simp only;omega⟩|refine⟨⟨(i+1,max n ((c.p[i]'e).a+1)),by simp only;omega,by simp only;omega,by simp only;omega,by rw[<-a,hs];grind⟩,?_,by simp only;omega⟩);focus((repeat' first|constructor);done))|apply wZ;rfl|omega|constructor|show(_:PV)=_;rw[bT,zp j,<-a,List.drop_eq_nil_of_le (by omega)];rfl;done|show(_:PV)=_;rw[bT,zp j,<-a,hs];grind;done|apply wI;rfl|apply gE;omega|intro h;simp at h|intro h|simp)
theorem aGk(c:FuncId)(caps:List PV)(f:Pt->Bool)(l:List Pt)(hl:l.length<4611686018427387904)(hf:∀p,qf c ([.agg p.z]++caps) (vb (f p))):qf 346 [.seq (l.map Pt.z), .fn c caps] (vi (match l.findIdx? f with|some k=>((k:Nat):Int)|none=> -1)):=by
 refine pF func346 rfl λst=>?_
 repeat' first|apply wZ;rfl|constructor
 refine aC (X:={x:Nat//x<=l.length/\∀j (h:j<x) (e:j<l.length),f l[j]=false}) (λi=>(((((St.nil 19 st).pv 0 (.seq (l.map Pt.z))).pv 1 (.fn c caps)).pv 7 (vi ((l.map Pt.z).length:Nat))).pv 8 (vi (i.1:Nat)))) (λi=>l.length-i.1) ⟨0,by omega,by omega⟩ ?_ λi=>?_;rotate_left;have⟨i,hi,a⟩:=i;dsimp only
 all_goals (repeat' first|refine⟨⟨i+1,by omega,λj g e=>by rcases zls.1 g with q|q;exact a j q e;subst q;assumption⟩,?_,?_⟩|apply wZ;rfl|omega|constructor|apply hf|show(_:PV)=_;(first|rw[nK ‹_› ‹_› a];done|rw[oV ‹_› a]);done|apply wY;rfl|apply wI;rfl|apply gE;omega|simp<;>omega|intro h;simp at h|intro h)
def eA(c:Cl)(w:Sp)(up:Nm):Int:=if up=Nm.zero then 0 else match c.p.findIdx? (λp=>decide (aH p=up))with
 |none=>4
 |some k=>match c.p[k]? with
  |none=>4
  |some p=>if aK p≠w/\gD (aK p) w=false then 14 else 0
theorem aIF(up:Nm)(p:Pt):qf 347 ([.agg p.z]++[.rp up.z]) (vb (decide (aH p=up))):=by
 refine pF func347 rfl λst=>?_
 repeat' first|apply wZ;rfl|apply KR.mk;kernel_rfl|constructor|apply qV|show(_:PV)=_;rw[Dt.eqb,Nm.eqb];done|apply wY;rfl
theorem auR(c:Cl)(w:Sp)(up:Nm)(hl:c.p.length<1000000000000):qf 291 [.agg c.z, .agg w.z, .agg up.z] (vi (eA c w up)):=by
 have hz:up=Nm.zero↔(up.d.dev=0/\up.d.seq=0)/\up.a=0:=by rw[Nm.ext_iff,Dt.ext_iff];rfl
 have hx:=aGk _ _ (λp=>decide (aH p=up)) c.p (by omega) (aIF up);rcases hI:c.p.findIdx? (λp=>decide (aH p=up))with _|k
 rw[hI]at hx;rotate_left;rw[hI]at hx;have⟨hk,e,f⟩:=zfi.1 hI;have g:=Sp.ext_iff (aK c.p[k]) w;have a:up≠Nm.zero->eA c w up=if aK c.p[k]≠w/\gD (aK c.p[k]) w=false then 14 else 0:=λh=>by
  rw[eA,zn h,hI];simp only[zgg hk]
 all_goals (refine pF func291 rfl λst=>?_;repeat'(first|apply wZ;rfl|constructor|(first|apply hx|apply nQ (c.p[k]'hk)|apply pU (aK (c.p[k]'hk)) w)|show(_:PV)=_;(first|rw[eA,zp (hz.2 h)];done|rw[a λq=>by have:=hz.1 q;grind];grind);done|show(_:PV)=_;rw[eA,zn (λq=>by have:=hz.1 q;grind),hI];done|apply bO 5;rfl;rfl|apply wY;rfl|apply wI;rfl|apply gE;omega|intro h;simp at h))
def tyF(w:Sp):List UInt8->Int->Nm->List Pt
 |[],_,_=>[]
 |b::r,n,up=>⟨⟨1,(b.toNat:Int),e0⟩,⟨w.dev,w.seq⟩,n,w.m,up.d,up.a,false⟩::tyF w r (n+1) ⟨⟨w.dev,w.seq⟩,n⟩
def typeP(c:Cl)(s:ByteArray)(w:Sp)(up:Nm):Cl×Int:=
 if rightP c≠0 then(Cl.zero,rightP c)
 else if bT c w<0 then(Cl.zero,1)
 else if 200<s.size\/2000<c.p.length+s.size\/2000<bT c w+s.size then(Cl.zero,2)
 else if eA c w up≠0 then(Cl.zero,eA c w up)
 else({c with p:=cM (c.p++tyF w s.data.toList (bT c w) up)},0)
theorem afD{d:Dt}{t:Int}:∀{l:List Pt}{n:Int},(∀p∈l,bP p=true)->0<=n->n<=2000-> -1<=wrF d t l n/\wrF d t l n<=2000
 |[],n,_,h1,h2=>by simp only[wrF];omega
 |p::r,n,hf,h1,h2=>by
  have hp:=mZ (hf p (by simp))
  have a:∀q∈r,bP q=true:=λq hq=>hf q (by grind)
  simp only[wrF]
  split
  ·exact afD a h1 h2
  ·split
   ·omega
   ·exact afD a (by omega) (by omega)
theorem yK{c:Cl}{w:Sp}(hf:∀p∈c.p,bP p=true): -1<=bT c w/\bT c w<=2000:=by
 unfold bT;split
 ·exact afD hf (by simp) (by simp)
 ·omega
def upI(w:Sp)(n:Int)(up:Nm)(i:Nat):Nm:=if i=0 then up else⟨⟨w.dev,w.seq⟩,n+i-1⟩
def tyE(w:Sp)(n:Int)(up:Nm)(i:Nat)(b:UInt8):Pt:=⟨⟨1,(b.toNat:Int),e0⟩,⟨w.dev,w.seq⟩,n+i,w.m,(upI w n up i).d,(upI w n up i).a,false⟩
theorem aqN(w:Sp):∀(bs:List UInt8)(n:Int)(up:Nm)(i:Nat)(b:UInt8),bs[i]?=some b->(tyF w bs n up)[i]?=some (tyE w n up i b)
 |[],_,_,_,_,h=>by simp at h
 |c::bs,n,up,0,b,h=>by
  simp at h;subst h
  simp[tyF,upI,tyE]
 |c::bs,n,up,i+1,b,h=>by
  have:=aqN w bs (n+1) ⟨⟨w.dev,w.seq⟩,n⟩ i b h
  rw[tyF,List.getElem?_cons_succ,this]
  have e:upI w (n+1) ⟨⟨w.dev,w.seq⟩,n⟩ i=upI w n up (i+1):=by
   unfold upI
   grind
  rw[tyE,tyE,e];congr 2;omega
theorem aaE(w:Sp):∀(bs:List UInt8)(n:Int)(up:Nm),(tyF w bs n up).length=bs.length
 |[],_,_=>rfl
 |c::bs,n,up=>by rw[tyF,zlc,aaE w _];rfl
theorem aM7(w:Sp)(n:Int)(up:Nm)(i:Nat)(b:UInt8):qf 292 [.agg [vi 1,vi (b.toNat:Int),vs e0,vi w.dev,vi w.seq,vi (n+i),vi w.m,vi ((upI w n up i).d.dev),vi ((upI w n up i).d.seq),vi ((upI w n up i).a),vb false]] (.agg [vi w.dev,vi w.seq,vi (n+i)]):=qV (tyE w n _ i b)
theorem type_spec(c:Cl)(s:ByteArray)(w:Sp)(d:Dt)(at_:Int)(hl:c.p.length<1000000000000)(hs:s.size<1000000):qf 204 [.agg c.z,vs s, .agg w.z, .agg d.z,vi at_] (.tup [.agg (typeP c s w ⟨d,at_⟩).1.z,vi ((typeP c s w ⟨d,at_⟩).2)]):=by
 intro st;by_cases y:rightP c=0;have A:=(gJ y).2.2.1;have D:=yK (c:=c) (w:=w) A.formed;have C:=y;obtain⟨a,u⟩:∃t,tyF w s.data.toList (bT c w) ⟨d,at_⟩=t:=⟨_,rfl⟩;have B:a.length=s.size:=by rw[<-u,aaE];rfl
 refine pC func204 rfl ?_
 repeat' first|apply Cn.cf;focus(((first|apply(right_spec c (by omega))|apply asT c w hl A.formed|apply auR c w ⟨d,at_⟩ hl));done)|apply cP;rfl;apply abK c.p _ hl;rintro _ st' (⟨id,rfl,g,rfl⟩)|refine Cn.any ?_;refine⟨_,_,_,rfl,zwf _,zsr _,?_,rfl⟩;((first|have e:typeP c s w ⟨d,at_⟩=(Cl.zero,1):=(by unfold typeP;grind);rw[e];rfl|have e:typeP c s w ⟨d,at_⟩=(Cl.zero,2):=(by unfold typeP;grind);rw[e];rfl|have e:typeP c s w ⟨d,at_⟩=(Cl.zero,eA c w ⟨d,at_⟩):=(by unfold typeP;grind);rw[e];rfl);done)|apply wZ;rfl|show Cn _;constructor|apply wY;rfl|omega|simp<;>omega|intro h;simp at h|intro h
 have g:st id=none:=g;refine aC (X:={x:Nat×Nat//x.1<=s.size/\st x.2=none}) (λi=>((((((((((St.nil 103 (upd st i.1.2 (some (.arr 154 ((c.p++a.take i.1.1).map Pt.z))))).pv 1 (vs s)).var 5 92 (c.z)).var 7 30 (w.z)).var 10 92 ([vi 0,vi 0,vi 0,vs e0, .val (.slice none 0 0)])).pv 13 (vi (bT c w))).var 14 306 ([vi ((upI w (bT c w) ⟨d,at_⟩ i.1.1).d.dev),vi ((upI w (bT c w) ⟨d,at_⟩ i.1.1).d.seq),vi ((upI w (bT c w) ⟨d,at_⟩ i.1.1).a)])).pv 16 (.vec i.1.2 11 0 (c.p.length+i.1.1))).pv 68 (vi (s.size:Nat))).pv 69 (vi (i.1.1:Nat)))) (λi=>s.size-i.1.1) ⟨(0,id),by simp,g⟩ ?_ λi=>?_;dsimp only;rw[List.take_zero,List.append_nil];rotate_left;obtain⟨⟨i,id⟩,hi,g⟩:=i;simp only at hi g;dsimp only;have o:(c.p++a.take i).length=c.p.length+i:=by rw[zla,zlt];omega
 have k:((c.p++a.take i).map Pt.z).length=c.p.length+i:=by rw[zql,o]
 by_cases p:i<s.size;have hb:s[i]?=some s[i]:=getElem?_pos s i p;have hp:=aqN w s.data.toList (bT c w) ⟨d,at_⟩ i s[i] (by rw[<-hb];simp[p];rfl);rw[u]at hp;have m:a.take (i+1)=a.take i++[tyE w (bT c w) ⟨d,at_⟩ i s[i]]:=by rw[List.take_add_one,hp];rfl
 rotate_left;have j:a.take i=a:=ztl (by omega);rw[j];have z:typeP c s w ⟨d,at_⟩=({c with p:=cM (c.p++a)},0):=by
  unfold typeP;rw[zn (by omega),zn (by omega),zn (by omega),zn (by omega),<-u]
 rotate_left;refine pC func204 rfl ?_
 all_goals (repeat' first|refine Cn.any ?_;refine⟨_,_,_,rfl,zwf _,zsr _,?_,rfl⟩;((have e:typeP c s w ⟨d,at_⟩=(Cl.zero,rightP c):=(by unfold typeP;rw[zp y]);rw[e];rfl);done)|refine Cn.any ⟨_,_,st,rfl,zwr _,aG (aG (zsr _) g) g,?_,rfl⟩;rw[z];rfl|apply Cn.cf;focus((apply(aiX (c.p++a) (by rw[j]at o;omega)));done)|apply wDx pk;rfl;kernel_rfl;rfl;rfl|apply Cn.cf;focus((apply aM7 w (bT c w) ⟨d,at_⟩ i s[i]);done)|refine⟨⟨(i+1,id'),by simp only;omega,gM v⟩,?_,?_⟩;dsimp only;rw[m,<-zas]|exact Cn.any (aM ‹_›)|apply wZ;rfl|exact Cn.t0|show Cn _;constructor|apply(right_spec c (by omega))|apply aKY 99;rfl;exact aA _ _ _;rw[j]at k;exact k;exact aoW|exact rfl|show _=_;(focus(simp[upI];omega))|apply apV pk (f:=Pt.z) [tyE w (bT c w) ⟨d,at_⟩ i s[i]] 96;(iterate 9 rfl);exact aA _ _ _;omega;exactλ_=>rfl;exactλ_=>rfl;exact aaQ;(focus(simp;omega));(focus(simp;omega));rfl;intro id' v|apply cvA pk.htt;(iterate 5 rfl);(refine⟨?_,?_⟩<;>(first|omega|have q:=(s[i]'p).toNat_lt;omega));rfl|apply sxA pk.htt i s[i];(iterate 6 rfl);exact hb;rfl|apply wY;rfl|omega|intro h|simp<;>omega)
end Go.Proofs.YtigmnfepdlbcpaaGreatDoor.T
namespace Go.Proofs.YtigmnfepdlbcpaaGreatDoor
open Go Go.Abs Tryz
variable{xs:List Pt}{i j k y:Nat}{l:Ln}{f:Fr}{b:Bs}{t:Tb}{c col key:Int}{α:Type}{s:Sc}{S st:aD}{a g o x:Option AObj}{e:TypeId}{rb w:Bool}{p:Fr->Bool}{cs:List Cl}{who:Dt}{tx:Cl->Int}
section
attribute [local irreducible] Ev PWp
def cN(xs:List Pt)(i:Nat)(a:List Pt):List Pt:=xs.take i++a++xs.drop i
theorem auO(xs:List Pt)(i:Nat)(a:List Pt):(cN xs i a).map Pt.z=(xs.map Pt.z).take i++a.map Pt.z++(xs.map Pt.z).drop i:=by
 unfold cN;simp
theorem avP{a:List Pt}(hi:i<=xs.length):(cN xs i a).length=xs.length+a.length:=by
 unfold cN
 grind
def aLE(st:aD)(id:Nat)(zs:List Pt)(r:PV)(S:aD):Prop:=∃id',r= .vec id' 11 0 zs.length/\upd st id none id'=none/\S=upd (upd st id none) id' (some (.arr 154 (zs.map Pt.z)))
theorem arY(xs o:List Pt)(i id n:Nat)(st:aD)(S:st id=some (.arr 154 (xs.map Pt.z)))(hn:xs.length=n)(hi:i<=n)(hy:o≠[])(hl:n+o.length<1000000000000):qc 281 [.vec id 11 0 n,vi (i:Nat), .seq (o.map Pt.z)] st (aLE st id (cN xs i o)):=by
 obtain⟨m,hm⟩:∃m,o.length=m:=⟨_,rfl⟩;have y:(o.map Pt.z).length=m:=(zql _).trans hm;have Z:0<m:=by rw[<-hm];exact List.length_pos_iff.2 hy
 rw[hm]at hl;have B:(cN xs i o).length=n+m:=by rw[avP (by omega),hn,hm]
 have K:=auO xs i o;have hB:=fR;refine pC func281 rfl ?_;by_cases R:i=n;subst R;have hz:cN xs i o=xs++o:=by unfold cN;rw[ztl (by omega),List.drop_of_length_le (by omega),List.append_nil]
 rotate_left;have W:i<n:=by omega
 have x:(xs.map Pt.z).length=n:=(zql _).trans hn;have C:∀r∈xs.map Pt.z,r.all PV.one=true:=λr v=>by obtain⟨a,_,rfl⟩:=zmq.1 v;rfl
 have D:∀r∈xs.map Pt.z,r.length=11:=λr v=>by obtain⟨a,_,rfl⟩:=zmq.1 v;rfl
 have F:∀r∈o.map Pt.z,r.all PV.one=true:=λr v=>by obtain⟨a,_,rfl⟩:=zmq.1 v;rfl
 have u:∀r∈o.map Pt.z,r.length=11:=λr v=>by obtain⟨a,_,rfl⟩:=zmq.1 v;rfl
 have hj:∀k,(xs.map Pt.z++aX k 11).length=n+k:=λk=>by rw[zla,x];unfold aX;rw[List.length_replicate]
 generalize U:xs.map Pt.z=X at*;generalize V:o.map Pt.z=Y at*;have N:Y≠[]:=λe=>by rw[e]at y;simp at y;omega
 obtain⟨yc,ycs,yr,M⟩:∃c cs L,Y=(c::cs)::L:=by
  cases E:Y with
  |nil=>exact absurd E N
  |cons a b=>
   cases ha:a with
   |nil=>have:=u a (by rw[E];simp);rw[ha]at this;cases this
   |cons c cs=>exact⟨c,cs,b,rfl⟩
 refine yF 0 m (id:=id) (rows:=X) rfl S oU x (by omega) (by omega) (λk q hk g=>?_) λq g=>?_;have g:st q=none:=g;have T:(X++aX k 11).take i=X.take i:=List.take_append_of_le_length (by omega);have Q:(X.take i++aX (n+m-i) 11).length=n+m:=by rw[zla,zlt];unfold aX;rw[List.length_replicate];omega
 have P:(aU (X.take i++aX (n+m-i) 11) i Y).length=n+m:=by rw[dX (by omega),Q]
 have A:aU (aU (X.take i++aX (n+m-i) 11) i Y) (i+m) (X.drop i)=(cN xs i o).map Pt.z:=by rw[K];rw[<-x];exact yT y (by omega)
 rotate_left;have g:st q=none:=g;have P:(aU (X++aX m 11) (i+m) (X.drop i)).length=n+m:=by rw[dX (by rw[zld,hj];omega),hj]
 have A:aU (aU (X++aX m 11) (i+m) (X.drop i)) i Y=(cN xs i o).map Pt.z:=by rw[K];exact zQ y (by omega)
 all_goals (repeat' first|refine Cn.any ⟨_,_,upd (upd st id none) q (some (.arr 154 ((cN xs i o).map Pt.z))),rfl,zwr _,qX (by rw[A]),q,(by rw[B]),lX g,rfl⟩|refine Cn.any ⟨_,_,upd (upd st id none) id2 (some (.arr 154 ((cN xs i o).map Pt.z))),rfl,zwr _,qY (by rw[A]) g,id2,(by rw[B];congr 1;omega),oS p,rfl⟩|apply wD pk [8] [];kernel_rfl;rfl;rfl|refine Cn.rr ?_;exact⟨id',(by rw[B,hm]),lX J,(by rw[hz];rfl)⟩;done|apply wZ;rfl|omega|constructor|refine asB pk (rows:=X++aX k 11) rfl rfl rfl rfl (.inr (aA _ _ _)) (by rw[hj];omega) rfl λc H I=>?_;have O:=I (aA _ _ _);rw[hj]at O|apply adK pk (j:=i) (rows:=X++aX k 11);(iterate 4 rfl);rotate_left;rfl;rfl;exact .inr (aA _ _ _);rw[hj];omega;exact bC rfl rfl;rw[hj];omega|refine apZ pk (kq:= .i64) (kn:= .i64) (i:=i) (m:=n+m-i) (sz:=11) (rows:=X++aX k 11) 96 rfl (congrArg (λz=>some (PV.val (.int .i64 z))) (show _=((n+m-i:Nat):Int)from by omega)) rfl (by kernel_rfl) rfl rfl rfl rfl (aA _ _ _) (by rw[hj];omega) (by rw[hj];omega) (by rw[hj];omega) hB (by omega) (by omega) (by omega) rfl λid2 p=>?_;rw[T];have hne:q≠id2:=(λe=>by rw[<-e]at p;have p:=(aA _ _ _).symm.trans p;cases p)|apply mL pk (i) (n+m-i);(iterate 4 rfl);rotate_left;rfl;intro _;exact⟨_,bC rfl rfl,by omega⟩;intro _;exact⟨_,bZ,by omega⟩;intro _;omega;intro _;omega;rfl|apply mL pk (i+m) (n-i);(iterate 4 rfl);rotate_left;rfl;intro _;exact⟨_,bC rfl (show _=((i+m:Nat):Int)from by omega),by omega⟩;intro _;exact⟨_,bZ,by omega⟩;intro _;omega;intro _;omega;rfl|apply mL pk (i) (n-i);(iterate 4 rfl);rotate_left;rfl;intro _;exact⟨_,bC rfl rfl,by omega⟩;intro _;exact⟨_,bZ,by omega⟩;intro _;omega;intro _;omega;rfl|refine asB pk (rows:=X++aX m 11) rfl rfl rfl rfl (.inl (aA _ _ _)) (by rw[hj];omega) rfl λc H I=>?_;rw[hj]at H|apply adK pk (j:=n+m) (rows:=X++aX m 11);(iterate 4 rfl);rotate_left;rfl;rfl;exact .inl (aA _ _ _);rw[hj];omega;exact bC rfl (show _=((n+m:Nat):Int)from by omega);rw[hj];omega|refine ovA pk (w:=true) (tS:=90) (tR:=4) (off:=i+m) (len:=n-i) (e:=154) (sz:=11) (rows:=X++aX m 11) rfl rfl func341 (by kernel_rfl) (by kernel_rfl) (by kernel_rfl) (by kernel_rfl) rfl rfl rfl M rfl (.inl (aA _ _ _)) (by rw[hj];omega) oU (by omega) ?_ rfl rfl ?_;rotate_left|refine mO pk (e:=154) (sz:=11) (rows:=X++aX m 11) (new:=X.drop i) (m:=n+m-i) (n:=n-i) (len:=n-i) rfl rfl rfl rfl rfl (aA _ _ _) (by rw[hj];omega) (oR (k:=m) rfl (.inl (aA _ _ _)) x (by omega) oU C (by omega) (by omega)) (by rw[zld];omega) (λr v=>D r (List.mem_of_mem_drop v)) (by omega) (by omega) rfl ?_|refine mO pk (e:=154) (sz:=11) (rows:=aU (X++aX m 11) (i+m) (X.drop i)) (new:=Y) (m:=Y.length) (n:=Y.length) (len:=n+m-i) rfl rfl rfl rfl rfl (aA _ _ _) (by omega) (uP aT rfl rfl rfl u F) rfl u (by omega) (by omega) rfl ?_|refine mO pk (e:=154) (sz:=11) (rows:=X.take i++aX (n+m-i) 11) (new:=Y) (m:=Y.length) (n:=Y.length) (len:=n+m-i) rfl rfl rfl rfl rfl (aA _ _ _) (by omega) (uP aT rfl rfl rfl u F) rfl u (by omega) (by omega) rfl ?_|refine mO pk (e:=154) (sz:=11) (rows:=aU (X.take i++aX (n+m-i) 11) i Y) (new:=X.drop i) (m:=n-i) (n:=n-i) (len:=n-i) rfl rfl rfl rfl rfl (aA _ _ _) (by omega) (oR (k:=k) rfl (.inr ((aB ‹_›).trans ((aB ‹_›).trans (aA _ _ _)))) x (by omega) oU C (by omega) (by omega)) (by rw[zld];omega) (λr v=>D r (List.mem_of_mem_drop v)) (by omega) (by omega) rfl ?_|apply apV pk (f:=Pt.z) o 96;(iterate 9 rfl);(assumption);omega;exactλ_=>rfl;exactλ_=>rfl;exact hB;omega;omega;rfl;intro id' J|apply aCq pk i i;(iterate 4 rfl);rotate_left;rfl;intro _;exact bC rfl rfl;intro _;exact bZ;intro _;omega;intro _;omega;rfl|intro h;simp at h|intro h)
end
section
abbrev R2 :=Int×Int
def r2C(r:R2):List PV:=[vi r.1,vi r.2]
def ptP(l:Ln)(c:Int):Option Int:=if 0<=c/\c<l.c.length then(if l.c[c.toNat]!.val.k=1 then some l.c[c.toNat]!.val.n else none)else none
def dT(G:R2->Bool)(l:Ln)(f:Fr):Bool:=match ptP l f.n with
 |some k=>G (f.t,k)
 |none=>false
theorem yW{G:R2->Bool}:dT G l f=true↔∃k,ptP l f.n=some k/\G (f.t,k)=true:=by
 unfold dT
 grind
def chB(s:Sc)(b:Bs)(x y:R2):Prop:=∃k,k<b.length/\∃f∈s[k]!.f,∃l∈b[k]!.l,f.t=x.1/\f.act=1/\ptP l f.n=some x.2/\y=((k:Int),l.key)
def agD(b:Bs)(k:Nat):List R2:=b[k]!.l.map λl=>((k:Int),l.key)
def cC(b:Bs):List R2:=(List.range b.length).flatMap (agD b)
theorem lB{y:R2}:y∈cC b↔∃k,k<b.length/\∃l∈b[k]!.l,y=((k:Int),l.key):=by
 simp only[cC,agD,List.mem_flatMap,zmq]
 grind
inductive Reach (s:Sc) (b:Bs) (x:R2):R2->Prop
 |refl:Reach s b x x
 |step {y z:R2} (h:Reach s b x y) (c:chB s b y z):Reach s b x z
variable{s:Sc}{b:Bs}
theorem Reach.head{x y z:R2}(c:chB s b x y)(h:Reach s b y z):Reach s b x z:=by
 induction h with
 |refl=>exact .step .refl c
 |step _ c2 ih=>exact .step ih c2
theorem aKQ{x y:R2}(h:chB s b x y):y∈cC b:=by
 have⟨k,hk,f,_,l,hl,_,_,_,e⟩:=h;exact lB.2 ⟨k,hk,l,hl,e⟩
theorem Reach.r{x y:R2}(hx:x∈cC b)(h:Reach s b x y):y∈cC b:=by
 cases h with
 |refl=>exact hx
 |step _ c=>exact aKQ c
def aKD(s:Sc)(a:Int)(k:Nat):List (Nat×Nat):=((List.range s[k]!.f.length).filter λi=>decide (s[k]!.f[i]!.t=a)).map λi=>(k,i)
def fN(s:Sc)(a:Int):List (Nat×Nat):=(List.range s.length).flatMap (aKD s a)
theorem pQ{a:Int}{x:Nat×Nat}:x∈fN s a↔x.1<s.length/\x.2<s[x.1]!.f.length/\s[x.1]!.f[x.2]!.t=a:=by
 simp only[fN,aKD,List.mem_flatMap,zde]
 grind
def goL(F:R2->List R2->List R2)(col key:Int)(k:Nat)(ls:List Ln)(M:List R2):List R2:=ls.foldl (λM l=>if ptP l col=some key then F ((k:Int),l.key) M else M) M
def goK(F:R2->List R2->List R2)(s:Sc)(b:Bs)(key:Int)(a:List (Nat×Nat))(M:List R2):List R2:=
 a.foldl (λM x=>if s[x.1]!.f[x.2]!.act=1 then goL F s[x.1]!.f[x.2]!.n key x.1 b[x.1]!.l M else M) M
def jW(s:Sc)(b:Bs):Nat->R2->List R2->List R2
 |0,_,M=>M
 |n+1,x,M=>if x∈M then M else goK (jW s b n) s b x.2 (fN s x.1) (M++[x])
structure Tk (s:Sc) (b:Bs) (C:R2->Prop) (M M':List R2):Prop where
 sub:∀y∈M,y∈M'
 nd:M'.Nodup
 all:∀y∈M',y∈cC b
 new:∀y∈M',y∈M\/∃c,C c/\Reach s b c y
 clo:∀y∈M',y∈M\/∀c,chB s b y c->c∈M'
 me:∀c,C c->c∈M'
theorem Tk.refl{C:R2->Prop}{M:List R2}(hn:M.Nodup)(ha:∀y∈M,y∈cC b)(a:∀c,C c->c∈M):Tk s b C M M:=⟨λ_ h=>h,hn,ha,λ_ h=> .inl h,λ_ h=> .inl h,a⟩
theorem Tk.trans{C D:R2->Prop}{M a e:List R2}(h:Tk s b C M a)(k:Tk s b D a e):Tk s b (λc=>C c\/D c) M e where
 sub y hy:=k.sub y (h.sub y hy)
 nd:=k.nd
 all:=k.all
 new y hy:=by
  rcases k.new y hy with q|⟨c,q,r⟩
  ·rcases h.new y q with q|⟨c,q,r⟩
   ·exact .inl q
   grind
  grind
 clo y hy:=by
  rcases k.clo y hy with q|q
  ·rcases h.clo y q with q|q
   ·exact .inl q
   ·exact .inr λc hc=>k.sub c (q c hc)
  grind
 me c hc:=by
  rcases hc with q|q
  ·exact k.sub c (h.me c q)
  ·exact k.me c q
theorem Tk.imp{C D:R2->Prop}{M M':List R2}(h:Tk s b C M M')(hd:∀c,C c↔D c):Tk s b D M M':=
 ⟨h.sub,h.nd,h.all,λy hy=>(h.new y hy).imp id λ⟨c,q,r⟩=>⟨c,(hd c).1 q,r⟩,h.clo,λc hc=>h.me c ((hd c).2 hc)⟩
theorem pJ :∀{M A:List R2},M.Nodup->(∀y∈M,y∈A)->M.length<=A.length
 |[],_,_,_=>Nat.zero_le _
 |x::M,A,hn,hs=>by
  have⟨a,c⟩:=List.nodup_cons.1 hn
  have:=pJ (A:=A.erase x) c λy hy=>(List.mem_erase_of_ne λe=>a (by grind)).2 (hs y (by grind))
  grind
theorem Tk.len{C:R2->Prop}{M M':List R2}(h:Tk s b C M M')(hn:M.Nodup):M.length<=M'.length:=pJ hn h.sub
theorem aoL{F:R2->List R2->List R2}{N:Nat}(e:∀x M,x∈cC b->M.Nodup->(∀y∈M,y∈cC b)->N<=M.length->Tk s b (· =x) M (F x M))(col key:Int)(k:Nat):∀(ls:List Ln)(M:List R2),(∀l∈ls,((k:Int),l.key)∈cC b)->M.Nodup->(∀y∈M,y∈cC b)->N<=M.length->
  Tk s b (λc=>∃l∈ls,ptP l col=some key/\c=((k:Int),l.key)) M (goL F col key k ls M)
 |[],M,_,hn,ha,_=> .refl hn ha λc h=>by have⟨l,h,_⟩:=h;cases h
 |l::ls,M,hl,hn,ha,hN=>by
  unfold goL
  rw[List.foldl_cons]
  by_cases hp:ptP l col=some key
  ·rw[zp hp]
   have a:=e _ M (hl l (by simp)) hn ha hN;have f:=aoL e col key k ls _ (λx hx=>hl x (by simp[hx])) a.nd a.all (Nat.le_trans hN (a.len hn));refine(a.trans f).imp λc=>?_
   grind
  ·rw[zn hp]
   refine(aoL e col key k ls _ (λx hx=>hl x (by simp[hx])) hn ha hN).imp λc=>?_
   grind
theorem aoE{F:R2->List R2->List R2}{N:Nat}(e:∀x M,x∈cC b->M.Nodup->(∀y∈M,y∈cC b)->N<=M.length->Tk s b (· =x) M (F x M))(key:Int):∀(ks:List (Nat×Nat))(M:List R2),(∀x∈ks,x.1<b.length)->M.Nodup->(∀y∈M,y∈cC b)->N<=M.length->
  Tk s b (λc=>∃x∈ks,s[x.1]!.f[x.2]!.act=1/\∃l∈b[x.1]!.l,ptP l s[x.1]!.f[x.2]!.n=some key/\c=((x.1:Int),l.key)) M (goK F s b key ks M)
 |[],M,_,hn,ha,_=> .refl hn ha λc h=>by have⟨x,h,_⟩:=h;cases h
 |x::ks,M,hk,hn,ha,hN=>by
  unfold goK
  rw[List.foldl_cons]
  by_cases hp:s[x.1]!.f[x.2]!.act=1
  ·rw[zp hp]
   have a:=aoL e s[x.1]!.f[x.2]!.n key x.1 b[x.1]!.l M (λl hl=>lB.2 ⟨x.1,hk x (by simp),l,hl,rfl⟩) hn ha hN;have f:=aoE e key ks _ (λx hx=>hk x (by simp[hx])) a.nd a.all (Nat.le_trans hN (a.len hn));refine(a.trans f).imp λc=>?_
   grind
  ·rw[zn hp]
   refine(aoE e key ks _ (λx hx=>hk x (by simp[hx])) hn ha hN).imp λc=>?_;constructor
   ·rintro⟨y,hy,q⟩
    exact⟨y,by simp[hy],q⟩
   ·rintro⟨y,hy,q,r⟩
    rcases zmc.1 hy with rfl|hy
    ·exact absurd q hp
    ·exact⟨y,hy,q,r⟩
theorem aLt(hb:b.length=s.length)(x c:R2):(∃y∈fN s x.1,s[y.1]!.f[y.2]!.act=1/\∃l∈b[y.1]!.l,ptP l s[y.1]!.f[y.2]!.n=some x.2/\c=((y.1:Int),l.key))↔chB s b x c:=by
 constructor
 ·rintro⟨y,hy,a,l,hl,h,e⟩
  have⟨o,p,m⟩:=pQ.1 hy;exact⟨y.1,by omega,s[y.1]!.f[y.2]!,by grind,l,hl,m,a,h,e⟩
 ·rintro⟨k,hk,f,hf,l,hl,a,h,j,e⟩
  obtain⟨i,hi,rfl⟩:=zgo hf;have g:s[k]!.f[i]! =s[k]!.f[i]:=zep ..;exact⟨(k,i),pQ.2 ⟨by omega,hi,by rw[g];exact a⟩,by grind,l,hl,by rw[g];exact j,e⟩
theorem ajU(hb:b.length=s.length):∀(n:Nat)(x:R2)(M:List R2),x∈cC b->M.Nodup->(∀y∈M,y∈cC b)->(cC b).length+1<=n+M.length->Tk s b (· =x) M (jW s b n x M)
 |0,x,M,_,hn,ha,hN=>by have:=pJ hn ha;omega
 |n+1,x,M,hx,hn,ha,hN=>by
  unfold jW
  by_cases hm:x∈M
  ·rw[zp hm]
   exact .refl hn ha λc h=>h▸hm
  ·rw[zn hm]
   have e:(M++[x]).Nodup:=by grind
   have a:∀y∈M++[x],y∈cC b:=λy hy=>by
    rcases zma.1 hy with q|q
    ·exact ha y q
    ·rw[zms.1 q];exact hx
   have h:=(aoE (s:=s) (N:=(cC b).length+1-n) (λy L f g i j=>ajU hb n y L f g i (by omega)) x.2 (fN s x.1) (M++[x]) (λy hy=>by rw[hb];exact(pQ.1 hy).1) e a (by simp;omega)).imp (aLt hb x);refine⟨λy hy=>h.sub y (by simp[hy]),h.nd,h.all,λy hy=>?_,λy hy=>?_,λc hc=>h.sub c (by simp[hc])⟩
   ·rcases h.new y hy with q|⟨c,q,r⟩
    ·rcases zma.1 q with q|q
     ·exact .inl q
     ·exact .inr ⟨x,rfl,by rw[zms.1 q];exact .refl⟩
    ·exact .inr ⟨x,rfl, .head q r⟩
   ·rcases h.clo y hy with q|q
    ·rcases zma.1 q with q|q
     ·exact .inl q
     ·rw[zms.1 q];exact .inr λc hc=>h.me c hc
    ·exact .inr q
def aEf(s:Sc)(b:Bs)(z:R2):List R2:=jW s b ((cC b).length+1) z []
theorem aoH(hb:b.length=s.length){z:R2}(hz:z∈cC b):Tk s b (· =z) [] (aEf s b z):=ajU hb _ z _ hz List.nodup_nil (by simp) (by simp)
theorem aCe(hb:b.length=s.length){z:R2}(hz:z∈cC b)(y:R2):y∈aEf s b z↔Reach s b z y:=by
 have h:=aoH hb hz;constructor
 ·intro hy
  rcases h.new y hy with q|⟨c,rfl,r⟩
  ·cases q
  ·exact r
 ·intro a
  induction a with
  |refl=>exact h.me z rfl
  |step _ c ih=>exact((h.clo _ ih).resolve_left (by simp)) _ c
def aeM(x y:R2):Prop:=x.1<y.1\/x.1=y.1/\x.2<y.2
theorem aJf{a b c:R2}(h:aeM a b)(k:aeM b c):aeM a c:=by unfold aeM at*;omega
theorem asX{a:R2}:¬aeM a a:=by unfold aeM;omega
theorem alP(hs:∀k<b.length,KSort b[k]!.l):(cC b).Pairwise aeM:=by
 unfold cC;rw[List.pairwise_flatMap];constructor
 ·intro k hk
  unfold agD;rw[List.pairwise_map];exact(List.pairwise_map.1 (hs k (zmr.1 hk))).imp λh=> .inr ⟨rfl,h⟩
 ·refine List.pairwise_lt_range.imp fun{i j} hij x hx y hy=>?_
  obtain⟨_,_,rfl⟩:=zmq.1 hx;obtain⟨_,_,rfl⟩:=zmq.1 hy;exact .inl (by omega)
theorem akZ{L:List R2}(h:L.Pairwise aeM):L.Nodup:=h.imp fun{a b} q e=>by subst e;exact asX q
def aAK(s:Sc)(b:Bs)(z:R2):List R2:=(cC b).filter λy=>decide (y∈aEf s b z)
theorem aIz(hs:∀k<b.length,KSort b[k]!.l)(z:R2):(aAK s b z).Pairwise aeM:=(alP hs).filter _
theorem aiS(hb:b.length=s.length){z:R2}(hz:z∈cC b)(y:R2):y∈aAK s b z↔y∈aEf s b z:=by
 unfold aAK;rw[List.mem_filter,zde];exact⟨λh=>h.2,λh=>⟨(aoH hb hz).all y h,h⟩⟩
theorem aI2(hb:b.length=s.length)(hs:∀k<b.length,KSort b[k]!.l){z:R2}(hz:z∈cC b){L:List R2}(hL:L.Pairwise aeM)(h:∀y,y∈L↔y∈aEf s b z):L=aAK s b z:=
 aqU (r:=aeM) aJf asX hL (aIz hs z) λy=>by rw[h,aiS hb hz]
def toB(t:Tb)(l:Ln)(G:R2->Bool)(act:Int):Bool:=t.f.any λf=>dT G l f&&decide (f.act=act)
def inR(rows:List R2)(r:R2):Bool:=decide (r∈rows)
def atM(s:Sc)(b:Bs)(rows:List R2)(k:Nat):List R2:=(b[k]!.l.filter λl=>inR rows ((k:Int),l.key)||toB s[k]! l (inR rows) 1).map λl=>((k:Int),l.key)
def qD(s:Sc)(b:Bs)(rows:List R2):List R2:=(List.range b.length).flatMap (atM s b rows)
theorem arK{G:R2->Bool}{act:Int}:toB t l G act=true↔∃f∈t.f,dT G l f=true/\f.act=act:=by
 simp[toB,zay]
theorem abU{rows:List R2}{y:R2}:y∈qD s b rows↔(y∈rows/\y∈cC b)\/∃x∈rows,chB s b x y:=by
 simp only[qD,atM,List.mem_flatMap,zmr,zmq,List.mem_filter,Bool.or_eq_true,inR,zde];constructor
 ·rintro⟨k,hk,l,⟨hl,h|h⟩,rfl⟩
  ·exact .inl ⟨h,lB.2 ⟨k,hk,l,hl,rfl⟩⟩
  ·have⟨f,hf,a,c⟩:=arK.1 h
   have⟨key,e,h4⟩:=yW.1 a;exact .inr ⟨(f.t,key),by simpa[inR]using h4,k,hk,f,hf,l,hl,rfl,c,e,rfl⟩
 ·rintro(⟨h,g⟩|⟨x,hx,k,hk,f,hf,l,hl,a,c,e,rfl⟩)
  ·obtain⟨k,hk,l,hl,rfl⟩:=lB.1 g
   grind
  ·exact⟨k,hk,l,⟨hl, .inr (arK.2 ⟨f,hf,yW.2 ⟨x.2,e,by simp[inR,a,hx]⟩,c⟩)⟩,rfl⟩
theorem abB(hs:∀k<b.length,KSort b[k]!.l)(rows:List R2):(qD s b rows).Pairwise aeM:=by
 refine(alP hs).sublist ?_;have:∀L:List _,(L.flatMap (atM s b rows)).Sublist (L.flatMap (agD b)):=λL=>by
  induction L with
  |nil=>exact .slnil
  |cons k L ih=>
   exact(List.filter_sublist.map _).append ih
 exact this _
structure Mo (s:Sc) (b:Bs) (z:R2) (rows:List R2):Prop where
 nd:rows.Nodup
 me:z∈rows
 re:∀y∈rows,Reach s b z y
theorem Mo.r{z:R2}{rows:List R2}(h:Mo s b z rows)(hz:z∈cC b):∀y∈rows,y∈cC b:=λy hy=>(h.re y hy).r hz
theorem Mo.sub{z:R2}{rows:List R2}(h:Mo s b z rows)(hz:z∈cC b):∀y∈rows,y∈qD s b rows:=λy hy=>abU.2 (.inl ⟨hy,h.r hz y hy⟩)
theorem Mo.more(hs:∀k<b.length,KSort b[k]!.l){z:R2}{rows:List R2}(h:Mo s b z rows)(hz:z∈cC b):Mo s b z (qD s b rows):=
 ⟨akZ (abB hs _),h.sub hz z h.me,λy hy=>by
  rcases abU.1 hy with⟨q,_⟩|⟨x,hx,c⟩
  ·exact h.re y q
  ·exact .step (h.re x hx) c⟩
theorem Mo.le{z:R2}{rows:List R2}(h:Mo s b z rows)(hz:z∈cC b):rows.length<=(qD s b rows).length:=pJ h.nd (h.sub hz)
theorem Mo.bound{z:R2}{rows:List R2}(h:Mo s b z rows)(hz:z∈cC b):rows.length<=(cC b).length:=pJ h.nd (h.r hz)
theorem adV :∀{M A:List R2},M.Nodup->A.Nodup->(∀y∈M,y∈A)->A.length<=M.length->∀y∈A,y∈M
 |[],A,_,_,_,hl,y,hy=>by grind
 |x::M,A,hn,ha,hs,hl,y,hy=>by
  have⟨a,c⟩:=List.nodup_cons.1 hn
  by_cases e:y=x
  ·subst e;simp
  ·refine zmm _ (adV c (ha.erase x) (λz hz=>(List.mem_erase_of_ne λe=>a (by rw[<-e];exact hz)).2 (hs z (by simp[hz]))) ?_ y ((List.mem_erase_of_ne e).2 hy))
   grind
theorem Mo.done(hb:b.length=s.length)(hs:∀k<b.length,KSort b[k]!.l){z:R2}{rows:List R2}(h:Mo s b z rows)(hz:z∈cC b)(e:(qD s b rows).length=rows.length):qD s b rows=aAK s b z:=by
 have a:=adV h.nd (akZ (abB hs _)) (h.sub hz) (Nat.le_of_eq e);refine aI2 hb hs hz (abB hs _) λy=>?_;rw[aCe hb hz];constructor
 ·exactλhy=>(h.more hs hz).re y hy
 ·intro f
  induction f with
  |refl=>exact h.sub hz z h.me
  |step _ c ih=>exact abU.2 (.inr ⟨_,a _ ih,c⟩)
end
section
attribute [local irreducible] Ev PWp
theorem aCo :Tryz.prog.bytesOf 225=16:=rfl
theorem aBp :Tryz.prog.cellsOf 225=2:=rfl
theorem apW(h:j<l.c.length):ptP l j=if l.c[j].val.k=1 then some l.c[j].val.n else none:=by
 unfold ptP
 grind
theorem afP(h:¬(0<=c/\c<l.c.length)):ptP l c=none:=by unfold ptP;grind
def eN(l:Ln)(c:Int):Prop:=∀j (h:j<l.c.length),(j:Int)=c->l.c[j].k=0
def ptR(o:Option Int):PV:= .tup [vi (o.getD 0),vb o.isSome]
theorem iO(l:Ln)(c:Int)(h:eN l c):qf 75 [.agg l.z,vi c] (ptR (ptP l c)):=by
 by_cases hc:0<=c/\c<l.c.length
 ·obtain⟨j,rfl⟩:∃j:Nat,c=j:=⟨c.toNat,by omega⟩
  have hj:j<l.c.length:=by omega
  have hs:=axY l.c[j] (h j hj rfl);rw[apW hj];by_cases hk:l.c[j].val.k=1;rw[zp hk];refine pF func75 rfl λst=>?_;rotate_left;rw[zn hk];refine pF func75 rfl λst=>?_;rotate_left
  all_goals (repeat' first|apply wZ;rfl|omega|constructor|apply hs|apply wY;rfl|apply wI;rfl|apply gE;omega|simp<;>omega|intro h;simp at h|intro h)
 ·rw[afP hc]
  refine pF func75 rfl λst=>?_
  repeat' first|apply wZ;rfl|constructor|intro h;simp at h;omega|intro h;simp at h
theorem avJ(c:Cl)(h:c.k=0):qf 261 [.agg c.z] (.agg c.val.z):=by
 refine pF func261 rfl λst=>?_
 repeat' first|apply wZ;rfl|omega|constructor|intro h
theorem jP(l:Ln)(c:Int)(h:eN l c):qf 177 [.agg l.z,vi c] (ptR (ptP l c)):=by
 by_cases hc:0<=c/\c<l.c.length
 ·obtain⟨j,rfl⟩:∃j:Nat,c=j:=⟨c.toNat,by omega⟩
  have hj:j<l.c.length:=by omega
  have hs:=avJ l.c[j] (h j hj rfl);rw[apW hj];by_cases hk:l.c[j].val.k=1;rw[zp hk];refine pF func177 rfl λst=>?_;rotate_left;rw[zn hk];refine pF func177 rfl λst=>?_;rotate_left
  all_goals (repeat' first|apply wZ;rfl|omega|constructor|apply hs|apply wY;rfl|apply wI;rfl|apply gE;omega|simp<;>omega|intro h;simp at h|intro h)
 ·rw[afP hc]
  refine pF func177 rfl λst=>?_
  repeat' first|apply wZ;rfl|constructor|intro h;simp at h;omega|intro h;simp at h
theorem uY(rows:List R2)(r:R2)(hl:rows.length<1000000000000):qf 161 [.seq (rows.map r2C), .agg (r2C r)] (vb (inR rows r)):=by
 refine pF func161 rfl λst=>?_
 focus(repeat' first|apply wZ;rfl|constructor)
 refine aC (X:={x:Nat//x<=rows.length/\∀j (h:j<rows.length),j<x->rows[j]≠r}) (λi=>((((St.nil 18 st).pv 0 (.seq (rows.map r2C))).var 3 225 (r2C r)).pv 5 (vi (i.1:Nat)))) (λi=>rows.length-i.1) ⟨0,by omega,by omega⟩ ?_ λi=>?_
 ·repeat' first|constructor
 have⟨i,hi,f⟩:=i;dsimp only;by_cases g:rows.length<=i;have e:inR rows r=false:=by
  unfold inR;rw[zdj];intro hm;have⟨j,hj,e⟩:=zgo hm;exact f j hj (by omega) e
 rotate_left;have c:i<rows.length:=by omega
 by_cases hk:rows[i]=r;have e:inR rows r=true:=by unfold inR;rw[zdt];exact hk▸zgm c
 have k:=congrArg Prod.fst hk;have m:=congrArg Prod.snd hk;rotate_left;have o:¬(rows[i].1=r.1/\rows[i].2=r.2):=λh=>hk (Prod.ext h.1 h.2);have a:∀j (h:j<rows.length),j<i+1->rows[j]≠r:=λj h hj=>by
  rcases zls.1 hj with q|q
  ·exact f j h q
  ·subst q;exact hk
 rotate_left
 all_goals (repeat' first|refine⟨⟨i+1,by omega,a⟩,?_,?_⟩|apply wZ;rfl|apply KR.mk;kernel_rfl|omega|constructor|show(_:PV)=_;rw[e];done|apply wI;rfl|apply gE;omega|simp<;>omega|intro h;simp at h;omega|intro h;simp at h)
theorem vF{G:R2->Bool}{k:Int}(h:ptP l f.n=some k):dT G l f=G (f.t,k):=by unfold dT;rw[h]
theorem vM{G:R2->Bool}(h:ptP l f.n=none):dT G l f=false:=by unfold dT;rw[h]
theorem aKa{f:α->Bool}{l:List α}(h:i<l.length)(hf:f l[i]=true):l.any f=true:=zay.2 ⟨_,zgm h,hf⟩
theorem aMk{f:α->Bool}{l:List α}(h:∀j (h:j<l.length),f l[j]=false):l.any f=false:=by
 rw[<-znt,zay];rintro⟨x,hx,hf⟩;obtain⟨j,hj,rfl⟩:=zgo hx
 grind
theorem aMK{f:α->Bool}{l:List α}(c:∀j (h:j<l.length),j<i->f l[j]=false)(h:i<l.length)(hf:f l[i]=false):∀j (h:j<l.length),j<i+1->f l[j]=false:=λj hj a=>by grind
theorem anV(t:Tb)(l:Ln)(rows:List R2)(act:Int)(hl:rows.length<1000000000000)(hf:t.f.length<1000000000000)(q:∀f∈t.f,eN l f.n):qf 162 [.agg t.z, .agg l.z, .seq (rows.map r2C),vi act] (vb (toB t l (inR rows) act)):=by
 refine pF func162 rfl λst=>?_
 focus(repeat' first|apply wZ;rfl|show Cn _;constructor)
 refine aC (X:={x:Nat//x<=t.f.length/\∀j (h:j<t.f.length),j<x->(dT (inR rows) l t.f[j]&&decide (t.f[j].act=act))=false}) (λi=>((((((St.nil 47 st).pv 2 (.seq (rows.map r2C))).pv 3 (vi act)).var 4 77 (t.z)).var 5 96 (l.z)).pv 9 (vi (i.1:Nat)))) (λi=>t.f.length-i.1) ⟨0,by omega,by omega⟩ ?_ λi=>?_;rotate_left;obtain⟨i,hi,o⟩:=i;dsimp only;by_cases p:t.f.length<=i;have e:toB t l (inR rows) act=false:=aMk λj hj=>o j hj (by omega);rotate_left;have a:i<t.f.length:=by omega
 have hp:=jP l t.f[i].n (q _ (zgm a));have c:=aMK (f:=λf=>dT (inR rows) l f&&decide (f.act=act)) o a;have m:(dT (inR rows) l t.f[i]&&decide (t.f[i].act=act))=true->toB t l (inR rows) act=true:=λh=>aKa (f:=λf=>dT (inR rows) l f&&decide (f.act=act)) a h;rcases hc:ptP l t.f[i].n with _|k
 rw[hc]at hp;rw[vM hc]at c;have hn:=uY rows (t.f[i].t,0) hl;rotate_left;rw[hc]at hp;rw[vF hc]at c m;have hn:=uY rows (t.f[i].t,k) hl;rcases hG:inR rows (t.f[i].t,k)with _|_
 rw[hG]at hn c;rotate_left;rw[hG]at hn c m;by_cases ha:t.f[i].act=act;have e:=m (by rw[zdt ha];rfl);rotate_left;have g:=c (by rw[zdj ha];rfl);rotate_left
 all_goals (repeat' first|refine⟨⟨i+1,by omega,g⟩,?_,?_⟩|apply wZ;rfl|show Cn _;constructor|exact rfl|(first|apply hp|apply hn)|show(_:PV)=_;rw[e];done|apply wY;rfl|apply wI;rfl|apply gE;omega|omega|simp<;>omega|intro h;simp at h;done|intro h;simp at h;omega|intro h;simp at h)
 all_goals (repeat' first|refine⟨⟨i+1,by omega,c rfl⟩,?_,?_⟩|show Cn _;constructor|exact rfl|simp<;>omega)
def kkC(x:Nat×Nat):List PV:=[vi (x.1:Nat),vi (x.2:Nat)]
def sP(s:Sc)(a:Int)(k y:Nat):List (Nat×Nat):=((List.range y).filter λi=>decide (s[k]!.f[i]!.t=a)).map λi=>(k,i)
def uO(s:Sc)(a:Int)(k:Nat):List (Nat×Nat):=(List.range k).flatMap (aKD s a)
theorem xL(p:α->Bool)(y:α):[y].filter p=if p y=true then[y]else[]:=by grind
theorem aKd(s:Sc)(a:Int)(k y:Nat):sP s a k (y+1)=if s[k]!.f[y]!.t=a then sP s a k y++[(k,y)]else sP s a k y:=by
 unfold sP;rw[List.range_succ,List.filter_append,xL]
 grind
theorem aB5(s:Sc)(a:Int)(k:Nat):uO s a (k+1)=uO s a k++sP s a k s[k]!.f.length:=by
 unfold uO;rw[List.range_succ,List.flatMap_append];simp[aKD,sP]
theorem avR(s:Sc)(a:Int)(k y:Nat):(sP s a k y).length<=y:=by
 unfold sP
 grind
theorem agS(s:Sc)(a:Int)(h:∀k (h:k<s.length),s[k].f.length<=16):∀k,k<=s.length->(uO s a k).length<=16*k
 |0,_=>by simp[uO]
 |k+1,hk=>by
  have c:=agS s a h k (by omega)
  have e:=avR s a k s[k]!.f.length
  rw[aB5,zla]
  grind
theorem aJc(s:Sc)(a:Int)(hs:s.length<=16)(j:∀k (h:k<s.length),s[k].f.length<=16)(st:aD):qc 276 [.agg (scC s),vi a] st λr S=>∃id,r= .vec id 2 0 (fN s a).length/\st id=none/\S=upd st id (some (.arr 225 ((fN s a).map kkC))):=by
 have u:=agS s a j;refine pC func276 rfl ?_
 focus(repeat' first|apply wZ;rfl|constructor)
 refine cL 5 225 2 rfl rfl rfl λid c=>?_;refine aC (X:={x:Nat×Nat//x.1<=s.length/\st x.2=none}) (λi=>((((((St.nil 39 (upd st i.1.2 (some (.arr 225 ((uO s a i.1.1).map kkC))))).pv 1 (vi a)).pv 5 (.vec i.1.2 2 0 (uO s a i.1.1).length)).pv 11 (.seq (s.map Tb.z))).pv 12 (vi ((s.map Tb.z).length:Nat))).pv 13 (vi (i.1.1:Nat)))) (λi=>s.length-i.1.1) ⟨(0,id),by simp,c⟩ ?_ λi=>?_
 ·dsimp only
  repeat' first|exact Cn.t0|constructor
 obtain⟨⟨i,id⟩,hi,c⟩:=i;simp only at hi c;dsimp only;have D:=u i hi;by_cases w:s.length<=i
 ·obtain rfl:i=s.length:=by omega
  repeat' first|refine Cn.rr ?_;exact⟨id,rfl,c,rfl⟩;done|apply wZ;rfl|constructor|simp<;>omega|intro h;simp at h
 have p:i<s.length:=by omega
 have z:=j i p;have m:=aB5 s a i;have g:=aKd s a i;rw[zep s i p]at m g
 focus(repeat' first|apply wZ;rfl|constructor|apply wI;rfl|apply gE;omega|simp<;>omega|intro h;simp at h)
 refine aC (X:={x:Nat×Nat//x.1<=s[i].f.length/\st x.2=none}) (λy=>((((((((((St.nil 39 (upd st y.1.2 (some (.arr 225 ((uO s a i++sP s a i y.1.1).map kkC))))).pv 1 (vi a)).pv 5 (.vec y.1.2 2 0 (uO s a i++sP s a i y.1.1).length)).pv 6 (vi (i:Nat))).pv 11 (.seq (s.map Tb.z))).pv 12 (vi ((s.map Tb.z).length:Nat))).pv 13 (vi (i:Nat))).pv 19 (.seq (s[i].f.map Fr.z))).pv 20 (vi ((s[i].f.map Fr.z).length:Nat))).pv 21 (vi (y.1.1:Nat)))) (λy=>s[i].f.length-y.1.1) ⟨(0,id),by simp,c⟩ ?_ λy=>?_
 ·dsimp only
  have e:uO s a i++sP s a i 0=uO s a i:=by simp[sP]
  rw[e]
  repeat' first|exact Cn.t0|constructor
 obtain⟨⟨y,id⟩,hy,c⟩:=y;simp only at hy c;dsimp only;have C:=avR s a i y;have B:(uO s a i++sP s a i y).length<=1000:=by rw[zla];omega
 by_cases q:s[i].f.length<=y;obtain rfl:y=s[i].f.length:=by omega
 rw[<-m];rotate_left;have v:y<s[i].f.length:=by omega
 have g:=g y;rw[zep s[i].f y v]at g;by_cases hk:s[i].f[y].t=a;rw[zp hk]at g;have e:uO s a i++sP s a i (y+1)=(uO s a i++sP s a i y)++[(i,y)]:=by rw[g,zas]
 have el:(uO s a i++sP s a i (y+1)).length=(uO s a i++sP s a i y).length+1:=by rw[e,zla];rfl
 generalize uO s a i++sP s a i y=A at*;rotate_left;rw[zn hk]at g;rw[<-g];rotate_left
 all_goals (repeat' first|((first|refine⟨⟨(i+1,id),by simp only;omega,c⟩,?_,by simp only;omega⟩|refine⟨⟨(y+1,id),by simp only;omega,c⟩,?_,by simp only;omega⟩);focus((repeat' first|exact Cn.t0|constructor);done))|((refine⟨⟨(y+1,id'),by simp only;omega,aI o⟩,?_,by simp only;omega⟩);(dsimp only;try rw[e]);focus((repeat' first|exact Cn.any (aM ‹_›)|constructor|simp;done);done))|apply wZ;rfl|omega|constructor|apply apV pk (f:=kkC) [(i,y)] 16;(iterate 9 rfl);exact aA _ _ _;omega;exactλ_=>rfl;exactλ_=>rfl;exact aCo;(focus(simp;omega));(focus(simp;omega));rfl;intro id' o|apply wI;rfl|apply gE;omega|simp<;>omega|intro h;simp at h|intro h)
theorem aDD(s:Sc)(a:Int)(hs:s.length<=16)(c:∀k (h:k<s.length),s[k].f.length<=16):qf 276 [.agg (scC s),vi a] (.seq ((fN s a).map kkC)):=λst=>
 eS (aJc s a hs c _) λp st' h=>by
  obtain⟨id,rfl,e,rfl⟩:=h
  exact .inl ⟨id,225,(fN s a).map _,_,st,aA _ _ _,aBp,dI rfl,bN e,rfl,rfl⟩
def bF(b:Bool):PV:=(vb b)
def qN(r:R2):Value:= .agg (axA r).toArray
theorem aCO :KeyOK qp 225 qN (λr=> .agg (r2C r)):=
 aAV aT rfl rfl rfl rfl (λa b=>by
  show some _=_
  simp[Prod.ext_iff]) rfl
def mE(M:List R2):List (R2×Bool):=M.map λr=>(r,true)
def mM(M:List R2):AObj:= .map (aY qN bF (mE M))
theorem aqM{r:R2}:∀{M:List R2},r∈M->cK r (mE M)=some true
 |x::M,h=>by
  simp only[mE,zmp,cK]
  by_cases e:r=x
  ·grind
  ·rw[zn e];exact aqM ((zmc.1 h).resolve_left e)
theorem ajQ{r:R2}:∀{M:List R2},r∉M->cK r (mE M)=none
 |[],_=>rfl
 |x::M,h=>by
  simp only[mE,zmp,cK]
  rw[zn λe=>h (by grind)]
  exact ajQ λhm=>h (by grind)
theorem atJ{r:R2}:∀{M:List R2},r∉M->dE r true (mE M)=mE (M++[r])
 |[],_=>rfl
 |x::M,h=>by
  simp only[mE,zmp,dE]
  rw[zn λe=>h (by grind)]
  exact congrArg _ (atJ λhm=>h (by grind))
theorem aMl{F:R2->List R2->List R2}{ls:List Ln}{M:List R2}(h:y<ls.length):goL F col key k (ls.take (y+1)) M=if ptP ls[y] col=some key then F ((k:Int),ls[y].key) (goL F col key k (ls.take y) M)else goL F col key k (ls.take y) M:=by
 unfold goL;rw[zts h,List.foldl_append];rfl
theorem aMQ{F:R2->List R2->List R2}{a:List (Nat×Nat)}{M:List R2}(h:i<a.length):goK F s b key (a.take (i+1)) M=if s[a[i].1]!.f[a[i].2]!.act=1 then goL F s[a[i].1]!.f[a[i].2]!.n key a[i].1 b[a[i].1]!.l (goK F s b key (a.take i) M)else goK F s b key (a.take i) M:=by
 unfold goK;rw[zts h,List.foldl_append];rfl
structure Fol (s:Sc) (b:Bs):Prop where
 len:b.length=s.length
 s16:s.length<=16
 f16:∀k (h:k<s.length),s[k].f.length<=16
 reg:∀k (h:k<s.length),∀f∈s[k].f,∀l∈b[k]!.l,eN l f.n
 lns:∀k (h:k<b.length),b[k].l.length<1000000000000
structure KS (s:Sc) (b:Bs) (id9 id4 id5 id10 idm:Nat) (S:aD):Prop where
 h9:S id9=some (.cells 247 [.mref idm])
 h4:S id4=some (.cells 24 (scC s))
 h5:S id5=some (.cells 27 (bsC b))
 h10:S id10=some (.cells 289 [.fn 275 [.ref id9 0, .ref id4 0, .ref id5 0, .ref id10 0]])
 n9:id9≠idm
 n4:id4≠idm
 n5:id5≠idm
 n10:id10≠idm
theorem aDe(Z:Fol s b){id9 id4 id5 id10 idm:Nat}(hK:KS s b id9 id4 id5 id10 idm S):∀(n:Nat)(row:R2)(M:List R2),row∈cC b->M.Nodup->(∀y∈M,y∈cC b)->(cC b).length+1<=n+M.length->
  qc 275 [.agg (r2C row), .ref id9 0, .ref id4 0, .ref id5 0, .ref id10 0] (upd S idm (some (mM M))) λ_ S'=>S'=upd S idm (some (mM (jW s b n row M))):=by
 have⟨h9,h4,h5,h10,n9,n4,n5,n10⟩:=hK
 have⟨o,s16,f16,N,I⟩:=Z
 intro n
 induction n with
 |zero=>intro row M hr hn ha hN;exact absurd (pJ hn ha) (by omega)
 |succ n ih=>
 intro row M O hn ha hN
 by_cases hm:row∈M
 ·have hg:=aqM hm
  have e:jW s b (n+1) row M=M:=zp hm;rw[e];refine pC func275 rfl ?_
  repeat' first|apply aNR pk aCO (f:=bF);(iterate 5 rfl);rotate_left;rfl;exact aA _ _ _;rfl;exact hg|refine Cn.rr ?_;rfl;done|apply wZ;rfl|constructor|apply ldR pk;rfl;rfl;rotate_left;rfl;(focus((repeat (first|assumption|refine(aB ‹_›).trans ?_));done));rfl;rfl
 ·have hg:=ajQ hm
  have e:jW s b (n+1) row M=goK (jW s b n) s b row.2 (fN s row.1) (M++[row]):=zn hm;rw[e];have hks:=aDD s row.1 s16 f16;have J:(M++[row]).Nodup:=by
   rw[List.nodup_append];exact⟨hn,by simp,λy hy z hz e=>hm (by rw[zms.1 hz]at e;exact e▸hy)⟩
  have ha2:∀y∈M++[row],y∈cC b:=λy hy=>by
   rcases zma.1 hy with q|q
   ·exact ha y q
   ·rw[zms.1 q];exact O
  have hml:(M++[row]).length=M.length+1:=by simp
  have hF:∀x L,x∈cC b->L.Nodup->(∀y∈L,y∈cC b)->(cC b).length+1-n<=L.length->Tk s b (· =x) L (jW s b n x L):=λx L q1 q2 q3 q4=>ajU o n x L q1 q2 q3 (by omega);have hkb:∀x∈fN s row.1,x.1<b.length:=λx hx=>by rw[o];exact(pQ.1 hx).1
  have hkl:(fN s row.1).length<=256:=Nat.le_trans (agS s row.1 f16 s.length (znr _)) (by omega);have P:StSub (upd S idm (some (mM (goK (jW s b n) s b row.2 ((fN s row.1).take 0) (M++[row]))))) (upd (upd S idm (some (mM M))) idm (some (.map (aY qN bF (dE row true (mE M)))))):=by
   rw[atJ hm,eX];exact cZ rfl
  refine pC func275 rfl ?_
  focus(repeat' first|apply aNR pk aCO (f:=bF);(iterate 5 rfl);rotate_left;rfl;exact aA _ _ _;rfl;exact hg|apply muA pk aCO (f:=bF);exact .inr rfl;(iterate 5 rfl);exact aA _ _ _;rfl|apply Cn.cf;focus((apply hks);done)|apply wZ;rfl|constructor|apply ldR pk;rfl;rfl;rotate_left;rfl;(focus((repeat (first|assumption|refine(aB ‹_›).trans ?_));done));rfl;rfl|apply mG pk 0;(iterate 5 rfl);(focus repeat' constructor);rfl;intro _;rfl;intro _;omega;rfl|apply wY;rfl)
  refine aC (X:={x:Nat//x<=(fN s row.1).length}) (λi=>((((((((St.nil 76 (upd S idm (some (mM (goK (jW s b n) s b row.2 ((fN s row.1).take i.1) (M++[row])))))).pv 2 (.ref id4 0)).pv 3 (.ref id5 0)).pv 4 (.ref id10 0)).var 5 225 (r2C row)).pv 21 (.seq ((fN s row.1).map kkC))).pv 22 (vi (((fN s row.1).map kkC).length:Nat))).pv 23 (vi (i.1:Nat)))) (λi=>(fN s row.1).length-i.1) ⟨0,by omega⟩ ?_ λi=>?_
  ·repeat' first|exact .any P|constructor
  have⟨i,hi⟩:=i;dsimp only;by_cases E:(fN s row.1).length<=i
  ·rw[ztl E]
   repeat' first|refine Cn.rr ?_;rfl;done|apply wZ;rfl|constructor|simp<;>omega|intro h;simp at h
  have u:i<(fN s row.1).length:=by omega
  have g:=aMQ (F:=jW s b n) (s:=s) (b:=b) (key:=row.2) (M:=M++[row]) u;have hx:=zgm u;have⟨W,V,Y⟩:=pQ.1 hx;have c:=aoE hF row.2 ((fN s row.1).take i) (M++[row]) (λx hx=>hkb x (List.mem_of_mem_take hx)) J ha2 (by omega);have hll:=c.len J;have R:=c.nd;have hta:=c.all;clear c;generalize hMi:goK (jW s b n) s b row.2 ((fN s row.1).take i) (M++[row])=C at*;obtain⟨⟨k,q⟩,U⟩:∃x,(fN s row.1)[i]=x:=⟨_,rfl⟩;rw[U]at g W V Y;simp only at W V Y g;have H:((fN s row.1).map kkC)[i]?=some (kkC (k,q)):=by rw[List.getElem?_map,zgg u,U];rfl
  have a:k<b.length:=by omega
  rw[zep s k W]at V Y g;rw[zep s[k].f q V]at Y g;rw[zep b k a]at g;have D:=N k W _ (zgm V);rw[zep b k a]at D;have hlb:=I k a;by_cases m:s[k].f[q].act=1
  ·rw[zp m]at g
   focus(repeat' first|apply wD pk [] [1];kernel_rfl;rfl;rfl|apply wZ;rfl|constructor|apply cR pk;(iterate 6 rfl);rotate_left;rfl;intro hw;rfl;(intro hw;apply H<;>omega);intro _;rfl;rfl|apply ldR pk;rfl;rfl;rotate_left;rfl;(focus((repeat (first|assumption|refine(aB ‹_›).trans ?_));done));rfl;rfl|apply mG pk 0;(iterate 5 rfl);(focus repeat' constructor);rfl;intro _;rfl;intro _;omega;rfl|apply mG pk 1;(iterate 5 rfl);(focus repeat' constructor);rfl;intro _;rfl;intro _;omega;rfl|apply wI;rfl|apply gE;omega|simp<;>omega|intro h;simp at h)
   have A:StSub (upd S idm (some (mM (goL (jW s b n) s[k].f[q].n row.2 k (b[k].l.take 0) C)))) (upd S idm (some (mM C))):=cZ rfl;refine aC (X:={x:Nat//x<=b[k].l.length}) (λy=>(((((((((((((St.nil 76 (upd S idm (some (mM (goL (jW s b n) s[k].f[q].n row.2 k (b[k].l.take y.1) C))))).pv 2 (.ref id4 0)).pv 3 (.ref id5 0)).pv 4 (.ref id10 0)).var 5 225 (r2C row)).var 7 225 (kkC (k,q))).var 8 85 (s[k].f[q].z)).pv 21 (.seq ((fN s row.1).map kkC))).pv 22 (vi (((fN s row.1).map kkC).length:Nat))).pv 23 (vi (i:Nat))).pv 47 (.seq (b[k].l.map Ln.z))).pv 48 (vi ((b[k].l.map Ln.z).length:Nat))).pv 49 (vi (y.1:Nat)))) (λy=>b[k].l.length-y.1) ⟨0,by omega⟩ ?_ λy=>?_
   ·repeat' first|exact .any A|constructor
   have⟨y,hy⟩:=y;dsimp only;by_cases p:b[k].l.length<=y
   ·rw[ztl p]
    repeat' first|refine⟨⟨i+1,by omega⟩,?_,?_⟩;(dsimp only;try rw[g])|apply wZ;rfl|omega|constructor|simp<;>omega|intro h;simp at h
   have B:y<b[k].l.length:=by omega
   have j:=aMl (F:=jW s b n) (col:=s[k].f[q].n) (key:=row.2) (k:=k) (M:=C) B;have hp:=iO b[k].l[y] s[k].f[q].n (D _ (zgm B));have c:=aoL hF s[k].f[q].n row.2 k (b[k].l.take y) C (λl hl=>lB.2 ⟨k,a,l,by rw[zep b k a];exact List.mem_of_mem_take hl,rfl⟩) R hta (by omega);have hl2:=c.len R;have T:=c.nd;have Q:=c.all;clear c;generalize hMy:goL (jW s b n) s[k].f[q].n row.2 k (b[k].l.take y) C=My at*;have w:((k:Int),b[k].l[y].key)∈cC b:=lB.2 ⟨k,a,b[k].l[y],by rw[zep b k a];exact zgm B,rfl⟩;have hC:=ih ((k:Int),b[k].l[y].key) My w T Q (by omega);cases K:ptP b[k].l[y] s[k].f[q].n with
   |none=>
    rw[K]at hp j;rw[zn (by simp)]at j
    (repeat' first|apply Cn.cf;focus((apply hp);done)|refine⟨⟨y+1,by omega⟩,?_,?_⟩;(dsimp only;try rw[j])|exact Cn.t0|apply wZ;rfl|omega|constructor|apply mG pk 1;(iterate 5 rfl);(focus repeat' constructor);rfl;intro _;rfl;intro _;omega;rfl|apply wY;rfl|apply wI;rfl|apply gE;omega|simp<;>omega|intro h;simp at h)
   |some v=>
    rw[K]at hp j;by_cases hv:v=row.2
    ·subst hv
     rw[zp rfl]at j
     repeat' first|apply Cn.cf;focus((apply hp);done)|apply cP;rfl;apply hC;rintro _ st' (rfl)|refine⟨⟨y+1,by omega⟩,?_,?_⟩;(dsimp only;try rw[j])|exact Cn.t0|apply wZ;rfl|omega|constructor|apply ldR pk;rfl;rfl;rotate_left;rfl;(focus((repeat (first|assumption|refine(aB ‹_›).trans ?_));done));rfl;rfl|apply mG pk 0;(iterate 5 rfl);(focus repeat' constructor);rfl;intro _;rfl;intro _;omega;rfl|apply mG pk 1;(iterate 5 rfl);(focus repeat' constructor);rfl;intro _;rfl;intro _;omega;rfl|apply wY;rfl|apply wI;rfl|apply gE;omega|simp<;>omega|intro h;simp at h;done|intro h;simp at h
    ·rw[zn (by simpa using hv)]at j
     repeat' first|apply Cn.cf;focus((apply hp);done)|refine⟨⟨y+1,by omega⟩,?_,?_⟩;(dsimp only;try rw[j])|exact Cn.t0|apply wZ;rfl|omega|constructor|apply mG pk 1;(iterate 5 rfl);(focus repeat' constructor);rfl;intro _;rfl;intro _;omega;rfl|apply wY;rfl|apply wI;rfl|apply gE;omega|simp<;>omega|intro h;simp at h;omega|intro h;simp at h
  ·rw[zn m]at g
   repeat' first|apply wD pk [] [1];kernel_rfl;rfl;rfl|refine⟨⟨i+1,by omega⟩,?_,?_⟩;(dsimp only;try rw[g])|exact Cn.t0|apply wZ;rfl|omega|constructor|apply cR pk;(iterate 6 rfl);rotate_left;rfl;intro hw;rfl;(intro hw;apply H<;>omega);intro _;rfl;rfl|apply ldR pk;rfl;rfl;rotate_left;rfl;(focus((repeat (first|assumption|refine(aB ‹_›).trans ?_));done));rfl;rfl|apply mG pk 0;(iterate 5 rfl);(focus repeat' constructor);rfl;intro _;rfl;intro _;omega;rfl|apply mG pk 1;(iterate 5 rfl);(focus repeat' constructor);rfl;intro _;rfl;intro _;omega;rfl|apply wI;rfl|apply gE;omega|simp<;>omega|intro h;simp at h
def sS(b:Bs)(z:R2):Bool:=(bJ (aF b z.1) z.2).isSome
theorem qH{z:R2}:sS b z=true↔z∈cC b:=by
 unfold sS;rw[lB];constructor
 ·intro h
  have⟨x,hx⟩:=Option.isSome_iff_exists.1 h;have a:=List.mem_of_find?_eq_some hx;have c:x.key=z.2:=by simpa using List.find?_some hx
  cases hk:okT b z.1 with
  |false=>rw[avE hk]at a;cases a
  |true=>
   have e:aF b z.1=b[z.1.toNat]!.l:=by unfold aF;rw[zp hk]
   simp only[okT,zba,zde]at hk
   grind
 ·rintro⟨k,hk,l,hl,rfl⟩
  have e:aF b (k:Int)=b[k]!.l:=by
   unfold aF;rw[zp (by simp[okT];omega),zin]
  rw[e];unfold bJ;rw[List.find?_isSome];exact⟨l,hl,by simp⟩
def lQ(s:Sc)(b:Bs)(z:R2):List R2:=if sS b z=true then aEf s b z else[]
def aKG(s:Sc)(b:Bs)(z:R2):PV:= .fmap (aY qN bF (mE (lQ s b z)))
theorem ajX{l m:Nat}{a b c d:AObj}(g:st i=none)(p:upd st i (some a) j=none)(q:upd (upd st i (some a)) j (some b) k=none)(h4:upd (upd (upd st i (some a)) j (some b)) k (some c) l=none)(h5:upd (upd (upd (upd st i (some a)) j (some b)) k (some c)) l (some d) m=none):
  (j≠i/\k≠i/\l≠i/\m≠i)/\(k≠j/\l≠j/\m≠j)/\(l≠k/\m≠k)/\m≠l/\st j=none/\st k=none/\st l=none/\st m=none:=by
 have u:∀{f:aD}{x y:Nat}{o:AObj},upd f x (some o) y=none->y≠x/\f y=none:=fun{f x y o} h=>by
  by_cases e:y=x
  ·rw[e,aA]at h;cases h
  ·exact⟨e,by rwa[aB e]at h⟩
 grind
theorem aJI{f:aD}(h:f i=x):upd f i x=f:=by
 funext j
 by_cases e:j=i
 ·subst e;rw[aA,h]
 ·rw[aB e]
structure KB (s:Sc) (b:Bs) (st:aD) (idm id9 id4 id5 id10:Nat):Prop where
 one:KS s b id9 id4 id5 id10 idm (upd (upd (upd (upd (upd (upd st idm (some (mM []))) id9 (some (.cells 247 [.mref idm]))) id4 (some (.cells 24 (scC s)))) id5 (some (.cells 27 (bsC b)))) id10 (some (.cells 289 [.val .nilFunc]))) id10 (some (.cells 289 [.fn 275 [.ref id9 0, .ref id4 0, .ref id5 0, .ref id10 0]])))
 two:upd (upd (upd (upd (upd (upd (upd st idm (some (mM []))) id9 (some (.cells 247 [.mref idm]))) id4 (some (.cells 24 (scC s)))) id5 (some (.cells 27 (bsC b)))) id10 (some (.cells 289 [.val .nilFunc]))) id10 (some (.cells 289 [.fn 275 [.ref id9 0, .ref id4 0, .ref id5 0, .ref id10 0]]))) idm (some (mM []))=upd (upd (upd (upd (upd (upd st idm (some (mM []))) id9 (some (.cells 247 [.mref idm]))) id4 (some (.cells 24 (scC s)))) id5 (some (.cells 27 (bsC b)))) id10 (some (.cells 289 [.val .nilFunc]))) id10 (some (.cells 289 [.fn 275 [.ref id9 0, .ref id4 0, .ref id5 0, .ref id10 0]]))
 three:(upd (upd (upd (upd (upd (upd st idm (some (mM []))) id9 (some (.cells 247 [.mref idm]))) id4 (some (.cells 24 (scC s)))) id5 (some (.cells 27 (bsC b)))) id10 (some (.cells 289 [.val .nilFunc]))) id10 (some (.cells 289 [.fn 275 [.ref id9 0, .ref id4 0, .ref id5 0, .ref id10 0]]))) idm=some (mM [])
theorem aLi(s:Sc)(b:Bs)(st:aD){idm id9 id4 id5 id10:Nat}(m1:id9≠idm)(f:id4≠idm)(g:id5≠idm)(c:id10≠idm)(j:id4≠id9)(k:id5≠id9)(h:id10≠id9)(m:id5≠id4)(i:id10≠id4)(a:id10≠id5):KB s b st idm id9 id4 id5 id10:=by
 have e:(upd (upd (upd (upd (upd (upd st _ _) _ (some (.cells 247 [.mref idm]))) _ (some (.cells 24 (scC s)))) _ (some (.cells 27 (bsC b)))) _ (some (.cells 289 [.val .nilFunc]))) _ (some (.cells 289 [.fn 275 [.ref id9 0, .ref id4 0, .ref id5 0, .ref id10 0]]))) _=some (mM []):=(aB (Ne.symm c)).trans ((aB (Ne.symm c)).trans ((aB (Ne.symm g)).trans ((aB (Ne.symm f)).trans ((aB (Ne.symm m1)).trans (aA _ _ _)))));exact⟨⟨(aB (Ne.symm h)).trans ((aB (Ne.symm h)).trans ((aB (Ne.symm k)).trans ((aB (Ne.symm j)).trans (aA _ _ _)))),(aB (Ne.symm i)).trans ((aB (Ne.symm i)).trans ((aB (Ne.symm m)).trans (aA _ _ _))),(aB (Ne.symm a)).trans ((aB (Ne.symm a)).trans (aA _ _ _)),aA _ _ _,m1,f,g,c⟩,aJI e,e⟩
theorem aHN{idm id9 id4 id5 id10:Nat}(h0:st idm=none)(h9:st id9=none)(h4:st id4=none)(h5:st id5=none)(h10:st id10=none):StSub st (upd (upd (upd (upd (upd (upd (upd (upd st idm (some (mM []))) id9 (some (.cells 247 [.mref idm]))) id4 (some (.cells 24 (scC s)))) id5 (some (.cells 27 (bsC b)))) id10 (some (.cells 289 [.val .nilFunc]))) id10 (some (.cells 289 [.fn 275 [.ref id9 0, .ref id4 0, .ref id5 0, .ref id10 0]]))) idm x) idm none):=λj=>by
 cases hj:st j with
 |none=>simp
 |some o=>
  right;have q:∀{i:Nat},st i=none->j≠i:=fun{i} hi e=>by grind
  rw[aB (q h0),aB (q h0),aB (q h10),aB (q h10),aB (q h5),aB (q h4),aB (q h9),aB (q h0),hj]
theorem arX(A:Fol s b)(hl:∀d∈b,d.l.length<100000000000)(z:R2):qf 191 [.agg (scC s), .agg (bsC b),vi z.1,vi z.2] (aKG s b z):=by
 have hg:=zV b z.1 z.2 hl;rw[mS]at hg;unfold aKG lQ;by_cases hz:sS b z=true;rw[zp hz];have y:=qH.1 hz;unfold sS at hz;rw[hz]at hg;refine pF func191 rfl λst=>?_
 focus(repeat' first|apply mkM (enc:=qN) (f:=bF);rfl;intro idm c|apply wZ;rfl|constructor|apply stR pk;rfl;rfl;exact aA _ _ _;rfl;rfl|apply gF 9;rfl;rfl;intro id9 h|apply gF 4;rfl;rfl;intro id4 e|apply gF 5;rfl;rfl;intro id5 g|apply gF 10;rfl;rfl;intro id10 a)
 obtain⟨⟨m1,H,I,J⟩,⟨K,L,M⟩,⟨N,O⟩,m,f9,w,f5,i⟩:=ajX c h e g a;have v:st idm=none:=c;have u:st id9=none:=f9;have p:st id4=none:=w;have q:st id5=none:=f5;have j:st id10=none:=i;clear c h e g a f9 w f5 i;have o:=aLi s b st m1 H I J K L M N O m;have P:=aDe A o.one ((cC b).length+1) z [] y List.nodup_nil (by simp) (by simp);have B:=o.one.h9;have D:=Ne.symm m;rw[o.two]at P;have k:=aHN (s:=s) (b:=b) (x:=some (mM (jW s b ((cC b).length+1) z []))) v u p q j;have E:=o.one.n9;rotate_left;have F:(bJ (aF b z.1) z.2).isSome=false:=by simpa[sS]using hz
 rw[zn hz];rw[F]at hg;refine pF func191 rfl λst=>?_
 focus(repeat' first|apply mkM (enc:=qN) (f:=bF);rfl;intro idm c|apply wZ;rfl|constructor|apply stR pk;rfl;rfl;exact aA _ _ _;rfl;rfl|apply gF 9;rfl;rfl;intro id9 h|apply gF 4;rfl;rfl;intro id4 e|apply gF 5;rfl;rfl;intro id5 g|apply gF 10;rfl;rfl;intro id10 a)
 obtain⟨⟨m1,H,I,J⟩,⟨K,L,M⟩,⟨N,O⟩,m,f9,w,f5,i⟩:=ajX c h e g a;have v:st idm=none:=c;have u:st id9=none:=f9;have p:st id4=none:=w;have q:st id5=none:=f5;have j:st id10=none:=i;clear c h e g a f9 w f5 i;have o:=aLi s b st m1 H I J K L M N O m;have B:=o.one.h9;have D:=Ne.symm m;have C:=o.three;have k:=aHN (s:=s) (b:=b) (x:=some (mM [])) v u p q j;rw[o.two]at k;have E:=o.one.n9
 all_goals (repeat' first|apply rW 28;rfl;exact C|apply rW 28;rfl;exact aA _ _ _|exact Cn.any ⟨_,_,st,rfl,zwr _,k,rfl,rfl⟩|apply Cn.cf;focus((apply hg);done)|apply cP;rfl;apply P;rintro _ st' (rfl)|apply wZ;rfl|constructor|apply ldR pk;rfl;rfl;rotate_left;rfl;(first|assumption|focus((repeat (first|exact aA _ _ _|refine(aB ‹_›).trans ?_));done));rfl;rfl|apply ldR pk;rfl;rfl;rotate_left;rfl;(focus((repeat (first|assumption|refine(aB ‹_›).trans ?_));done));rfl;rfl|apply wY;rfl)
def aeN(s:Sc)(b:Bs)(z:R2):List R2:=if sS b z=true then aAK s b z else[]
theorem azT(l:List Cl)(st:aD)(hl:l.length<1000000000000):qc 131 [.seq (l.map Cl.z)] st (LR 92 5 st (l.map Cl.z)):=by
 refine pC func131 rfl ?_
 repeat' first|refine Cn.rr ?_;(first|exact .inr ⟨rfl,hb h,zsr _⟩|exact .inl ⟨id',by rw[zql],a,aA _ _ _,bN a⟩);done|apply wZ;rfl|constructor|apply ap0 pk (f:=Cl.z) l 64;(iterate 10 rfl);exactλ_=>rfl;exactλ_=>rfl;exact qZ;omega;omega;rfl;intro id' a|apply aGC pk;(iterate 6 rfl);intro b hb|intro h
theorem alK(l:List Cl)(st:aD)(hl:l.length<1000000000000):qc 131 [.seq (l.map Cl.z)] st λp S=>∃id,p= .vec id 5 0 l.length/\st id=none/\S=upd st id (some (.arr 92 (l.map Cl.z))):=
 abQ (ahK (azT l st hl)) λp st' ⟨id,a,c,e⟩=>⟨p,st',zwr _,zsr _,id,by rw[a,zql],c,e⟩
end
section
attribute [local irreducible] Ev PWp
section
variable{l:List Oper}{d:Md}{r:List Oper}{s:St}{Kt:St->Prop}{t:Nat}{ty:TypeId}{pos:String}{after:Array Edge}{gd:Option (Nat×Bool)}
theorem lkS{T:TypeId}{x y:Operand}{M:List R2}{k:R2}(hw:bG l ⟨some t, .lookup T x y false,ty,pos,after,gd⟩ s=some w)(hx:opd s x=some (.fmap (aY qN bF (mE M))))(hy:opd s y=some (.agg (r2C k)))(hT:tiK tt T=some (.map 225 e))(hz:pzv tt e=some (vb false))(hf:All (flagsI s w [x,y] []))(hd:Nat.blt t s.n=true)(ht:cX d l r=true)(a:Ev qp l d r (s.put (some t) w (.pv (vb (inR M k)))) Kt):Ev qp l d (⟨some t, .lookup T x y false,ty,pos,after,gd⟩::r) s Kt:=by
 refine aNl pk aCO hw hx hy hT hz hf hd ht rfl ?_
 have e:nT (vb false) bF false (cK k (mE M))=(vb (inR M k)):=by
  by_cases h:k∈M
  ·rw[aqM h];unfold inR;rw[zdt h];rfl
  ·rw[ajQ h];unfold inR;rw[zdj h];rfl
 grind
end
def qC(t:Tb)(G:R2->Bool)(l:Ln):Bool:=t.f.all λf=> !dT G l f||decide (f.act=2)
def ayD(t:Tb)(G:R2->Bool)(l:Ln):Bool:=t.f.any (dT G l)
def fM(p:Fr->Bool)(fs:List Fr)(cs:List Cl):List Cl:=cs.mapIdx λc x=>if fs.any (λf=>decide (f.n=(c:Int))&&p f)=true then Cl.zero else x
def lU(t:Tb)(G:R2->Bool)(who:Dt)(l:Ln):Ln:=if ayD t G l=true then⟨l.key,fM (dT G l) t.f l.c,(cF l who).b⟩else l
theorem dR(p:Fr->Bool)(fs:List Fr)(cs:List Cl):(fM p fs cs).length=cs.length:=by simp[fM]
theorem oO{fs:List Fr}(h:j<cs.length):(fM p fs cs)[j]'(by rw[dR];exact h)=if fs.any (λf=>decide (f.n=(j:Int))&&p f)=true then Cl.zero else cs[j]:=by simp[fM]
theorem aJA{fs:List Fr}(h:fs.any p=false):fM p fs cs=cs:=by
 refine List.ext_getElem (dR ..) λj a c=>?_;rw[oO _,zn]
 grind
theorem aKS{fs:List Fr}(hi:i<fs.length)(hp:p fs[i]=true)(hj:j<cs.length)(hc:fs[i].n=(j:Int)):fM p (fs.take (i+1)) cs=(fM p (fs.take i) cs).set j Cl.zero:=by
 refine List.ext_getElem (by rw[List.length_set,dR,dR]) λc a f=>?_;rw[dR]at a;rw[oO a,List.getElem_set,zts hi,List.any_append];by_cases e:j=c
 ·grind
 ·rw[oO a]
  grind
theorem aDw{fs:List Fr}(hi:i<fs.length)(hp:p fs[i]=false):fM p (fs.take (i+1)) cs=fM p (fs.take i) cs:=by
 have e:∀c,((fs.take _).any λf=>decide (f.n=(c))&&p f)=(fs.take i).any λf=>decide (f.n=(c))&&p f:=λc=>by
  rw[zts hi,List.any_append]
  grind
 unfold fM;simp_all
theorem awB{fs:List Fr}(hi:i<fs.length):(fs.take (i+1)).any p=((fs.take i).any p||p fs[i]):=by
 rw[zts hi,List.any_append];simp
def lnV(l:Ln)(who:Dt):Option Nat->List PV
 |none=>l.z
 |some id=>[vi l.key, .vec id 5 0 l.c.length, .seq ((cF l who).b.map Dt.z)]
def stO(st:aD)(cs:List Cl):Option Nat->aD
 |none=>st
 |some id=>upd st id (some (.arr 92 (cs.map Cl.z)))
theorem avQ(l:Ln)(d:Dt):(cF l d).c=l.c/\(cF l d).key=l.key:=by
 unfold cF
 grind
theorem aJN(l:Ln)(cs:List Cl)(a:List Dt)(c:Int){id n:Nat}(e:st id=some (.arr 92 (cs.map Cl.z)))(hn:cs.length=n)(h0:0<n)(h:eN ⟨l.key,cs,a⟩ c):qc 75 [.agg [vi l.key, .vec id 5 0 n, .seq (a.map Dt.z)],vi c] st λr S=>r=ptR (ptP ⟨l.key,cs,a⟩ c)/\S=st:=
 PC.borrow 0 e rT (by grind) (.cons (.agg (.cons .refl (.cons (dI hn) (.cons .refl .nil)))) (.cons .refl .nil)) (WkL.refl _) (iO _ c h) rfl
theorem aBa{k:Int}(h:ptP l c=some k):∃j:Nat,c=j/\j<l.c.length:=by
 by_cases hc:0<=c/\c<l.c.length
 ·exact⟨c.toNat,by omega,by omega⟩
 ·rw[afP hc]at h;cases h
theorem aJi{fs:List Fr}{a:List Dt}(h:∀f∈fs,f.n≠c):ptP ⟨l.key,fM p fs l.c,a⟩ c=ptP l c:=by
 by_cases hc:0<=c/\c<l.c.length
 ·obtain⟨j,rfl⟩:∃j:Nat,c=j:=⟨c.toNat,by omega⟩
  have hj:j<l.c.length:=by omega
  have g:j<(fM p fs l.c).length:=by rw[dR];exact hj
  rw[apW hj,apW g];have e:(fM p fs _)[j]=l.c[j]:=by
   rw[oO hj,zn]
   grind
  grind
 ·rw[afP hc,afP]
  rwa[dR]
theorem aJp{fs:List Fr}{f:List Dt}(h:eN l c):eN ⟨l.key,fM p fs l.c,f⟩ c:=λj hj e=>by
 have a:=hj
 rw[dR]at a
 rw[oO _]
 split
 ·rfl
 ·exact h j a e
theorem aMA{fs:List Fr}(c:∀j (h:j<fs.length),j<i->p fs[j]=true)(h:i<fs.length)(e:fs[i]=f)(hf:p f=true):∀j (h:j<fs.length),j<i+1->p fs[j]=true:=λj hj a=>by grind
theorem wkz :Wk (.agg [vi 0,vi 0,vi 0, .val (.string e0), .val (.slice none 0 0)]) (.agg Cl.zero.z):= .agg (.cons (zwr _) (.cons (zwr _) (.cons (zwr _) (.cons (zwr _) (.cons Wk.nil .nil)))))
def aNg(st:aD)(t:Tb)(l:Ln)(M:List R2)(who:Dt)(r:PV)(S:aD):Prop:=
 (qC t (inR M) l=false/\r= .tup [.agg [vi 0, .val (.slice none 0 0), .val (.slice none 0 0)],vb false]/\StSub st S)\/(qC t (inR M) l=true/\ayD t (inR M) l=false/\r= .tup [.agg l.z,vb true]/\S=st)\/
 (qC t (inR M) l=true/\ayD t (inR M) l=true/\∃id,r= .tup [.agg (lnV l who (some id)),vb true]/\st id=none/\S=upd st id (some (.arr 92 ((fM (dT (inR M) l) t.f l.c).map Cl.z))))
theorem aIW(t:Tb)(l:Ln)(M:List R2)(who:Dt)(hf:t.f.length<1000000000000)(hc:l.c.length<1000000000000)(hb:l.b.length<100000000000)(W:∀f∈t.f,eN l f.n)(V:∀i j (hi:i<t.f.length) (hj:j<t.f.length),t.f[i].n=t.f[j].n->i=j)(st:aD):
  qc 192 [.agg t.z, .agg l.z, .fmap (aY qN bF (mE M)), .agg who.z] st (aNg st t l M who):=by
 have hw:=ahA l who hb
 have⟨Y,Z⟩:=avQ l who
 have U:(cF l who).z=[vi l.key, .seq (l.c.map Cl.z), .seq ((cF l who).b.map Dt.z)]:=by show[vi ((cF l who).key), .seq ((cF l who).c.map Cl.z),_]=_;rw[Y,Z]
 rw[U]at hw
 have R:=alK l.c
 refine pC func192 rfl ?_
 focus(repeat' first|apply wZ;rfl|constructor)
 refine aC (X:={x:Nat×Option Nat//x.1<=t.f.length/\(∀j (h:j<t.f.length),j<x.1->(!dT (inR M) l t.f[j]||decide (t.f[j].act=2))=true)/\x.2.isSome=(t.f.take x.1).any (dT (inR M) l)/\∀id,x.2=some id->st id=none}) (λi=>(((((((((St.nil 61 (stO st (fM (dT (inR M) l) (t.f.take i.1.1) l.c) i.1.2)).pv 2 (.fmap (aY qN bF (mE M)))).var 5 96 (lnV l who i.1.2)).var 7 51 (who.z)).var 8 96 ([vi 0, .val (.slice none 0 0), .val (.slice none 0 0)])).pv 10 (vb i.1.2.isSome)).pv 16 (.seq (t.f.map Fr.z))).pv 17 (vi ((t.f.map Fr.z).length:Nat))).pv 18 (vi (i.1.1:Nat)))) (λi=>t.f.length-i.1.1) ⟨(0,none),by simp,by simp,by simp,by simp⟩ ?_ λi=>?_
 ·dsimp only[stO,lnV,Option.isSome]
  repeat' first|exact Cn.t0|constructor
 obtain⟨⟨i,o⟩,hi,Q,ho,C⟩:=i
 simp only at hi Q ho C
 dsimp only
 by_cases L:t.f.length<=i
 ·have F:qC t (inR M) l=true:=zal.2 λf hf=>by
   obtain⟨j,hj,rfl⟩:=zgo hf;exact Q j hj (by omega)
  rw[ztl L]at ho⊢;cases o with
  |none=>
   dsimp only[stO,lnV,Option.isSome]at ho⊢;have P:ayD t (inR M) l=false:=ho.symm
   (repeat' first|refine Cn.rr ?_;exact .inr (.inl ⟨F,P,rfl,rfl⟩);done|apply wZ;rfl|constructor|simp<;>omega|intro h;simp at h)
  |some id=>
   dsimp only[stO,lnV,Option.isSome]at ho⊢;have P:ayD t (inR M) l=true:=ho.symm;have C:=C id rfl
   repeat' first|refine Cn.rr ?_;exact .inr (.inr ⟨F,P,id,rfl,C,rfl⟩);done|apply wZ;rfl|constructor|simp<;>omega|intro h;simp at h
 have u:i<t.f.length:=by omega
 have H:=W _ (zgm u)
 have E:=awB (p:=dT (inR M) l) u
 have v:=aDw (p:=dT (inR M) l) (cs:=l.c) u
 have K:=λj=>aKS (p:=dT (inR M) l) (cs:=l.c) (j:=j) u
 have O:∀f∈t.f.take i,f.n≠t.f[i].n:=λf hf e=>by
  obtain⟨j,hj,rfl⟩:=zgo hf
  rw[zlt]at hj
  rw[List.getElem_take]at e
  have:=V j i (by omega) u e
  omega
 have B:(!dT (inR M) l t.f[i]||decide (t.f[i].act=2))=false->qC t (inR M) l=false:=λh=>by
  unfold qC
  rw[<-znt,zal]
  intro q
  rw[q _ (zgm u)]at h;cases h
 obtain⟨f,I⟩:∃f,t.f[i]=f:=⟨_,rfl⟩
 have w:=λh=>aMA (p:=λf=> !dT (inR M) l f||decide (f.act=2)) Q u I h
 rw[I]at H E v O B K
 have m:(t.f.map Fr.z)[i]?=some f.z:=by rw[List.getElem?_map,zgg u,I];rfl
 cases o with
 |none=>
  dsimp only[stO,lnV,Option.isSome]at ho⊢;have hp:=iO l f.n H;cases a:ptP l f.n with
  |none=>
   have hh:dT (inR M) l f=false:=vM a;have A:=w (by rw[hh];rfl);have g:(none:Option Nat).isSome=(t.f.take (i+1)).any (dT (inR M) l):=by rw[E,hh,Bool.or_false];exact ho
   rw[a]at hp
   (repeat' first|apply lkS (M:=M) (k:=(f.t,0));(iterate 5 rfl);rotate_left;rfl;rfl|apply Cn.cf;focus((apply hp);done)|refine⟨⟨(i+1,none),by simp only;omega,A,g,by simp⟩,?_,?_⟩|exact Cn.t0|apply wZ;rfl|omega|constructor|apply cR pk;(iterate 6 rfl);rotate_left;rfl;intro hw;rfl;(intro hw;apply m<;>omega);intro _;rfl;rfl|apply wY;rfl|simp<;>omega|intro h;simp at h)
  |some k=>
   rw[a]at hp;have hh:dT (inR M) l f=inR M (f.t,k):=vF a;cases z:inR M (f.t,k)with
   |false=>
    rw[z]at hh;have A:=w (by rw[hh];rfl);have g:(none:Option Nat).isSome=(t.f.take (i+1)).any (dT (inR M) l):=by rw[E,hh,Bool.or_false];exact ho
    (repeat' first|apply lkS (M:=M) (k:=(f.t,k));(iterate 5 rfl);rotate_left;rfl;rfl;rw[z]|apply Cn.cf;focus((apply hp);done)|refine⟨⟨(i+1,none),by simp only;omega,A,g,by simp⟩,?_,?_⟩|exact Cn.t0|apply wZ;rfl|omega|constructor|apply cR pk;(iterate 6 rfl);rotate_left;rfl;intro hw;rfl;(intro hw;apply m<;>omega);intro _;rfl;rfl|apply wY;rfl|simp<;>omega|intro h;simp at h)
   |true=>
    rw[z]at hh;by_cases ha:f.act=2
    ·have A:=w (by rw[hh,zdt ha];rfl)
     have⟨j,hj,y⟩:=aBa a;have T:fM (dT (inR M) l) (t.f.take i) l.c=l.c:=aJA ho.symm;have F:fM (dT (inR M) l) (t.f.take (i+1)) l.c=l.c.set j Cl.zero:=by rw[K j hh y hj,T]
     have g:∀id:Nat,(some id).isSome=(t.f.take (i+1)).any (dT (inR M) l):=λid=>by rw[E,hh,Bool.or_true];rfl
     have J:(l.c.map Cl.z)[j]?=some (l.c[j]'y).z:=by rw[List.getElem?_map,zgg y];rfl
     repeat' first|apply lkS (M:=M) (k:=(f.t,k));(iterate 5 rfl);rotate_left;rfl;rfl;rw[z]|apply Cn.cf;focus(((first|apply hp|apply hw));done)|apply cP;rfl;apply R st hc;rintro _ st' (⟨id,rfl,c,rfl⟩)|refine⟨⟨(i+1,some id),by simp only;omega,A,g id,λ_ h=>by cases h;exact c⟩,?_,?_⟩;dsimp only[stO,lnV,Option.isSome];rw[F,List.map_set]|exact Cn.any (cZ (by((simp only[St.pv,St.put,St.sst,St.setv,St.nil,St.var,eX]);rfl)))|apply wZ;rfl|omega|constructor|apply cR pk;(iterate 6 rfl);rotate_left;rfl;intro hw;rfl;(intro hw;apply m<;>omega);intro _;rfl;rfl|apply ixA pk;(iterate 5 rfl);rotate_left;rfl;intro hw;exact(show _=((j:Nat):Int)from by omega);intro hw;omega;rfl;exact Nat.zero_add _|apply aLa 57;rfl;exact wkz|apply stX pk;rfl;rfl;exact aA _ _ _;rfl;exact J;rfl;rfl|apply wY;rfl|simp<;>omega|intro h;simp at h|intro h
    ·have hb:=B (by rw[hh,zdj ha];rfl)
     (repeat' first|apply lkS (M:=M) (k:=(f.t,k));(iterate 5 rfl);rotate_left;rfl;rfl;rw[z]|apply Cn.cf;focus((apply hp);done)|refine Cn.rr ?_;exact .inl ⟨hb,rfl,zsr _⟩;done|apply wZ;rfl|omega|constructor|apply cR pk;(iterate 6 rfl);rotate_left;rfl;intro hw;rfl;(intro hw;apply m<;>omega);intro _;rfl;rfl|apply wY;rfl|simp<;>omega|intro h;simp at h|intro h)
 |some id=>
  dsimp only[stO,lnV,Option.isSome]at ho⊢;have c:=C id rfl;have h0:0<l.c.length:=by
   have⟨f',_,S⟩:=zay.1 ho.symm;have⟨k,hk,_⟩:=yW.1 S;have⟨j,_,hj⟩:=aBa hk;omega
  have D:(fM (dT (inR M) l) (t.f.take i) l.c).length=l.c.length:=dR ..;have hp:=aJN l (fM (dT (inR M) l) (t.f.take i) l.c) (cF l who).b f.n (st:=upd st id (some (.arr 92 ((fM (dT (inR M) l) (t.f.take i) l.c).map Cl.z)))) (id:=id) (aA _ _ _) D h0 (aJp H);rw[aJi O]at hp;have g:(some id).isSome=(t.f.take (i+1)).any (dT (inR M) l):=by rw[E,<-ho];rfl
  cases a:ptP l f.n with
  |none=>
   have hh:dT (inR M) l f=false:=vM a;have A:=w (by rw[hh];rfl);have F:=v hh;rw[a]at hp
   (repeat' first|apply lkS (M:=M) (k:=(f.t,0));(iterate 5 rfl);rotate_left;rfl;rfl|apply cP;rfl;apply hp;rintro _ st' (⟨rfl,rfl⟩)|refine⟨⟨(i+1,some id),by simp only;omega,A,g,λ_ h=>by cases h;exact c⟩,?_,?_⟩;dsimp only[stO,lnV,Option.isSome];rw[F]|exact Cn.t0|apply wZ;rfl|omega|constructor|apply cR pk;(iterate 6 rfl);rotate_left;rfl;intro hw;rfl;(intro hw;apply m<;>omega);intro _;rfl;rfl|apply wY;rfl|simp<;>omega|intro h;simp at h)
  |some k=>
   rw[a]at hp;have hh:dT (inR M) l f=inR M (f.t,k):=vF a;cases z:inR M (f.t,k)with
   |false=>
    rw[z]at hh;have A:=w (by rw[hh];rfl);have F:=v hh
    (repeat' first|apply lkS (M:=M) (k:=(f.t,k));(iterate 5 rfl);rotate_left;rfl;rfl;rw[z]|apply cP;rfl;apply hp;rintro _ st' (⟨rfl,rfl⟩)|refine⟨⟨(i+1,some id),by simp only;omega,A,g,λ_ h=>by cases h;exact c⟩,?_,?_⟩;dsimp only[stO,lnV,Option.isSome];rw[F]|exact Cn.t0|apply wZ;rfl|omega|constructor|apply cR pk;(iterate 6 rfl);rotate_left;rfl;intro hw;rfl;(intro hw;apply m<;>omega);intro _;rfl;rfl|apply wY;rfl|simp<;>omega|intro h;simp at h)
   |true=>
    rw[z]at hh;by_cases ha:f.act=2
    ·have A:=w (by rw[hh,zdt ha];rfl)
     have⟨j,hj,y⟩:=aBa a;have F:=K j hh y hj;have N:j<(fM (dT (inR M) l) (t.f.take i) l.c).length:=by rw[D];exact y
     have J:((fM (dT (inR M) l) (t.f.take i) l.c).map Cl.z)[j]?=some ((fM (dT (inR M) l) (t.f.take i) l.c)[j]'N).z:=by rw[List.getElem?_map,zgg N];rfl
     repeat' first|apply lkS (M:=M) (k:=(f.t,k));(iterate 5 rfl);rotate_left;rfl;rfl;rw[z]|apply cP;rfl;apply hp;rintro _ st' (⟨rfl,rfl⟩)|refine⟨⟨(i+1,some id),by simp only;omega,A,g,λ_ h=>by cases h;exact c⟩,?_,?_⟩;dsimp only[stO,lnV,Option.isSome];rw[F,List.map_set]|exact Cn.any (cZ (by((simp only[St.pv,St.put,St.sst,St.setv,St.nil,St.var,eX]);rfl)))|apply wZ;rfl|omega|constructor|apply cR pk;(iterate 6 rfl);rotate_left;rfl;intro hw;rfl;(intro hw;apply m<;>omega);intro _;rfl;rfl|apply ixA pk;(iterate 5 rfl);rotate_left;rfl;intro hw;exact(show _=((j:Nat):Int)from by omega);intro hw;omega;rfl;exact Nat.zero_add _|apply aLa 57;rfl;exact wkz|apply stX pk;rfl;rfl;exact aA _ _ _;rfl;exact J;rfl;rfl|apply wY;rfl|simp<;>omega|intro h;simp at h|intro h
    ·have hb:=B (by rw[hh,zdj ha];rfl)
     repeat' first|apply lkS (M:=M) (k:=(f.t,k));(iterate 5 rfl);rotate_left;rfl;rfl;rw[z]|apply cP;rfl;apply hp;rintro _ st' (⟨rfl,rfl⟩)|refine Cn.rr ?_;exact .inl ⟨hb,rfl,eE c⟩;done|apply wZ;rfl|omega|constructor|apply cR pk;(iterate 6 rfl);rotate_left;rfl;intro hw;rfl;(intro hw;apply m<;>omega);intro _;rfl;rfl|apply wY;rfl|simp<;>omega|intro h;simp at h|intro h
def aF1(t:Tb)(G:R2->Bool)(who:Dt)(l:Ln):PV:=if qC t G l=true then .tup [.agg (lU t G who l).z,vb true]else .tup [.agg Ln.zero.z,vb false]
theorem aDV(t:Tb)(l:Ln)(M:List R2)(who:Dt)(hf:t.f.length<1000000000000)(hc:l.c.length<1000000000000)(hb:l.b.length<100000000000)(k:∀f∈t.f,eN l f.n)(g:∀i j (hi:i<t.f.length) (hj:j<t.f.length),t.f[i].n=t.f[j].n->i=j):
  qf 192 [.agg t.z, .agg l.z, .fmap (aY qN bF (mE M)), .agg who.z] (aF1 t (inR M) who l):=λst=>
 eS (sz:=5) (aIW t l M who hf hc hb k g st) λp st' h=>by
  unfold aF1
  rcases h with⟨a,rfl,c⟩|⟨a,c,rfl,rfl⟩|⟨a,c,id,rfl,e,rfl⟩
  ·rw[zn (by rw[a];simp)]
   exact .inr ⟨_,_,Wk.tup (.cons (.agg (.cons (zwr _) (.cons Wk.nil (.cons Wk.nil .nil)))) (.cons (zwr _) .nil)),c,rfl,rfl⟩
  ·rw[zp a]
   unfold lU;rw[zn (by rw[c];simp)];exact .inr ⟨_,_,zwr _,zsr _,rfl,rfl⟩
  ·rw[zp a]
   unfold lU;rw[zp c];exact .inl ⟨id,92,(fM _ t.f l.c).map Cl.z,_,st,aA _ _ _,rT, .tup (.cons (.agg (.cons .refl (.cons (dI (dR ..)) (.cons .refl .nil)))) (.cons .refl .nil)),bN e,rfl,rfl⟩
end
section
attribute [local irreducible] Ev PWp
theorem aKu(s:Sc)(hl:s.length<1000000000000)(st:aD):qc 28 [.agg (scC s)] st λr S=>∃id,r= .agg [.vec id 1 0 s.length]/\st id=none/\S=upd st id (some (.arr 108 ((List.replicate s.length ()).map yU))):=by
 refine pC func28 rfl ?_
 repeat' first|refine Cn.rr ?_;exact⟨id,rfl,a,rfl⟩;done|apply wZ;rfl|constructor|apply aJS pk () (f:=yU) (n:=s.length) (B:=24);(iterate 11 rfl);(focus(simp;done));(focus(simp;done));exact uX;omega;omega;intro id a
def kD(n k:Nat)(f:Nat->List Ln):List (List PV):=(List.range n).map λj=>if j<k then[.seq ((f j).map Ln.z)]else[.val (.slice none 0 0)]
theorem ajE(n:Nat)(f:Nat->List Ln):kD n 0 f=(List.replicate n ()).map yU:=by
 refine List.ext_getElem (by simp[kD]) λj a c=>?_;simp[kD,yU]
theorem anR{n:Nat}(h:k<n)(f:Nat->List Ln):(kD n k f)[k]?=some [.val (.slice none 0 0)]:=by simp[kD,h]
theorem amE{n:Nat}(f:Nat->List Ln):(kD n k f).set k [.seq ((f k).map Ln.z)]=kD n (k+1) f:=by
 refine List.ext_getElem (by simp[kD]) λj a c=>?_;simp only[kD,List.getElem_range]
 grind
theorem amZ(n:Nat)(f:Nat->List Ln):kD n n f=((List.range n).map λj=>(⟨f j⟩:Da)).map Da.z:=by
 rw[List.map_map];refine List.map_congr_left λj hj=>?_;rw[zp (zmr.1 hj)];rfl
theorem amL(n k:Nat)(f:Nat->List Ln):(kD n k f).length=n:=by simp[kD]
section
variable{st:aD}{idT idL id':Nat}
theorem arM(h:idL≠idT):StSub (upd (upd st idL a) idT o) (upd (upd (upd st idT x) idL a) idT o):=cZ (by rw[fE (Ne.symm h),eX])
theorem xZ{b b' i:Option AObj}(h:st idL=none)(p:idL≠idT)(k:b'=b)(m:i=g):StSub (upd (upd st id' b') idT i) (upd (upd (upd (upd (upd st idL a) idT o) idL none) id' b) idT g):=λj=>by
 subst k;subst m
 by_cases c:j=idT
 ·subst c;right;rw[aA,aA]
 ·rw[aB c,aB c]
  by_cases e:j=id'
  ·subst e;right;rw[aA,aA]
  ·rw[aB e,aB e]
   by_cases f:j=idL
   ·grind
   ·right;rw[aB f,aB c,aB f]
theorem alJ{f:Option AObj}(h:st idL=none)(k:idL≠idT)(i:g=f):StSub (upd st idT g) (upd (upd (upd (upd st idL a) idT o) idL none) idT f):=λj=>by
 subst i
 by_cases c:j=idT
 ·subst c;right;rw[aA,aA]
 ·rw[aB c,aB c]
  by_cases e:j=idL
  ·grind
  ·right;rw[aB e,aB c,aB e]
theorem agZ(h:st idL=none)(c:st idT=none):StSub st (upd (upd st idL a) idT o):=λj=>by
 cases hj:st j with
 |none=>simp
 |some x=>
  right;rw[aB (λe=>by grind),aB (λe=>by grind),hj]
theorem fP{a o:AObj}(h:upd (upd st idL (some a)) idT (some o) id'=none):idT≠id'/\st id'=none:=by
 by_cases e:id'=idT
 ·rw[e,aA]at h;cases h
 ·rw[aB e]at h
  refine⟨Ne.symm e,?_⟩;by_cases c:id'=idL
  ·rw[c,aA]at h;cases h
  ·rwa[aB c]at h
end
def iY(s:Sc)(b:Bs)(G:R2->Bool)(who:Dt)(k y:Nat):List Ln:=((b[k]!.l.take y).filter λl=> !G ((k:Int),l.key)).map (lU s[k]! G who)
def oE(s:Sc)(b:Bs)(G:R2->Bool)(who:Dt)(k:Nat):List Ln:=(b[k]!.l.filter λl=> !G ((k:Int),l.key)).map (lU s[k]! G who)
def afQ(s:Sc)(b:Bs)(G:R2->Bool)(who:Dt):Bs:=(List.range b.length).map λk=>⟨oE s b G who k⟩
def pS(t:Tb)(G:R2->Bool)(k:Nat)(l:Ln):Bool:=G ((k:Int),l.key)||qC t G l
def agO(s:Sc)(b:Bs)(G:R2->Bool):Bool:=(List.range b.length).all λk=>b[k]!.l.all (pS s[k]! G k)
theorem aCw{G:R2->Bool}(h:y<b[k]!.l.length):iY s b G who k (y+1)=if G ((k:Int),b[k]!.l[y].key)=true then iY s b G who k y else iY s b G who k y++[lU s[k]! G who b[k]!.l[y]]:=by
 unfold iY;rw[zts h,List.filter_append,zmd,xL];cases hg:G ((k:Int),b[k]!.l[y].key)<;>simp
theorem atH{G:R2->Bool}:iY s b G who k b[k]!.l.length=oE s b G who k:=by unfold iY oE;simp
theorem awC(s:Sc)(b:Bs)(G:R2->Bool)(who:Dt)(k y:Nat):(iY s b G who k y).length<=b[k]!.l.length:=by
 unfold iY
 grind
theorem aBD{G:R2->Bool}(hk:k<b.length)(hy:y<b[k].l.length)(h:pS s[k]! G k b[k].l[y]=false):agO s b G=false:=by
 unfold agO
 grind
structure FolD (s:Sc) (b:Bs):Prop extends Fol s b where
 ln:∀k (h:k<b.length),b[k].l.length<=100000
 cl:∀k (h:k<b.length),∀l∈b[k].l,l.c.length<100000000000/\l.b.length<100000000000
 o:∀k (h:k<s.length),∀i j (hi:i<s[k].f.length) (hj:j<s[k].f.length),s[k].f[i].n=s[k].f[j].n->i=j
def aLI(s:Sc)(b:Bs)(who:Dt)(M:List R2)(st:aD)(r:PV)(S:aD):Prop:=
 (agO s b (inR M)=false/\r= .tup [.agg [.val (.slice none 0 0)],vi 10]/\StSub st S)\/(agO s b (inR M)=true/\∃id,r= .tup [.agg [.vec id 1 0 b.length],vi 0]/\S id=some (.arr 108 ((afQ s b (inR M) who).map Da.z))/\StSub st (upd S id none))
theorem aLv(E:FolD s b)(hr:qf 32 [.agg (scC s), .agg (bsC b)] (vb true))(z:R2)(who:Dt)(hz:sS b z=true)(st:aD):qc 129 [.agg (scC s), .agg (bsC b),vi z.1,vi z.2, .agg who.z] st (aLI s b who (lQ s b z) st):=by
 have hk:=arX E.toFol (λd hd=>by obtain⟨k,hk,rfl⟩:=zgo hd;have:=E.ln k hk;omega) z;unfold aKG at hk;have hM0:0<(lQ s b z).length:=by
  unfold lQ;rw[zp hz];exact List.length_pos_of_mem ((aoH E.len (qH.1 hz)).me z rfl)
 obtain⟨⟨L,s16,f16,o,hlns⟩,ln,F,P⟩:=E;have hnew:=aKu s (by omega);generalize lQ s b z=M at*;refine pC func129 rfl ?_;have C:aY qN bF (mE M)≠[]:=λe=>by
  have:=congrArg List.length e
  unfold aY mE at this
  rw[zql,zql]at this
  simp only[List.length_nil]at this;omega
 have hI:∀k y,(iY s b (inR M) who k y).length<=b[k]!.l.length:=λk y=>awC s b (inR M) who k y
 focus(repeat' first|apply lnF pk;rfl;rfl;rfl;rotate_left;rfl;rfl|apply Cn.cf;focus(((first|apply hr|apply hk));done)|apply cP;rfl;apply hnew st;rintro _ st' (⟨idT,rfl,hidT,rfl⟩)|apply wZ;rfl|constructor|apply wY;rfl|(exfalso;first|exact C h|fail)|intro h;simp at h)
 have A:st idT=none:=hidT;have O:StSub (upd st idT (some (.arr 108 (kD b.length 0 (oE s b (inR M) who))))) (upd st idT (some (.arr 108 ((List.replicate s.length ()).map yU)))):=by rw[ajE,L];exact zsr _
 refine aC (X:={x:Nat//x<=b.length/\∀k (h:k<b.length),k<x->∀y (h:y<b[k].l.length),pS s[k]! (inR M) k b[k].l[y]=true}) (λi=>(((((((((St.nil 89 (upd st idT (some (.arr 108 (kD b.length i.1 (oE s b (inR M) who)))))).var 5 24 (scC s)).var 9 51 (who.z)).var 10 27 ([.val (.slice none 0 0)])).pv 12 (.fmap (aY qN bF (mE M)))).var 13 27 ([.vec idT 1 0 s.length])).pv 37 (.seq (b.map Da.z))).pv 38 (vi ((b.map Da.z).length:Nat))).pv 39 (vi (i.1:Nat)))) (λi=>b.length-i.1) ⟨0,by omega,by simp⟩ ?_ λi=>?_
 ·repeat' first|exact .any O|constructor
 have⟨i,hi,W⟩:=i;dsimp only;by_cases hend:b.length<=i
 ·obtain rfl:i=b.length:=by omega
  have hmay:agO s b (inR M)=true:=by
   unfold agO;rw[zal];intro k hk;have hk:=zmr.1 hk;rw[zep b k hk,zal];intro l hl;obtain⟨y,hy,rfl⟩:=zgo hl;exact W k hk hk y hy
  rw[amZ]
  repeat' first|refine Cn.rr ?_;exact .inr ⟨hmay,idT,by rw[L],aA _ _ _,bN A⟩;done|apply wZ;rfl|constructor|simp<;>omega|intro h;simp at h
 have u:i<b.length:=by omega
 have p:i<s.length:=by omega
 have hrow:=anR u (oE s b (inR M) who);have hset:=amE (n:=b.length) (k:=i) (oE s b (inR M) who);have hrl:=amL b.length i (oE s b (inR M) who);have j:=λy h=>aCw (s:=s) (b:=b) (G:=inR M) (who:=who) (k:=i) (y:=y) h;have U:=atH (s:=s) (b:=b) (G:=inR M) (who:=who) (k:=i);have hI0:iY s b (inR M) who i 0=[]:=by simp[iY]
 have V:=hI i;have o:=o i p;have hln:=ln i u;have F:=F i u;have Z:=P i p;have hf16:=f16 i p;simp only[zep b i u,zep s i p]at j U V o;generalize kD b.length i (oE s b (inR M) who)=R at*
 focus(repeat' first|apply wZ;rfl|constructor|apply wI;rfl|apply gE;omega|simp<;>omega|intro h;simp at h)
 refine adR (id:=idT) (k:=i) 96 3 (aA _ _ _) hrow rfl λidL K=>?_;have m:upd st idT (some (.arr 108 R)) idL=none:=K;have g:idL≠idT:=λe=>by rw[e,aA]at m;cases m
 have a:st idL=none:=by rwa[aB g]at m
 clear K m;have D:StSub (upd (upd st idL (some (.arr 96 ((iY s b (inR M) who i 0).map Ln.z)))) idT (some (.arr 108 (R.set i [.vec idL 3 0 (iY s b (inR M) who i 0).length])))) (upd (upd (upd st idT (some (.arr 108 R))) idL (some (.arr 96 []))) idT (some (.arr 108 (R.set i [.vec idL 3 0 0])))):=by rw[hI0];exact arM g
 refine aC (X:={x:Nat×Nat//x.1<=b[i].l.length/\st x.2=none/\x.2≠idT/\∀y (h:y<b[i].l.length),y<x.1->pS s[i] (inR M) i b[i].l[y]=true}) (λy=>(((((((((((((St.nil 89 (upd (upd st y.1.2 (some (.arr 96 ((iY s b (inR M) who i y.1.1).map Ln.z)))) idT (some (.arr 108 (R.set i [.vec y.1.2 3 0 (iY s b (inR M) who i y.1.1).length]))))).var 5 24 (scC s)).var 9 51 (who.z)).var 10 27 ([.val (.slice none 0 0)])).pv 12 (.fmap (aY qN bF (mE M)))).var 13 27 ([.vec idT 1 0 s.length])).pv 14 (vi (i:Nat))).pv 37 (.seq (b.map Da.z))).pv 38 (vi ((b.map Da.z).length:Nat))).pv 39 (vi (i:Nat))).pv 45 (.seq (b[i].l.map Ln.z))).pv 46 (vi ((b[i].l.map Ln.z).length:Nat))).pv 47 (vi (y.1.1:Nat)))) (λy=>b[i].l.length-y.1.1) ⟨(0,idL),by simp,a,g,by simp⟩ ?_ λy=>?_
 ·dsimp only
  repeat' first|exact .any D|constructor
 clear a g D O;obtain⟨⟨y,idL⟩,hy,a,g,T⟩:=y;dsimp only at hy a g T;dsimp only;have N:=Ne.symm g;have H:(R.set i [.vec idL 3 0 (iY s b (inR M) who i y).length])[i]?=some [.vec idL 3 0 (iY s b (inR M) who i y).length]:=List.getElem?_set_self (by omega);have hIy:=V y;by_cases hend2:b[i].l.length<=y
 ·obtain rfl:y=b[i].l.length:=by omega
  rw[U]at H⊢;have hup:∀k (h:k<b.length),k<i+1->∀y (h:y<b[k].l.length),pS s[k]! (inR M) k b[k].l[y]=true:=λk hk hki v hv=>by
   rcases zls.1 hki with q|q
   ·exact W k hk q v hv
   ·subst q;rw[zep s k p];exact T v hv hv
  refine ahN (id:=idT) (idL:=idL) (k:=i) (aA _ _ _) H ((aB g).trans (aA _ _ _)) lH (zql _) N ?_;rw[List.set_set,hset]
  repeat' first|refine⟨⟨i+1,by omega,hup⟩,?_,?_⟩|refine Cn.any ?_;exact Sub.nil _ _ _ (alJ a g rfl) rfl|apply wZ;rfl|omega|constructor|simp<;>omega|intro h;simp at h
 have I:y<b[i].l.length:=by omega
 obtain⟨l,B⟩:∃l,b[i].l[y]=l:=⟨_,rfl⟩;have C:l∈b[i].l:=B▸zgm I;have Q:(b[i].l.map Ln.z)[y]?=some l.z:=by rw[List.getElem?_map,zgg I,B];rfl
 have j:=j y I;rw[B]at j;have hyU:pS s[i] (inR M) i l=true->∀v (h:v<b[i].l.length),v<y+1->pS s[i] (inR M) i b[i].l[v]=true:=λh v hv hvy=>by
  rcases zls.1 hvy with q|q
  ·exact T v hv q
  ·subst q;rw[B];exact h
 have Y:pS s[i] (inR M) i l=false->agO s b (inR M)=false:=λh=>aBD u I (by rw[zep s i p,B];exact h);have c:=aDV s[i] l M who (by omega) (by have:=(F l C).1;omega) (F l C).2 (λf hf=>o f hf l C) Z;unfold aF1 at c;cases J:inR M ((i:Int),l.key)with
 |true=>
  rw[J,zp rfl]at j;have hU:=hyU (by unfold pS;rw[J];rfl)
  (repeat' first|apply lkS (M:=M) (k:=((i:Int),l.key));(iterate 5 rfl);rotate_left;rfl;rfl;rw[J]|refine⟨⟨(y+1,idL),by simp only;omega,a,g,hU⟩,?_,?_⟩;dsimp only;rw[j]|exact Cn.t0|apply wZ;rfl|omega|constructor|apply cR pk;(iterate 6 rfl);rotate_left;rfl;intro hw;rfl;(intro hw;apply Q<;>omega);intro _;rfl;rfl|simp<;>omega|intro h;simp at h)
 |false=>
  rw[J,zn (by simp)]at j;cases hL:qC s[i] (inR M) l with
  |false=>
   rw[hL,zn (by simp)]at c;have hb:=Y (by unfold pS;rw[J,hL];rfl)
   (repeat' first|apply lkS (M:=M) (k:=((i:Int),l.key));(iterate 5 rfl);rotate_left;rfl;rfl;rw[J]|apply wD pk [] [];kernel_rfl;rfl;rfl|apply Cn.cf;focus((apply c);done)|refine Cn.rr ?_;exact .inl ⟨hb,rfl,agZ a A⟩;done|apply wZ;rfl|constructor|apply cR pk;(iterate 6 rfl);rotate_left;rfl;intro hw;rfl;(intro hw;apply Q<;>omega);intro _;rfl;rfl|apply wY;rfl|apply wI;rfl|apply gE;omega|simp<;>omega|intro h;simp at h)
  |true=>
   rw[hL,zp rfl]at c;have hU:=hyU (by unfold pS;rw[J,hL];rfl);have S:(iY s b (inR M) who i (y+1)).length=(iY s b (inR M) who i y).length+1:=by rw[j,zla];rfl
   repeat' first|apply wD (id:=17) pk [11,14] [8];kernel_rfl;rfl;rfl|apply wD (id:=14) pk [] [];kernel_rfl;rfl;rfl|apply lkS (M:=M) (k:=((i:Int),l.key));(iterate 5 rfl);rotate_left;rfl;rfl;rw[J]|apply Cn.cf;focus((apply c);done)|refine⟨⟨(y+1,id'),by simp only;omega,(fP w).2,Ne.symm (fP w).1,hU⟩,?_,?_⟩;dsimp only|refine Cn.any ?_;exact Sub.nil _ _ _ (xZ a g (by rw[j]) (by rw[List.set_set,S];rfl)) rfl|apply wZ;rfl|omega|constructor|apply cR pk;(iterate 6 rfl);rotate_left;rfl;intro hw;rfl;(intro hw;apply Q<;>omega);intro _;rfl;rfl|apply apV pk (f:=Ln.z) [lU s[i] (inR M) who l] 56;(iterate 9 rfl);(focus((repeat (first|exact aA _ _ _|refine(aB ‹_›).trans ?_));done));omega;exactλ_=>rfl;exactλ_=>rfl;exact oI;(focus(simp;omega));(focus(simp;omega));rfl;intro id' w|apply ixA pk;(iterate 5 rfl);rotate_left;rfl;intro hw;exact(show _=((i:Nat):Int)from by omega);intro hw;omega;rfl;exact Nat.zero_add _|apply ldX pk;rfl;rfl;rotate_left;rfl;exact aA _ _ _;rfl;exact H;rfl;rfl|have hq:=fP w;apply stX pk;rfl;rfl;exact(aB hq.1).trans ((aB N).trans (aA _ _ _));rfl;exact H;rfl;rfl|apply wY;rfl|apply wI;rfl|apply gE;omega|simp<;>omega|intro h;simp at h
end
section
attribute [local irreducible] Ev PWp
def oY(rb:Bool)(s:Sc)(b:Bs)(z:R2)(who:Dt)(M:List R2):Bs×Int:=if rb=true then(if sS b z=true then(if agO s b (inR M)=true then(afQ s b (inR M) who,0)else([],10))else([],4))else([],1)
def jA(o:Bs×Int):PV:= .tup [.agg (bsC o.1),vi o.2]
theorem jJ(e:Int):Wk (.tup [.agg [.val (.slice none 0 0)],vi e]) (jA ([],e)):=Wk.tup (.cons (.agg (.cons Wk.nil .nil)) (.cons (zwr _) .nil))
theorem aBW{f:FuncId}{args:List PV}{z:R2}{M:List R2}(hz:sS b z=true)(h:qc f args st (aLI s b who M st)):qc f args st λr S=>r=jA (oY true s b z who M)/\S=st:=
 eS h λp st' h=>by
  unfold oY
  rw[zp rfl,zp hz]
  rcases h with⟨c,rfl,a⟩|⟨c,id,rfl,a,e⟩
  ·rw[zn (by grind)]
   exact .inr ⟨_,_,jJ 10,a,rfl,rfl⟩
  ·rw[zp c]
   exact .inl ⟨id,108,(afQ s b _ _).map _,_,st,a,aeR, .tup (.cons (.agg (.cons (dI (by simp[afQ])) .nil)) (.cons .refl .nil)),e,rfl,rfl⟩
theorem aMq(h:∀k (h:k<b.length),b[k].l.length<=100000):∀d∈b,d.l.length<100000000000:=λd hd=>by obtain⟨k,hk,rfl⟩:=zgo hd;grind
theorem aG5(c:qf 32 [.agg (scC s), .agg (bsC b)] (vb rb))(e:rb=true->FolD s b)(z:R2)(who:Dt):qf 129 [.agg (scC s), .agg (bsC b),vi z.1,vi z.2, .agg who.z] (jA (oY rb s b z who (lQ s b z))):=by
 rcases rb with _|_
 rotate_left;have a:=e rfl;by_cases hz:sS b z=true
 ·exactλst=>aBW hz (aLv a c z who hz st)
 have hk:=arX a.toFol (aMq a.ln) z;unfold aKG at hk;have f:lQ s b z=[]:=by unfold lQ;rw[zn hz]
 unfold oY;rw[zp rfl,zn hz];rw[f]at hk
 all_goals (refine pF func129 rfl λst=>?_;repeat'(first|apply lnF pk;rfl;rfl;rfl;rotate_left;rfl;rfl|exact Cn.any ⟨_,_,_,rfl,jJ 4,zsr _,rfl,rfl⟩|exact Cn.any ⟨_,_,_,rfl,jJ 1,zsr _,rfl,rfl⟩|apply wZ;rfl|constructor|(first|apply c|apply hk)|apply wY;rfl))
end
section
attribute [local irreducible] Ev PWp
variable{tx:Cl->Int}
theorem aHi(h:bA tx s b=true)(hk:k<s.length)(hf:f∈s[k].f)(hl:l∈b[k]!.l):eN l f.n:=λj hj e=>by
 obtain⟨⟨g,i⟩,_⟩:=aS.1 h
 have c:k<b.length:=by omega
 rw[zep b k c]at hl
 have hL:=vO h _ hl
 have a:=amY g _ hf
 rw[hL.k j _,zep s k hk]
 have:=a.k
 grind
theorem aG9(h:bA tx s b=true)(hB:BsS 1000 b):Fol s b:=by
 obtain⟨⟨a,c⟩,_⟩:=aS.1 h;exact⟨c,lE a,λk hk=>aAD a _,λk hk f hf l hl=>aHi h _ hf hl,λk hk=>by have:=(hB.2 _ (zgm hk)).1;omega⟩
theorem aB0(h:bA tx s b=true)(hB:BsS 1000 b):FolD s b:=
 ⟨aG9 h hB,λk hk=>by have:=(hB.2 _ (zgm hk)).1;omega,λk hk l hl=>by have:=(hB.2 _ (zgm _)).2 l hl;exact⟨by have:=this.2.1;omega,by have:=this.1;omega⟩,λk hk i j hi hj e=>aMu (aS.1 h).1.1 _ i j _ _ e⟩
theorem amS(hB:BsS 1000 b):(cC b).length<1000000000:=by
 have key:∀n,n<=b.length->((List.range n).flatMap (agD b)).length<=1000*n:=by
  intro n
  induction n with
  |zero=>intro _;simp
  |succ n ih=>
   intro hn;rw[List.range_succ,List.flatMap_append,zla];have:=ih (by omega);have c:(agD b n).length<=1000:=by
    unfold agD;rw[zql,zep b n (by omega)];exact(hB.2 _ (zgm (by omega))).1
   simp only[List.flatMap_cons,List.flatMap_nil,List.append_nil];omega
 have:=key b.length (znr _);have a:=hB.1;unfold cC;omega
theorem aCy(hb:b.length=s.length){z y:R2}:inR (lQ s b z) y=true↔sS b z=true/\Reach s b z y:=by
 unfold inR lQ;rw[zde];by_cases hz:sS b z=true
 ·rw[zp hz,aCe hb (qH.1 hz)]
  grind
 grind
theorem aLY(hb:b.length=s.length){z:R2}(hk:k<s.length)(hl:l∈b[k]!.l)(hf:f∈s[k].f)(ha:f.act=1)(hh:dT (inR (lQ s b z)) l f=true):inR (lQ s b z) ((k:Int),l.key)=true:=by
 have⟨key,a,c⟩:=yW.1 hh;have⟨e,g⟩:=(aCy hb).1 c;exact(aCy hb).2 ⟨e, .step g ⟨k,by omega,f,by grind,l,hl,rfl,ha,a,rfl⟩⟩
theorem aNB(h:bA tx s b=true)(z:R2):∀k (h:k<s.length),∀l∈b[k]!.l,inR (lQ s b z) ((k:Int),l.key)=false->∀f∈s[k].f,dT (inR (lQ s b z)) l f=true->f.act=0\/f.act=2:=λk hk l hl hn f hf hh=>by
 obtain⟨⟨a,c⟩,_⟩:=aS.1 h
 rcases(amY a _ hf).act with q|q|q
 ·exact .inl q
 ·rw[aLY c _ hl hf q hh]at hn;cases hn
 omega
end
section
def azH(t:Tb)(G:R2->Bool)(l:Ln)(c:Int):Bool:=t.f.any λf=>decide (f.n=c)&&dT G l f
theorem aBf{G:R2->Bool}:azH t G l c=true↔∃f∈t.f,f.n=c/\dT G l f=true:=by
 unfold azH;simp
theorem aGp(t:Tb)(G:R2->Bool)(who:Dt)(l:Ln):(lU t G who l).key=l.key:=by unfold lU;grind
theorem aE5{G:R2->Bool}(hk:k<b.length):(afQ s b G who)[k]!.l=oE s b G who k:=by
 have h:k<(afQ s b G who).length:=by simpa[afQ]using hk
 rw[zep _ k h];simp[afQ]
theorem aoG(s:Sc)(b:Bs)(G:R2->Bool)(who:Dt):(afQ s b G who).length=b.length:=by simp[afQ]
theorem atF{G:R2->Bool}{x:Ln}:x∈oE s b G who k↔∃l∈b[k]!.l,G ((k:Int),l.key)=false/\x=lU s[k]! G who l:=by
 unfold oE
 grind
section
variable{s:Sc}{b:Bs}{G:R2->Bool}{who:Dt}
end
end
section
attribute [local irreducible] Ev PWp
theorem alX(a:Ln)(d:Dt):(cF a d).b.length<=a.b.length+1:=by
 unfold cF;split
 ·omega
 ·rw[oT (ajI _ _)];simp
theorem aiY{l:List Dt}:oK l=true↔(∀x∈l,eG x=true)/\aCS l:=by
 unfold oK;rw[qF];constructor
 ·intro h
  refine⟨λx hx=>?_,aKW λk hk=>?_⟩
  ·obtain⟨k,hk,rfl⟩:=zgo hx
   have:=h k hk;unfold xS at this
   grind
  ·have:=h k hk
   unfold xS at this;rw[zba]at this;exact this.2
 ·rintro⟨a,c⟩ k hk
  unfold xS;rw[zep l k hk,a _ (zgm hk),Bool.true_and];rcases Nat.eq_zero_or_pos k with rfl|h0
  ·rfl
  ·rw[zep l (k-1) (by omega),List.pairwise_iff_getElem.1 c (k-1) k _ hk (by omega)]
   simp
theorem ajZ{a:Ln}{d:Dt}(h:oK a.b=true)(hd:eG d=true):oK (cF a d).b=true:=by
 have⟨e,c⟩:=aiY.1 h;rw[aGZ];refine aiY.2 ⟨λx hx=>?_,aDp c d⟩;rcases(aFs _ _ _).1 hx with rfl|q
 ·exact hd
 grind
theorem aC1:mK tx Cl.zero=true:=rfl
theorem aIL(g:∀f∈t.f,FrOK s t f){G:R2->Bool}(h:LineOK tx t l)(hd:eG who=true):LineOK tx t (lU t G who l):=by
 unfold lU;split
 ·have⟨k1,k2,ln,k,ce,o,ds⟩:=h
  have a:∀j (hj:j<l.c.length),∃p:Prop,∃_:Decidable p,(fM (dT G l) t.f l.c)[j]'(by rw[dR];exact hj)=(if p then Cl.zero else l.c[j])/\(p->1<=j/\t.o[j]!.k=0):=λj hj=>⟨_,_,oO hj,λhp=>by
   have⟨f,hf,hc,_⟩:=aBf.1 (show azH t G l j=true from hp)
   have q:=g f hf
   have u:=q.c1
   have m:=q.k
   refine⟨by omega,?_⟩
   rwa[show f.n.toNat=j by omega]at m⟩
  refine⟨k1,k2,by rw[<-ln];exact dR ..,λj hj=>?_,λc hc=>?_,?_,ajZ ds hd⟩
  ·have hj:j<(fM (dT G l) t.f l.c).length:=hj
   rw[dR]at hj;have⟨p,_,e,hp⟩:=a j hj;show(fM (dT G l) t.f l.c)[j].k=_;rw[e];split
   ·rename_i i;rw[(hp i).2];rfl
   ·exact k j hj
  ·obtain⟨j,hj,rfl⟩:=zgo hc
   have hj:j<(fM (dT G l) t.f l.c).length:=hj;rw[dR]at hj;have⟨p,_,e,hp⟩:=a j hj;show mK tx (fM (dT G l) t.f l.c)[j]=true;rw[e];split
   ·exact aC1
   ·exact ce _ (zgm hj)
  ·show(fM (dT G l) t.f l.c)[0]!.val=_
   rw[<-o];by_cases hj:0<l.c.length
   ·have⟨p,_,e,hp⟩:=a 0 hj
    rw[zep _ 0 (by rw[dR];exact hj),zep l.c 0 hj,e,zn λq=>absurd (hp q).1 (by omega)]
   ·have:l.c=[]:=List.eq_nil_of_length_eq_zero (by omega)
    rw[this];rfl
 ·exact h
theorem aDN{G:R2->Bool}(h:KSort b[k]!.l):KSort (oE s b G who k):=by
 unfold KSort oE;rw[List.map_map,show((λl=>l.key)∘lU _ G _)=λl=>l.key from funext λl=>aGp _ _ _ _];unfold KSort at h
 grind
theorem aHL(h:bA tx s b=true){G:R2->Bool}(hd:eG who=true):bA tx s (afQ s b G who)=true:=by
 obtain⟨⟨e,g⟩,i⟩:=aS.1 h;refine aS.2 ⟨⟨e,by rw[aoG];exact g⟩,λk hk=>?_⟩;rw[aoG]at hk;rw[aE5 hk];have a:=i k hk;rw[zep b k hk]at a;have⟨m,j,o⟩:=gI.1 a;have c:k<s.length:=by omega
 refine gI.2 ⟨?_,λx hx=>?_,aDN (by grind)⟩
 ·unfold oE
  grind
 ·obtain⟨l,hl,_,rfl⟩:=atF.1 hx
  rw[zep b k hk]at hl;refine aeQ.2 (aIL (s:=s) (λf hf=>?_) (aeQ.1 (j l hl)) hd);rw[zep s k c]at hf⊢;exact amY e c hf
end
section
structure Ot where
 k:Int
 t:Int
 key:Int
 n:Int
 r:List Vl
 val:Vl
 after:Dt
 a:Int
def Ot.z(o:Ot):List PV:=[vi o.k,vi o.t,vi o.key,vi o.n, .seq (o.r.map Vl.z),vi o.val.k,vi o.val.n,vs o.val.s,vi o.after.dev,vi o.after.seq,vi o.a]
structure Wr where
 who:T.Sp
 knew:List Int
def Wr.d(w:Wr):Dt:=⟨w.who.dev,w.who.seq⟩
def Wr.z(w:Wr):List PV:=[vi w.who.m,vi w.who.dev,vi w.who.seq, .seq (w.knew.map I1)]
def nG(o:Ot):Bool:=decide (o.n=0/\o.val=Vl.zero/\o.after=Dt.zero/\o.a=0)
def akF(n:Int):Bool:=decide (0<=n)&&decide (n<=1073741823)
def arE(t:Tb)(o:Ot):Int:=if o.key≠0\/nG o=false then 1 else if cY t o.r≠0 then cY t o.r else if o.r.length=0\/akF o.r[0]!.n=false then 1 else 0
def nW(c:Co)(o:Ot):Int:=if(o.k=7/\o.val≠Vl.zero)\/cB o.val=false then 1 else if o.k=7 then 0 else if o.k=2/\o.val.k=0 then(if c.null=true then 0 else 7)else if(o.k=2/\o.val.k≠c.type_)\/(o.k=6/\o.val.k≠2)then 6 else if o.k≠2/\o.k≠6/\o.val.k≠1 then 6 else 0
def pB(o:Ot):Bool:=if o.after=Dt.zero/\o.a=0 then decide (o.k≠7)else decide (o.k=6\/o.k=7)&&T.mayN ⟨o.after,o.a⟩
def uK(k c:Int):Bool:=if k=2 then decide (c=0\/c=1)else if k=3 then decide (c=2)else if k=4\/k=5 then decide (c=3)else if k=6\/k=7 then decide (c=4)else false
def zD(t:Tb)(o:Ot):Int:=if o.n<0\/o.n>=t.o.length then 4 else if o.n=0 then 1 else if uK o.k t.o[o.n.toNat]!.k=false then 6 else if nW t.o[o.n.toNat]! o≠0 then nW t.o[o.n.toNat]! o else if pB o=false then 1 else 0
def eF(s:Sc)(o:Ot):Int:=if o.k<1\/o.k>8 then 1 else if o.t<0\/o.t>=s.length then 4 else if o.k=1 then arE s[o.t.toNat]! o else if o.r.length>0\/akF o.key=false then 1 else if o.k≠8 then zD s[o.t.toNat]! o else if nG o=false then 1 else 0
def okV(n:Int):Bool:=decide (0<=n)&&decide (n<=1048576)
def aoQ(v:List Int):Bool:=decide (v.length<=64)&&v.all okV
def ofV(v:List Int)(d:Int):Int:=if d<1\/d>v.length then 0 else v[(d-1).toNat]!
def sT(v:List Int)(d:Dt):Bool:=decide (d.seq>=1)&&decide (d.seq<=ofV v d.dev)
def ptN(v:Vl)(d:Dt):Pt:=⟨v,d,0,0,Dt.zero,0,false⟩
def mP(d:Dt)(kn:List Int)(p:Pt):Bool:=decide (p.d≠d)&& !sT kn p.d
def gU{α:Type}(f:α->Bool)(l:List α):Nat:=(l.findIdx? f).getD l.length
def fW(c:Cl)(v:Vl)(d:Dt)(kn:List Int):Cl:=⟨c.k,c.val,cN (c.p.filter (mP d kn)) (gU (λp=>aW p.d d) (c.p.filter (mP d kn))) [ptN v d]⟩
def nV(n:Int):Vl:=⟨1,n,e0⟩
def iS(n:Int)(d:Dt)(p:Pt):Bool:=decide (p.val.n=n)&&decide (p.d=d)
def nE(c:Cl)(n:Int)(d:Dt):Cl:=if c.p.any (iS n d)=true then c else⟨c.k,c.val,cN c.p (gU (λp=>dG p (ptN (nV n) d)) c.p) [ptN (nV n) d]⟩
def gS(n:Int)(d:Dt)(kn:List Int)(p:Pt):Bool:=decide (p.val.n≠n)||(decide (p.d≠d)&& !sT kn p.d)
def oP(c:Cl)(n:Int)(d:Dt)(kn:List Int):Cl:=⟨c.k,c.val,c.p.filter (gS n d kn)⟩
def iW(n:Int):Cl:=⟨2,nV n,[]⟩
def sL(c:Cl)(n:Int):Cl×Int:=if bL c≠0 then(Cl.zero,bL c)else if bL (iW n)≠0 then(Cl.zero,bL (iW n))else if bL (iW (c.val.n+n))≠0 then(Cl.zero,bL (iW (c.val.n+n)))else(iW (c.val.n+n),0)
def jG(w:Wr)(kind:Int)(v:Vl):Cl×Int:=if kind=0 then(⟨0,v,[]⟩,0)else if kind=2 then sL (iW 0) v.n else if kind=4 then T.typeP ⟨4,Vl.zero,[]⟩ v.s w.who T.Nm.zero else if v.k=0 then(⟨kind,Vl.zero,[]⟩,0)else if kind=3 then(nE ⟨kind,Vl.zero,[]⟩ v.n w.d,0)else(fW ⟨kind,Vl.zero,[]⟩ v w.d w.knew,0)
def dW(w:Wr)(c:Cl)(o:Ot):Cl×Int:=if o.k=2 then(if c.k=0 then(⟨0,o.val,[]⟩,0)else(fW c o.val w.d w.knew,0))else if o.k=3 then sL c o.val.n else if o.k=4 then(nE c o.val.n w.d,0)else if o.k=5 then(oP c o.val.n w.d w.knew,0)else if o.k=6 then T.typeP c o.val.s w.who ⟨o.after,o.a⟩else(T.eraseP c ⟨o.after,o.a⟩,0)
def iJ(w:Wr)(t:Tb)(r:List Vl)(i:Nat):Cl×Int:=jG w t.o[i]!.k r[i]!
def mN(w:Wr)(t:Tb)(r:List Vl):Int:=dH (λi=>(iJ w t r i).2) (List.range r.length)
def dY(w:Wr)(t:Tb)(r:List Vl):Ln:=⟨r[0]!.n,(List.range r.length).map λi=>(iJ w t r i).1,[w.d]⟩
def sO(w:Wr)(o:Ot)(l:Ln):Ln:=cF ⟨l.key,l.c.set o.n.toNat (dW w l.c[o.n.toNat]! o).1,l.b⟩ w.d
def aBd(w:Wr)(s:Sc)(b:Bs)(o:Ot):Bs×Int:=if(bJ (aF b o.t) o.r[0]!.n).isSome=true then([],8)else if(aF b o.t).length>=2000 then([],2)else if mN w s[o.t.toNat]! o.r≠0 then([],mN w s[o.t.toNat]! o.r)else(sM b o.t (dY w s[o.t.toNat]! o.r),0)
def ahD(w:Wr)(b:Bs)(o:Ot):Bs×Int:=match bJ (aF b o.t) o.key with
 |none=>([],4)
 |some l=>if(dW w l.c[o.n.toNat]! o).2≠0 then([],(dW w l.c[o.n.toNat]! o).2)else(sM b o.t (sO w o l),0)
def bV(w:Wr)(s:Sc)(b:Bs)(o:Ot):Bs×Int:=if eF s o≠0 then([],eF s o)else if o.k=1 then aBd w s b o else if o.k=8 then oY true s b (o.t,o.key) w.d (lQ s b (o.t,o.key))else ahD w b o
def tD(w:Wr):Bool:=((T.withinB w.who.m 1 1125899906842624&&T.withinB w.who.dev 1 64)&&T.withinB w.who.seq 1 1048576)&&aoQ w.knew
noncomputable def rightW(w:Wr)(s:Sc)(b:Bs):Bool:=mayC s b&&tD w
noncomputable def doP(w:Wr)(s:Sc)(b:Bs)(o:Ot):Bs×Int:=if rightW w s b=true then bV w s b o else([],1)
def aV(w:Wr)(s:Sc):Bs->List Ot->Bs×Int
 |b,[]=>(b,0)
 |b,o::r=>if(bV w s b o).2≠0 then([],(bV w s b o).2)else aV w s (bV w s b o).1 r
noncomputable def jV(w:Wr)(s:Sc)(b:Bs)(l:List Ot):Bs×Int:=if rightW w s b=false then([],1)else if l.length>2000 then([],2)else if(aV w s b l).2≠0 then([],(aV w s b l).2)else if whyC s (aV w s b l).1≠0 then([],whyC s (aV w s b l).1)else((aV w s b l).1,0)
end
end Go.Proofs.YtigmnfepdlbcpaaGreatDoor
