import Derived.Test.YtigmnfepdlbcpaaGreatDoorClAd
set_option linter.all false
set_option maxHeartbeats 4000000
set_option maxRecDepth 10000
namespace Go.Proofs.YtigmnfepdlbcpaaGreatDoor
open Go Go.Abs Tryz
attribute [local irreducible] Ev PWp
variable{l:List Int}
theorem eI(n a b:Int):qf 122 [vi n,vi a,vi b] (vb (T.withinB n a b)):=by
 refine pF func122 rfl λst=>?_
 repeat' first|apply wZ;rfl|constructor
theorem qK(n:Int):qf 125 [vi n] (vb (akF n)):=by
 have h:=eI n 0 1073741823;refine pF func125 rfl λst=>?_
 repeat' first|apply wZ;rfl|constructor|apply h|apply wY;rfl
theorem aK6(d:Dt):(decide (d.dev=0)&&decide (d.seq=0))=decide (d=Dt.zero):=by
 simp[Dt.ext_iff,Dt.zero]
theorem aIw(v:Vl):(decide (v.k=0)&&(decide (v.n=0)&&decide (v.s=e0)))=decide (v=Vl.zero):=by
 simp[Vl.ext_iff,Vl.zero]
theorem agR(o:Ot):qf 127 [.agg o.z] (vb (nG o)):=by
 have e:nG o=(((decide (o.n=0)&&decide (o.val=Vl.zero))&&decide (o.after=Dt.zero))&&decide (o.a=0)):=by unfold nG;rw[zbi];simp[and_assoc]
 rw[e,<-aK6,<-aIw];refine pF func127 rfl λst=>?_
 repeat' first|apply wZ;rfl|constructor
theorem arA(t:Tb)(o:Ot)(f:qf 135 [.seq (t.o.map Co.z), .seq (o.r.map Vl.z)] (vi (cY t o.r))):qf 124 [.agg t.z, .agg o.z] (vi (arE t o)):=by
 have hb:=agR o;unfold arE;generalize cY t o.r=R at*;generalize nG o=B at*;by_cases h0:o.key≠0\/B=false
 ·rw[zp h0]
  refine pF func124 rfl λst=>?_
  repeat' first|exfalso;revert h0;simp_all;done|apply wZ;rfl|constructor|apply hb|apply wY;rfl|intro h;simp at h
 rw[zn h0];simp only[not_or,Decidable.not_not,Bool.not_eq_false]at h0;obtain⟨h0,rfl⟩:=h0;by_cases d:R≠0
 ·rw[zp d]
  refine pF func124 rfl λst=>?_
  repeat' first|apply wZ;rfl|omega|constructor|(first|apply hb|apply f)|apply wY;rfl|intro h;simp at h;omega|intro h;simp at h|intro h
 rw[zn d];have d:=zdn d;by_cases e:o.r.length=0
 ·rw[zp (.inl e)]
  refine pF func124 rfl λst=>?_
  repeat' first|apply wZ;rfl|omega|constructor|(first|apply hb|apply f|apply qK 0)|apply cR pk (j:=0) (row:=Vl.zero.z);(iterate 6 rfl);rotate_left;rfl;intro hw;exact absurd hw (by simp[gw,e]);intro hw;exact absurd hw (by simp[gw,e]);intro hw;exact absurd hw (by simp[gw,e]);rfl|apply wY;rfl|exfalso;simp_all;done|intro h;simp at h;omega|intro h;simp at h|intro h
 have a:0<o.r.length:=by omega
 have hk:=qK o.r[0].n;rw[zep o.r 0 a];generalize akF o.r[0].n=K at*;cases K with
 |false=>
  rw[zp (.inr rfl)];refine pF func124 rfl λst=>?_
  (repeat' first|apply wZ;rfl|omega|constructor|(first|apply hb|apply f|apply hk)|apply wY;rfl|apply wI;rfl|apply gE;omega|intro h;simp at h;done|intro h;simp at h;omega|intro h;simp at h|intro h)
 |true=>
  rw[zn (by rintro(q|q);omega;cases q)];refine pF func124 rfl λst=>?_
  repeat' first|apply wZ;rfl|omega|constructor|(first|apply hb|apply f|apply hk)|apply wY;rfl|apply wI;rfl|apply gE;omega|exfalso;simp_all;done|intro h;simp at h;omega|intro h;simp at h|intro h
theorem aFa(c:Co)(o:Ot):qf 188 [.agg c.z, .agg o.z] (vi (nW c o)):=by
 have hv:=lS o.val;have hz:=aIw o.val;unfold nW;generalize cB o.val=V at*;generalize g:decide (o.val=Vl.zero)=Z at*;have a:o.val≠Vl.zero↔Z=false:=by rw[<-g];simp
 by_cases h0:(o.k=7/\o.val≠Vl.zero)\/V=false;rw[zp h0];rw[a]at h0;rotate_left;rw[zn h0];rw[a]at h0;by_cases f:o.k=7;rw[zp f];rotate_left;rw[zn f];by_cases d:o.k=2/\o.val.k=0;rw[zp d];have⟨d,e⟩:=d;cases hn:c.null
 rw[zn (by simp)];rotate_left;rw[zp rfl];rotate_left;rw[zn d];by_cases e:(o.k=2/\o.val.k≠c.type_)\/(o.k=6/\o.val.k≠2);rw[zp e];rotate_left;rw[zn e];by_cases h4:o.k≠2/\o.k≠6/\o.val.k≠1;rw[zp h4];rotate_left;rw[zn h4]
 all_goals (refine pF func188 rfl λst=>?_;repeat'(first|apply wZ;rfl|omega|constructor|apply hv|apply wY;rfl|exfalso;grind|intro h;simp at h;omega|intro h;simp at h|intro h))
theorem azP(o:Ot):qf 189 [.agg o.z] (vb (pB o)):=by
 have a:=eI o.after.dev 1 64;have d:=eI o.after.seq 1 1048576;have f:=eI o.a 0 1999;unfold pB T.mayN;have e:(o.after=Dt.zero/\o.a=0)↔((o.after.dev=0/\o.after.seq=0)/\o.a=0):=by rw[Dt.ext_iff];rfl
 by_cases h:o.after=Dt.zero/\o.a=0;rw[zp h];rw[e]at h;obtain⟨⟨g,i⟩,j⟩:=h;rotate_left;rw[zn h];rw[e]at h;generalize T.withinB o.after.dev 1 64=A at*;generalize T.withinB o.after.seq 1 1048576=B at*;generalize T.withinB o.a 0 1999=C at*
 all_goals (refine pF func189 rfl λst=>?_;repeat'(first|apply wZ;rfl|constructor|(first|apply a|apply d|apply f)|show(_:PV)=_;(by_cases k:o.k=6<;>by_cases l:o.k=7<;>simp_all;done);done|apply wY;rfl|intro h;simp at h;omega|intro h;simp at h))
def aH1 :List (Value×PV):=[(.int .i64 2, .seq [I1 0,I1 1]),(.int .i64 3, .seq [I1 2]),(.int .i64 4, .seq [I1 3]),(.int .i64 5, .seq [I1 3]),(.int .i64 6, .seq [I1 4]),(.int .i64 7, .seq [I1 4])]
theorem axT :qf 187 [] (.fmap aH1):=by
 refine pF func187 rfl λst=>?_
 focus(repeat' first|apply lK 0;rfl;exact aA _ _ _|exact Cn.any ⟨_,_,st,rfl,zwr _,StSub.via id a (λj h=>by repeat (first|refine Eq.trans (aB h) ?_|exact rfl)),rfl,rfl⟩|apply wZ;rfl|constructor|refine rQ rfl λid a=>?_|apply vC aT;exact .inl rfl;(iterate 7 rfl);exact aA _ _ _;rfl)
def afJ(k:Int):List Int:=if k=2 then[0,1]else if k=3 then[2]else if k=4\/k=5 then[3]else if k=6\/k=7 then[4]else[]
theorem aC0(k:Int):(afJ k).length<=2:=by
 unfold afJ
 grind
theorem aHC(k c:Int):((afJ k).any λy=>decide (c=y))=uK k c:=by
 unfold afJ uK
 repeat' split
 all_goals first|rfl|(rw[zbi];simp)
theorem avA{k:Int}(a:2<=k)(d:k<=7):jI tt 244 aH1 (.int .i64 k) false=some (.seq ((afJ k).map I1)):=by
 have:k=2\/k=3\/k=4\/k=5\/k=6\/k=7:=by omega
 rcases this with rfl|rfl|rfl|rfl|rfl|rfl<;>rfl
theorem ajM(l:List Int)(x:Int)(hl:l.length<4611686018427387904):qf 186 [.seq (l.map I1),vi x] (vb (l.any λy=>decide (x=y))):=by
 have hx:qf 272 [.seq (l.map I1),vi x] (vi (dJ (λy=>decide (x=y)) l)):=by
  refine pF func272 rfl λst=>?_
  repeat' first|apply wZ;rfl|constructor
  refine aC (X:={y:Nat//y<=l.length/\∀j (h:j<y) (g:j<l.length),decide (x=l[j])=false}) (λi=>(((((St.nil 19 st).pv 0 (.seq (l.map I1))).pv 1 (vi x)).pv 7 (vi ((l.map I1).length:Nat))).pv 8 (vi (i.1:Nat)))) (λi=>l.length-i.1) ⟨0,by omega,by omega⟩ ?_ λi=>?_
  ·repeat' first|constructor
  have⟨i,d,a⟩:=i;dsimp only
  repeat' first|refine⟨⟨i+1,by omega,λj d g=>by rcases zls.1 d with q|q;exact a j q g;subst q;exact zdj (by simp_all)⟩,?_,?_⟩|apply wZ;rfl|omega|constructor|show(_:PV)=_;(first|unfold dJ;rw[nK (f:=λy=>decide (x=y)) ‹_› (by simp_all) a];done|unfold dJ;rw[oV (f:=λy=>decide (x=y)) ‹_› a]);done|apply wI;rfl|apply gE;omega|simp<;>omega|intro h;simp at h|intro h
 have e:decide (dJ (λy=>decide (x=y)) l>=0)=l.any λy=>decide (x=y):=by
  unfold dJ;cases h:l.findIdx? (λy=>decide (x=y))with
  |none=>
   have:=List.findIdx?_eq_none_iff.1 h;rw[zbi,zay];simp only[zde];constructor
   ·intro q;omega
   ·rintro⟨y,hy,q⟩
    have:=this y hy;simp[q]at this
  |some k=>
   have⟨m,p,_⟩:=zfi.1 h;rw[zbi,zay];constructor
   ·exactλ_=>⟨_,zgm m,p⟩
   ·intro _;simp
 refine pF func186 rfl λst=>?_
 repeat' first|apply wZ;rfl|constructor|apply hx|show(_:PV)=_;rw[<-e];done|apply wY;rfl
theorem azK(t:Tb)(o:Ot)(ht:t.o.length<1000000000000)(hk:2<=o.k/\o.k<=7):qf 126 [.agg t.z, .agg o.z] (vi (zD t o)):=by
 have⟨e,f⟩:=hk;have hp:=azP o;have a:=avA e f;unfold zD;by_cases h0:o.n<0\/o.n>=t.o.length;rw[zp h0];rotate_left;rw[zn h0];by_cases g:o.n=0;rw[zp g];rotate_left;rw[zn g];obtain⟨j,hj⟩:∃j:Nat,o.n=j:=⟨o.n.toNat,by omega⟩;have d:j<t.o.length:=by omega
 rw[hj,zin,zep t.o j d];have hc:=ajM (afJ o.k) t.o[j].k (by have:=aC0 o.k;omega);rw[aHC]at hc;have hv:=aFa t.o[j] o;generalize nW t.o[j] o=V at*;generalize pB o=k at*;generalize uK o.k t.o[j].k=F at*;generalize(afJ o.k).map I1=l at*;rcases F with _|_
 rw[zp rfl];rotate_left;rw[zn (by simp)];by_cases i:V≠0;rw[zp i];rotate_left;rw[zn i];rcases k with _|_
 rw[zp rfl];rotate_left;rw[zn (by simp)]
 all_goals (refine pF func126 rfl λst=>?_;repeat'(first|apply iX;intro hw;exact hj;apply gE;omega;rfl|apply wZ;rfl|apply KR.mk;kernel_rfl|omega|constructor|(first|apply axT|apply hc|apply hv|apply hp)|apply sH pk;(iterate 4 rfl);(focus repeat' constructor);rfl;exact a;rfl|apply wY;rfl|apply wI;rfl|intro h;simp at h;omega|intro h;simp at h|intro h))
theorem asY(s:Sc)(o:Ot)(hs:s.length<1000000000000)(ht:∀t∈s,t.o.length<1000000000000)(p:∀t∈s,qf 135 [.seq (t.o.map Co.z), .seq (o.r.map Vl.z)] (vi (cY t o.r))):qf 63 [.agg (scC s), .agg o.z] (vi (eF s o)):=by
 have g:=eI o.k 1 8;have f:(s.map Tb.z).length=s.length:=zql _;have i:=eI o.t 0 (((s.map Tb.z).length:Nat)-1);unfold T.withinB at g i;unfold eF;by_cases h0:o.k<1\/o.k>8;rw[zp h0];have e:(decide (o.k>=1)&&decide (o.k<=8))=false:=by rw[<-znt];simp;omega
 rw[e]at g;rotate_left;rw[zn h0];have e:(decide (o.k>=1)&&decide (o.k<=8))=true:=by simp;omega
 rw[e]at g;by_cases j:o.t<0\/o.t>=s.length;rw[zp j];have e:(decide (o.t>=0)&&decide (o.t<=((s.map Tb.z).length:Int)-1))=false:=by rw[<-znt,f];simp;omega
 rw[e]at i;rotate_left;rw[zn j];have e:(decide (o.t>=0)&&decide (o.t<=((s.map Tb.z).length:Int)-1))=true:=by rw[f];simp;omega
 rw[e]at i;obtain⟨k,hk⟩:∃k:Nat,o.t=k:=⟨o.t.toNat,by omega⟩;have d:k<s.length:=by omega
 have hm:=zgm d;rw[hk,zin,zep s k d];have hi:=arA s[k] o (p _ hm);by_cases l:o.k=1;rw[zp l];rotate_left;rw[zn l];have a:=qK o.key;generalize akF o.key=K at*;by_cases m:o.r.length>0\/K=false;rw[zp m];rotate_left;rw[zn m];by_cases h8:o.k≠8;rw[zp h8];have hc:=azK s[k] o (ht _ hm) (by omega);rotate_left;rw[zn h8];have hb:=agR o;rcases hB:nG o with _|_
 rw[zp rfl];rw[hB]at hb;rotate_left;rw[zn (by simp)];rw[hB]at hb
 all_goals (refine pF func63 rfl λst=>?_;repeat'(first|apply iX;intro hw;exact hk;apply gE;omega;rfl|apply wZ;rfl|apply KR.mk;kernel_rfl|omega|constructor|(first|apply g|apply i|apply a|apply hb)|apply hc|apply hi|apply wY;rfl|apply wI;rfl|exfalso;grind|intro h;simp at h|intro h))
theorem aJ9{α:Type}(f:α->Bool)(l:List α):decide (dJ f l>=0)=l.any f:=by
 unfold dJ
 grind
theorem aDS(d:FuncId)(caps:List PV)(f:Int->Bool)(l:List Int)(hl:l.length<4611686018427387904)(hf:∀p,qf d ([vi p]++caps) (vb (f p))):qf 271 [.seq (l.map I1), .fn d caps] (vi (dJ f l)):=by
 refine pF func271 rfl λst=>?_
 repeat' first|apply wZ;rfl|constructor
 refine aC (X:={x:Nat//x<=l.length/\∀j (h:j<x) (e:j<l.length),f l[j]=false}) (λi=>(((((St.nil 19 st).pv 0 (.seq (l.map I1))).pv 1 (.fn d caps)).pv 7 (vi ((l.map I1).length:Nat))).pv 8 (vi (i.1:Nat)))) (λi=>l.length-i.1) ⟨0,by omega,by omega⟩ ?_ λi=>?_;rotate_left;have⟨i,hi,a⟩:=i;dsimp only
 all_goals (repeat' first|refine⟨⟨i+1,by omega,λj g e=>by rcases zls.1 g with q|q;exact a j q e;subst q;assumption⟩,?_,?_⟩|apply wZ;rfl|omega|constructor|apply hf|show(_:PV)=_;(first|unfold dJ;rw[nK ‹_› ‹_› a];done|unfold dJ;rw[oV ‹_› a]);done|apply wY;rfl|apply wI;rfl|apply gE;omega|simp<;>omega|intro h;simp at h|intro h)
theorem aDx(n:Int):qf 184 [vi n] (vb (!okV n)):=by
 have e:(!okV n)=(decide (n<0)||decide (n>1048576)):=by unfold okV;rw[zbi];simp<;>omega
 rw[e];refine pF func184 rfl λst=>?_
 repeat' first|apply wZ;rfl|constructor
theorem aqP(v:List Int)(hl:v.length<1000000000000):qf 123 [.seq (v.map I1)] (vb (aoQ v)):=by
 have hx:=aDS 184 [] (λn=> !okV n) v (by omega) aDx;have hc:qf 185 [.seq (v.map I1), .fn 184 []] (vb (v.any λn=> !okV n)):=by
  rw[<-aJ9];generalize dJ (λn=> !okV n) v=X at*;refine pF func185 rfl λst=>?_
  repeat' first|apply wZ;rfl|constructor|apply hx|apply wY;rfl
 have e:aoQ v=(decide ((v.length:Int)<=64)&& !(v.any λn=> !okV n)):=by
  unfold aoQ;rw[zbi];simp;omega
 rw[e];generalize(v.any λn=> !okV n)=A at*;refine pF func123 rfl λst=>?_
 repeat' first|apply wZ;rfl|constructor|apply hc|show(_:PV)=_;simp only[zql];done;done|apply wY;rfl
theorem aFz(v:List Int)(d:Int)(hl:v.length<1000000000000):qf 340 [.seq (v.map I1),vi d] (vi (ofV v d)):=by
 unfold ofV;by_cases h:d<1\/d>v.length;rw[zp h];rotate_left;rw[zn h];obtain⟨k,hk⟩:∃k:Nat,d=k+1:=⟨(d-1).toNat,by omega⟩;have f:k<v.length:=by omega
 have e:(d-1).toNat=k:=by omega
 rw[e,zep v k f];have a:d-1=((k:Nat):Int):=by omega
 all_goals (refine pF func340 rfl λst=>?_;repeat'(first|apply iX;intro hw;exact a;apply gE;omega;rfl|apply wZ;rfl|omega|constructor|apply wI;rfl|intro h;simp at h;omega|intro h;simp at h))
theorem anG(v:List Int)(d:Dt)(hl:v.length<1000000000000):qf 279 [.seq (v.map I1), .agg d.z] (vb (sT v d)):=by
 have h:=aFz v d.dev hl;unfold sT;generalize ofV v d.dev=N at*;refine pF func279 rfl λst=>?_
 repeat' first|apply wZ;rfl|apply KR.mk;kernel_rfl|constructor|apply h|apply wY;rfl
theorem wkC(n:Int):Wk (.agg [vi 2,vi 1,vi n, .val (.string e0), .val (.slice none 0 0)]) (.agg (iW n).z):= .agg (.cons (zwr _) (.cons (zwr _) (.cons (zwr _) (.cons (zwr _) (.cons Wk.nil .nil)))))
def inL(n:Int):Prop:= -4398046511104<=n/\n<=4398046511104
theorem aFn{i:Nat}(h:i<l.length):(l.take (i+1)).sum=(l.take i).sum+l[i]:=by
 rw[zts h,List.sum_append];simp
theorem aLz(h:∀n∈l,inL n): -4398046511104*(l.length:Int)<=l.sum/\l.sum<=4398046511104*(l.length:Int):=by
 induction l with
 |nil=>simp
 |cons a l ih=>
  have d:=h a (by simp);unfold inL at d
  grind
theorem aaK(l:List Int)(hl:l.length<=10)(h:∀n∈l,inL n):qf 283 [.seq (l.map I1)] (.agg (iW l.sum).z):=by
 refine pF func283 rfl λst=>?_
 focus(repeat' first|apply wZ;rfl|constructor)
 refine aC (X:={x:Nat//x<=l.length}) (λi=>((((((St.nil 19 st).var 2 92 ([vi 0,vi 0,vi 0,vs e0, .val (.slice none 0 0)])).pv 3 (vi ((l.take i.1).sum))).pv 6 (.seq (l.map I1))).pv 7 (vi ((l.map I1).length:Nat))).pv 8 (vi (i.1:Nat)))) (λi=>l.length-i.1) ⟨0,by omega⟩ ?_ λi=>?_;rotate_left;have⟨i,hi⟩:=i;dsimp only;by_cases a:l.length<=i;rw[ztl a];rotate_left;have d:i<l.length:=by omega
 have hn:=h _ (zgm d);have hs:=aLz (l:=l.take i) λn hn=>h n (List.mem_of_mem_take hn);have f:(l.take i).length=i:=by rw[zlt];omega
 have e:=aFn d;rw[f]at hs;unfold inL at hn;generalize(l.take i).sum=S at*
 all_goals (repeat' first|refine⟨⟨i+1,by omega⟩,?_,?_⟩;dsimp only;rw[e]|exact Cn.any ⟨_,_,_,rfl,wkC _,zsr _,rfl,rfl⟩|apply wZ;rfl|omega|constructor|simp<;>omega|intro h;simp at h|exact rfl|apply wI;rfl|apply gE;omega)
end Go.Proofs.YtigmnfepdlbcpaaGreatDoor
namespace Go.Proofs.YtigmnfepdlbcpaaGreatDoor.T
open Go Go.Abs
variable{g:Pt->Pt}{l m s:List Pt}{p:Pt}{c:Cl}{w:Sp}{n t:Int}
section
structure Keeps (g:Pt->Pt):Prop where
 val:∀p,(g p).val=p.val
 d:∀p,(g p).d=p.d
 a:∀p,(g p).a=p.a
 m:∀p,(g p).m=p.m
 after:∀p,(g p).after=p.after
 afterAt:∀p,(g p).afterAt=p.afterAt
theorem Keeps.name(hg:Keeps g)(p:Pt):aH (g p)=aH p:=by unfold aH;rw[hg.d,hg.a]
theorem Keeps.parent(hg:Keeps g)(p:Pt):aJ (g p)=aJ p:=by unfold aJ;rw[hg.after,hg.afterAt]
theorem Keeps.stamp(hg:Keeps g)(p:Pt):aK (g p)=aK p:=by unfold aK;rw[hg.d,hg.m]
theorem Keeps.formed(hg:Keeps g)(p:Pt):bP (g p)=bP p:=by unfold bP;rw[hg.val,hg.m,hg.name,hg.parent]
theorem Keeps.ahead(hg:Keeps g)(a b:Pt):eJ (g a) (g b)=eJ a b:=by unfold eJ;rw[hg.stamp,hg.stamp,hg.a,hg.a]
theorem Keeps.names(hg:Keeps g)(l:List Pt):(l.map g).map aH=l.map aH:=by
 rw[List.map_map];exact List.map_congr_left λp _=>hg.name p
theorem Keeps.whole(hg:Keeps g)(l:List Pt):Whole (l.map g)↔Whole l:=by
 constructor
 ·intro h
  refine⟨⟨λp hp=>?_,?_,λp hp q hq e=>?_⟩,λp hp=>?_⟩
  ·rw[<-hg.formed];exact h.formed _ (List.mem_map_of_mem hp)
  ·rw[<-hg.names];exact h.nodup
  ·rw[<-hg.m p,<-hg.m q];exact h.times _ (List.mem_map_of_mem hp) _ (List.mem_map_of_mem hq) (by rw[hg.d,hg.d,e])
  ·rcases h.up _ (List.mem_map_of_mem hp)with e|⟨m,j,d,f⟩
   ·left;rw[<-hg.parent];exact e
   ·obtain⟨u,hu,rfl⟩:=zmq.1 j
    right;exact⟨u,hu,by rw[<-hg.name,d,hg.parent],by rw[<-hg.ahead u p];exact f⟩
 ·intro h
  refine⟨⟨λk a=>?_,?_,λk a q' i e=>?_⟩,λk a=>?_⟩
  ·obtain⟨p,hp,rfl⟩:=zmq.1 a;rw[hg.formed];exact h.formed p hp
  ·rw[hg.names];exact h.nodup
  ·obtain⟨p,hp,rfl⟩:=zmq.1 a
   obtain⟨q,hq,rfl⟩:=zmq.1 i;rw[hg.m,hg.m];exact h.times p hp q hq (by rw[hg.d,hg.d]at e;exact e)
  ·obtain⟨p,hp,rfl⟩:=zmq.1 a
   rcases h.up p hp with e|⟨u,hu,d,f⟩
   ·left;rw[hg.parent];exact e
   ·right;exact⟨g u,List.mem_map_of_mem hu,by rw[hg.name,d,hg.parent],by rw[hg.ahead];exact f⟩
theorem Keeps.anc(hg:Keeps g)(h:Anc l p s):Anc (l.map g) (g p) (s.map g):=by
 induction h with
 |root hp h0=>exact .root (List.mem_map_of_mem hp) (by rw[hg.parent];exact h0)
 |step hp hu e h0 _ ih=>rw[zmd];exact .step (List.mem_map_of_mem hp) (List.mem_map_of_mem hu) (by rw[hg.name,hg.parent];exact e) (by rw[hg.parent];exact h0) ih
theorem Keeps.lex(hg:Keeps g):∀{s t:List Pt},gT s t->gT (s.map g) (t.map g)
 |_,[],h=>by cases ‹List _› <;>exact h.elim
 |[],_::_,_=>trivial
 |a::s,b::t,h=>by
  rcases h with⟨rfl,h⟩|h
  ·exact .inl ⟨rfl,hg.lex h⟩
  ·refine .inr ?_
   rw[fU,hg.m,hg.m,hg.d,hg.d,hg.a,hg.a,<-fU];exact h
theorem Keeps.order(hg:Keeps g)(l:List Pt):cM (l.map g)=(cM l).map g:=by
 by_cases d:Whole l/\l.length<=2000
 ·have⟨e,f⟩:=gN d.1 d.2
  refine adI ((hg.whole l).2 d.1) (by grind) (e.map g) ?_;rw[List.pairwise_map];exact f.imp λ⟨s,t,a,b,c⟩=>⟨_,_,hg.anc a,hg.anc b,hg.lex c⟩
 ·rw[kT d,kT (by rw[hg.whole,zql];exact d)];rfl
def geT(k:Nm)(p:Pt):Pt:=if aH p=k then aeC p else p
theorem amK(k:Nm):Keeps (geT k):=by
 constructor<;>intro p<;>unfold geT aeC<;>split<;>rfl
theorem eraseP_len(k:Nm)(c:Cl):(eraseP c k).p.length=c.p.length:=zql _
theorem arR(e:c.k=4)(a:c.val=Vl.zero)(d:Whole c.p)(hl:c.p.length<=2000)(ho:cM c.p=c.p):rightP c=0:=by
 unfold rightP;rw[zn (by omega),zn (by simp[a,(eR _).2 d]),zn (by omega),zn (by grind)]
theorem right_erase(k:Nm)(h:rightP c=0):rightP (eraseP c k)=0:=by
 have⟨a,d,e,hl,ho⟩:=gJ h;refine arR a d (((amK k).whole _).2 e) (by rw[eraseP_len];exact hl) ?_;show cM (c.p.map (geT k))=c.p.map (geT k);rw[(amK k).order,ho]
theorem aBj{up:Nm}(h:eA c w up=0)(h0:up≠Nm.zero):∃u∈c.p,aH u=up/\¬(aK u≠w/\gD (aK u) w=false):=by
 unfold eA at h;rw[zn h0]at h;cases a:c.p.findIdx? _ with
 |none=>rw[a]at h;cases h
 |some i=>
  have⟨hk,d,_⟩:=zfi.1 a
  grind
theorem type_len(c:Cl)(s:ByteArray)(w:Sp)(up:Nm):(typeP c s w up).1.p.length<=c.p.length+s.size:=by
 unfold typeP;split
 ·exact Nat.zero_le _
 ·split
  ·exact Nat.zero_le _
  ·split
   ·exact Nat.zero_le _
   ·split
    ·exact Nat.zero_le _
    ·refine Nat.le_trans (abP _) ?_
     rw[zla,aaE];simp
end
section
structure Is (c:Cl) (l:List Pt):Prop where
 k:c.k=4
 val:c.val=Vl.zero
 whole:Whole l
 len:l.length<=2000
 p:c.p=cM l
theorem Is.perm(h:Is c l):c.p.Perm l:=by rw[h.p];exact(gN h.whole h.len).1
theorem Is.of(h:rightP c=0):Is c c.p:=by
 have⟨a,d,e,hl,ho⟩:=gJ h;exact⟨a,d,e,hl,ho.symm⟩
theorem Whole.perm'(hp:l.Perm m)(h:Whole l):Whole m:=h.perm hp
theorem Is.right(h:Is c l):rightP c=0:=by
 refine arR h.k h.val (h.whole.perm' h.perm.symm) (by rw[h.perm.length_eq];exact h.len) ?_;rw[acY h.perm];exact h.p.symm
def adF(w:Sp):Dt:=⟨w.dev,w.seq⟩
def wOK(w:Sp):Prop:=withinB w.m 1 1125899906842624=true/\mayN ⟨⟨w.dev,w.seq⟩,0⟩=true
instance(w :Sp):Decidable (wOK w):=inferInstanceAs (Decidable (_/\_))
def wrL(l:List Pt)(w:Sp):Int:=if wOK w then wrF (adF w) w.m l 0 else-1
theorem azC(c:Cl)(w:Sp):bT c w=wrL c.p w:=rfl
theorem aGU{d:Dt}(h:l.Perm m):∀n,wrF d t l n=wrF d t m n:=by
 induction h with
 |nil=>intro n;rfl
 |cons x _ ih=>intro n;simp only[wrF,ih]
 |swap x y l=>
  simp only[wrF]
  grind
 |trans _ _ ih1 ih2=>grind
theorem aFQ(h:l.Perm m)(w:Sp):wrL l w=wrL m w:=by unfold wrL;rw[aGU h]
theorem anY{d:Dt}{t:Int}:∀{l:List Pt}{n:Int},0<=n->(∀p∈l,0<=p.a)->wrF d t l n= -1\/n<=wrF d t l n
 |[],n,_,_=> .inr (Int.le_refl _)
 |p::r,n,h,hf=>by
  have a:∀q∈r,0<=q.a:=λq hq=>hf q (by simp[hq])
  simp only[wrF]
  split
  ·exact anY h a
  ·split
   ·simp
   ·rcases anY (d:=d) (t:=t) (n:=max n _) (by omega) a with e|e
    ·exact .inl e
    grind
theorem apH{d:Dt}{t:Int}:∀{l:List Pt}{n:Int},(∀p∈l,0<=p.a)->0<=n->0<=wrF d t l n->∀p∈l,p.d=d->p.m=t/\p.a<wrF d t l n
 |[],_,_,_,_,p,h,_=>by cases h
 |x::r,n,hf,hn,h0,p,hp,e=>by
  have hx:=hf x (by simp)
  have f:∀q∈r,0<=q.a:=λq hq=>hf q (by simp[hq])
  simp only[wrF]at h0⊢
  rcases zmc.1 hp with rfl|hp
  ·rw[zn (by simp[e])]at h0⊢
   split at h0
   ·omega
   ·rename_i a
    rw[zn a];refine⟨by simpa using a,?_⟩;rcases anY (d:=d) (t:=t) (l:=r) (n:=max n (p.a+1)) (by omega) f with q|q<;>omega
  ·split at h0
   ·rename_i a;rw[zp a];exact apH f hn h0 p hp e
   ·rename_i a
    rw[zn a];split at h0
    ·omega
    ·rename_i g;rw[zn g];exact apH f (by omega) h0 p hp e
def dG(l:List Pt)(w:Sp)(up:Nm):Prop:=up=Nm.zero\/∃u∈l,aH u=up/\(aK u=w\/gD (aK u) w=true)
theorem azV{up:Nm}(hn:named c.p):eA c w up=0↔dG c.p w up:=by
 constructor
 ·intro h
  by_cases h0:up=Nm.zero
  ·exact .inl h0
  ·have⟨u,hu,e,d⟩:=aBj h h0
   refine .inr ⟨u,hu,e,?_⟩
   grind
 ·intro h
  unfold eA;by_cases h0:up=Nm.zero
  ·rw[zp h0]
  ·rw[zn h0]
   have⟨u,hu,e,d⟩:=h.resolve_left h0;cases f:c.p.findIdx? (λp=>decide (aH p=up))with
   |none=>
    grind
   |some i=>
    have⟨hk,a,_⟩:=zfi.1 f;simp only[zgg hk];have g:c.p[i]=u:=hn _ (zgm hk) _ hu ((of_decide_eq_true a).trans e.symm)
    grind
theorem aEZ(h:l.Perm m)(w:Sp)(up:Nm):dG l w up↔dG m w up:=
 or_congr Iff.rfl ⟨λ⟨u,hu,q⟩=>⟨u,h.subset hu,q⟩,λ⟨u,hu,q⟩=>⟨u,h.symm.subset hu,q⟩⟩
theorem aMF(h:bP p=true):mayN (aH p)=true:=by
 simp only[bP,zba]at h;exact h.1.2
theorem aL7(hw:wOK w)(h0:0<=n)(a:n<=1999):mayN ⟨adF w,n⟩=true:=by
 have:=hw.2;simp only[mayN,withinB,zba,zde]at this⊢;exact⟨this.1,h0,a⟩
theorem azQ{up:Nm}(b:UInt8)(f:Whole l)(hw:wOK w)(h0:0<=n)(C:n<=1999)(ha:∀p∈l,p.d=adF w->p.m=w.m/\p.a<n)(h:up=Nm.zero\/∃u∈l,aH u=up/\(aK u=w\/gD (aK u) w=true)):
  Whole (l++[⟨⟨1,(b.toNat:Int),e0⟩,⟨w.dev,w.seq⟩,n,w.m,up.d,up.a,false⟩]):=by
 have hb:=b.toNat_lt
 obtain⟨x,hx⟩:∃x:Pt,(⟨⟨1,(b.toNat:Int),e0⟩,⟨w.dev,w.seq⟩,n,w.m,up.d,up.a,false⟩:Pt)=x:=⟨_,rfl⟩
 have j:aH x=⟨adF w,n⟩:=by rw[<-hx];rfl
 have k:aJ x=up:=by rw[<-hx];rfl
 have i:x.d=adF w:=by rw[<-hx];rfl
 have a:x.m=w.m:=by rw[<-hx]
 have A:aK x=w:=by rw[<-hx];rfl
 have z:x.a=n:=by rw[<-hx]
 have B:x.val=⟨1,(b.toNat:Int),e0⟩:=by rw[<-hx]
 rw[hx]
 have y:up=Nm.zero\/mayN up=true:=h.imp id λ⟨u,hu,e,_⟩=>by rw[<-e];exact aMF (f.formed u hu)
 have t:bP x=true:=by
  unfold bP;rw[B,a,j,k,aL7 hw h0 C,hw.1];have r:withinB (b.toNat:Int) 0 255=true:=by
   unfold withinB;rw[zba,zde,zde];omega
  rcases y with e|e
  ·simp[r,e]
  ·simp[r,e]
 refine⟨⟨λp hp=>?_,?_,λp hp q hq e=>?_⟩,λp hp=>?_⟩
 ·rcases zma.1 hp with hp|hp
  ·exact f.formed p hp
  ·rw[zms.1 hp];exact t
 ·rw[zmd,List.nodup_append]
  refine⟨f.nodup,by simp,λm hm D g e=>?_⟩;obtain⟨p,hp,rfl⟩:=zmq.1 hm;rw[List.map_singleton,zms]at g;rw[g,j]at e;injection e with r e2
  have:=(ha p hp r).2;omega
 ·rcases zma.1 hp with hp|hp<;>rcases zma.1 hq with hq|hq
  ·exact f.times p hp q hq e
  ·rw[zms.1 hq]at e⊢;rw[a];exact(ha p hp (e.trans i)).1
  ·rw[zms.1 hp]at e⊢;rw[a];exact(ha q hq (e.symm.trans i)).1.symm
  ·rw[zms.1 hp,zms.1 hq]
 ·rcases zma.1 hp with hp|hp
  ·rcases f.up p hp with e|⟨u,hu,e⟩
   ·exact .inl e
   ·exact .inr ⟨u,List.mem_append_left _ hu,e⟩
  ·rw[zms.1 hp,k]
   rcases h with e|⟨u,hu,e,d⟩
   ·exact .inl e
   ·refine .inr ⟨u,List.mem_append_left _ hu,e,?_⟩
    unfold eJ;rw[A,z];rcases d with d|d
    ·have hd:u.d=adF w:=by rw[<-d];rfl
     have:=(ha u hu hd).2;simp[d,this]
    ·rw[d];rfl
theorem agN{w:Sp}:∀(bs:List UInt8){l:List Pt}{n:Int}{up:Nm},Whole l->wOK w->0<=n->n+bs.length<=2000->(∀p∈l,p.d=adF w->p.m=w.m/\p.a<n)->dG l w up->Whole (l++tyF w bs n up)
 |[],l,n,up,hW,_,_,_,_,_=>by rw[tyF,List.append_nil];exact hW
 |b::r,l,n,up,hW,hw,h0,h1,ha,hup=>by
  rw[zlc]at h1
  have a:=azQ b hW hw h0 (by omega) ha hup
  have:=agN r (n:=n+1) a hw (by omega) (by omega) (λp hp e=>by grind) (.inr ⟨_,List.mem_append_right _ (zms.2 rfl),rfl, .inl rfl⟩)
  simpa
open Classical in
theorem aFR(a:Whole l):∀p∈l,0<=p.a:=λp hp=>(mZ (a.formed p hp)).1
theorem awE(s:ByteArray):s.data.toList.length=s.size:=rfl
theorem Is.type(h:Is c l)(s:ByteArray)(w:Sp)(up:Nm)(hl:l.length+s.size<=2000):
  ((wrL l w<0\/¬dG l w up\/200<s.size\/2000<wrL l w+s.size)/\(typeP c s w up).2≠0)\/
  (0<=wrL l w/\dG l w up/\¬(200<s.size\/2000<wrL l w+s.size))/\(typeP c s w up).2=0/\Is (typeP c s w up).1 (l++tyF w s.data.toList (wrL l w) up):=by
 have hp:=h.perm
 have f:Whole c.p:=h.whole.perm' hp.symm
 have i:bT c w=wrL l w:=by rw[azC,aFQ hp]
 have g:eA c w up=0↔dG l w up:=by rw[azV f.named,aEZ hp]
 have j:c.p.length=l.length:=hp.length_eq
 unfold typeP
 rw[h.right,i,j]
 simp only[ne_eq,not_true_eq_false,if_false]
 by_cases a:wrL l w<0
 ·left;rw[zp a];exact⟨.inl a,by simp⟩
 ·rw[zn a]
  by_cases e:200<s.size\/2000<l.length+s.size\/2000<wrL l w+s.size
  ·left;rw[zp e];exact⟨by rcases e with q|q|q;exact .inr (.inr (.inl q));omega;exact .inr (.inr (.inr q)),by simp⟩
  ·rw[zn e]
   by_cases d:eA c w up=0
   ·right
    rw[zn (by simp[d])];have hb:=g.1 d;refine⟨⟨by omega,hb,λq=>e (q.imp id .inr)⟩,rfl,h.k,h.val,?_,?_,?_⟩
    ·have hw:wOK w:=by
      apply Classical.byContradiction;intro q;unfold wrL at a;rw[zn q]at a;omega
     have k:wrL l w=wrF (adF w) w.m l 0:=by unfold wrL;rw[zp hw]
     refine agN _ h.whole hw (by omega) (by rw[awE];omega) ?_ hb;rw[k]at a⊢;exact apH (aFR h.whole) (Int.le_refl 0) (by omega)
    ·rw[zla,aaE,awE];omega
    ·exact acY (hp.append_right _)
   ·left
    rw[zp d];exact⟨.inr (.inl λq=>d (g.2 q)),d⟩
end
end Go.Proofs.YtigmnfepdlbcpaaGreatDoor.T
namespace Go.Proofs.YtigmnfepdlbcpaaGreatDoor
open Go Go.Abs Tryz
variable{α:Type}{i k m n:Nat}{p q y:Pt}{ok:Pt->Bool}{c d:Cl}{v:Vl}{kn:List Int}{w:Wr}{o:Ot}{args caps:List PV}{L:Nat->Prop}{f:List Pt}{st:aD}{a l x:Ln}{b:Bs}{t:Tb}{who:Dt}{s:Sc}{tx:Cl->Int}
section
theorem uV(f:α->Bool)(a:α)(l:List α):gU f (a::l)=if f a=true then 0 else gU f l+1:=by
 unfold gU;rw[List.findIdx?_cons];by_cases h:f a=true
 ·grind
 simp_all
theorem arI{l:List α}{x y:α}:y∈l.take k++[x]++l.drop k↔y=x\/y∈l:=by
 have h:y∈l↔y∈l.take k\/y∈l.drop k:=by rw[<-zma,List.take_append_drop]
 grind
theorem aoU{α:Type}{r:α->α->Prop}(e:∀a b c,r a b->r b c->r a c){x:α}{f:α->Bool}:∀{l:List α},l.Pairwise r->(∀p∈l,f p=false->r p x)->(∀p∈l,f p=true->r x p)->(l.take (gU f l)++[x]++l.drop (gU f l)).Pairwise r
 |[],_,_,_=>by simp
 |a::l,h,h1,h2=>by
  have⟨ha,hl⟩:=List.pairwise_cons.1 h
  rw[uV]
  by_cases hf:f a=true
  ·rw[zp hf]
   have d:=h2 a (by simp) hf;show(x::a::l).Pairwise r;refine List.pairwise_cons.2 ⟨λy hy=>?_,h⟩;rcases zmc.1 hy with rfl|hy
   ·exact d
   ·exact e _ _ _ d (ha y hy)
  ·rw[zn hf,List.take_succ_cons,List.drop_succ_cons,List.cons_append,List.cons_append]
   refine List.pairwise_cons.2 ⟨λy hy=>?_,aoU e hl (λp hp=>h1 p (zmm _ hp)) λp hp=>h2 p (zmm _ hp)⟩;rcases arI.1 hy with rfl|hy
   ·exact h1 a (by simp) (by simpa using hf)
   ·exact ha y hy
theorem amP{l:List Pt}{x:Pt}:y∈cN l k [x]↔y=x\/y∈l:=arI
theorem aBt{bh:Pt->Pt->Bool}(m:∀{a b c},bh b a=true->bh c b=true->bh c a=true){l:List Pt}:vV ok bh l=true↔(∀p∈l,ok p=true)/\l.Pairwise λa b=>bh b a=true:=by
 constructor
 ·intro h
  have hj:∀j (hj:j<l.length),ok l[j]=true/\(j=0\/bh l[j] (l[j-1]'(by omega))=true):=λj hj=>by
   unfold vV at h
   rw[zal]at h
   have:=h j (zmr.2 hj)
   rw[zep l j hj,zep l (j-1) (by omega),zba,Bool.or_eq_true,zde]at this
   exact this
  refine⟨λp hp=>by obtain⟨j,e,rfl⟩:=zgo hp;exact(hj j e).1,List.pairwise_iff_getElem.2 λi j hi e k=>?_⟩;have key:∀d,∀h:i+d+1<l.length,bh l[i+d+1] l[i]=true:=λd=>by
   induction d with
   |zero=>intro h;exact(hj (i+1) h).2.resolve_left (by omega)
   |succ d ih=>
    intro h;have f:=ih (by omega);have g:=(hj (i+(d+1)+1) h).2.resolve_left (by omega);exact m f g
  have:=key (j-i-1) (by omega);simp only[show i+(j-i-1)+1=j by omega]at this;exact this
 ·rintro⟨f,g⟩
  refine zM λj hj=>?_;rw[f _ (zgm hj),Bool.true_and];rcases Nat.eq_zero_or_pos j with rfl|h0
  ·rfl
  ·rw[List.pairwise_iff_getElem.1 g (j-1) j (by omega) hj (by omega),Bool.or_true]
theorem xT:kJ c=true↔(c.k=1/\c.val=Vl.zero)/\(∀p∈c.p,eT p=true)/\c.p.Pairwise λa b=>aW b.d a.d=true:=by
 unfold kJ;rw[zba,zde,aBt (bh:=λp q=>aW _ q.d) λd e=>uC d e]
theorem aqB:dG p q=true↔p.val.n>q.val.n\/p.val.n=q.val.n/\aW p.d q.d=true:=by
 unfold dG;simp
theorem aFd{a b c:Pt}(d:dG b a=true)(e:dG c b=true):dG c a=true:=by
 rw[aqB]at*;rcases d with d|⟨e1,d⟩<;>rcases e with e|⟨f,e⟩
 ·omega
 ·omega
 ·grind
 ·exact .inr ⟨by omega,uC d e⟩
theorem aJL{a b:Pt}(h:dG a b=false)(d:¬(a.val.n=b.val.n/\a.d=b.d)):dG b a=true:=by
 rw[<-znt,aqB]at h;rw[aqB];rcases Int.lt_trichotomy _ _ with q|q|q
 ·exact .inl q
 ·refine .inr ⟨q.symm,?_⟩
  refine acI ?_ λe=>d ⟨q,e⟩
  grind
 omega
theorem nD:iI c=true↔(c.k=3/\c.val=Vl.zero)/\(∀p∈c.p,eU p=true)/\c.p.Pairwise λa b=>dG b a=true:=by
 unfold iI;rw[zba,zde,aBt (bh:=dG) λd e=>aFd d e]
theorem aEc{d:Dt}(hv:cB v=true)(hd:eG d=true):eT (ptN v d)=true:=by
 unfold eT;rw[show(ptN v d).val=v from rfl,show(ptN v d).d=d from rfl,hv,hd];rfl
theorem aEJ{n:Int}{d:Dt}(hv:cB (nV n)=true)(hd:eG d=true):eU (ptN (nV n) d)=true:=by
 unfold eU;rw[show(ptN (nV n) d).val=nV n from rfl,show(ptN _ d).d=d from rfl,hv,hd];rfl
theorem aaA{d:Dt}(h:kJ c=true)(hv:cB v=true)(hd:eG d=true):kJ (fW c v d kn)=true:=by
 have⟨h0,f,e⟩:=xT.1 h;refine xT.2 ⟨h0,λp hp=>?_,aoU (r:=λa b:Pt=>aW _ a.d=true) (λ_ _ _ f e=>uC f e) (e.filter _) (λp hp hf=>?_) λp hp hf=>?_⟩
 ·rcases amP.1 hp with rfl|hp
  ·exact aEc hv hd
  grind
 ·have hk:=(List.mem_filter.1 hp).2
  unfold mP at hk;rw[zba,zde]at hk;exact acI hf hk.1
 ·exact hf
theorem agI{n:Int}{d:Dt}(h:iI c=true)(hv:cB (nV n)=true)(hd:eG d=true):iI (nE c n d)=true:=by
 unfold nE;split
 ·exact h
 ·rename_i hs
  have⟨h0,f,e⟩:=nD.1 h;refine nD.2 ⟨h0,λp hp=>?_,aoU (r:=λa b=>dG b a=true) (λ_ _ _ f e=>aFd f e) e (λp hp hf=>aJL hf ?_) λp hp hf=>hf⟩
  ·rcases amP.1 hp with rfl|hp
   ·exact aEJ hv hd
   grind
  ·rintro⟨g,i⟩
   apply hs;rw[zay];refine⟨p,hp,?_⟩;unfold iS;rw[zdt (show p.val.n=n from g),zdt (show p.d=d from i)];rfl
theorem arU{n:Int}{d:Dt}(h:iI c=true):iI (oP c n d kn)=true:=by
 have⟨h0,a,e⟩:=nD.1 h;exact nD.2 ⟨h0,λp hp=>a p ((List.mem_filter.1 hp).1),e.filter _⟩
theorem aiK{n:Int}(h:(sL c n).2=0):(sL c n).1.k=2/\bL (sL c n).1=0/\(sL c n).1.p=[]:=by
 unfold sL at*;split at h
 ·rename_i q;exact absurd h q
 ·rename_i q;rw[zn q]
  split at h
  ·grind
  ·rename_i d;rw[zn d]
   split at h
   ·grind
   ·rename_i a;rw[zn a]
    exact⟨rfl,zdn a,rfl⟩
theorem afG{s:ByteArray}{w:T.Sp}{up:T.Nm}(h:T.rightP c=0)(h0:(T.typeP c s w up).2=0):T.rightP (T.typeP c s w up).1=0:=by
 have hl:c.p.length+s.size<=2000:=by
  unfold T.typeP at h0
  grind
 rcases(T.Is.of h).type s w up hl with⟨_,q⟩|⟨_,_,q⟩
 ·omega
 ·exact q.right
theorem mB(h:T.rightP c=0):c.k=4:=by
 unfold T.rightP at h
 grind
theorem cS:mK T.rightP c=true↔(c.k=0/\cB c.val=true/\c.p=[])\/(c.k=1/\kJ c=true)\/(c.k=2/\bL c=0)\/(c.k=3/\iI c=true)\/(c.k=4/\T.rightP c=0):=by
 unfold mK
 grind
theorem awW(h:cB v=true)(hk:v.k=1):cB (nV v.n)=true:=by
 unfold cB at*;rw[zn (by omega),zp hk]at h;simp at*;exact⟨⟨rfl,h.1.2⟩,h.2⟩
theorem uF(h:tD w=true):eG w.d=true:=by
 unfold tD T.withinB at h;unfold eG Wr.d
 grind
theorem aKL{p:Co}(hw:tD w=true)(hc:mK T.rightP c=true)(hf:uK o.k c.k=true)(hv:nW p o=0)(h0:(dW w c o).2=0):mK T.rightP (dW w c o).1=true/\(dW w c o).1.k=c.k:=by
 have hd:=uF hw;have d:cB o.val=true:=by
  unfold nW at hv;split at hv
  ·cases hv
  ·rename_i q
   cases e:cB o.val with
   |true=>rfl
   |false=>exact absurd (.inr e) q
 have hn:o.k≠2->o.k≠6->o.k≠7->cB (nV o.val.n)=true:=λa b e=>by
  apply awW d
  unfold nW at hv
  split at hv
  ·cases hv
  ·split at hv
   ·rename_i q;exact absurd q.1 a
   split at hv
   ·cases hv
   split at hv
   ·cases hv
   ·rename_i q;exact Classical.byContradiction λz=>q ⟨a,b,z⟩
 unfold dW at*;unfold uK at hf;by_cases k2:o.k=2
 ·rw[zp k2]at hf h0⊢
  rw[zde]at hf;by_cases c0:c.k=0
  ·rw[zp c0]
   exact⟨cS.2 (.inl ⟨rfl,d,rfl⟩),c0.symm⟩
  ·rw[zn c0]
   have c1:c.k=1:=hf.resolve_left c0;rcases cS.1 hc with q|q|q|q|q
   ·exact absurd q.1 c0
   ·exact⟨cS.2 (.inr (.inl ⟨c1,aaA q.2 d hd⟩)),rfl⟩
   all_goals omega
 rw[zn k2]at hf h0⊢;by_cases k:o.k=3
 ·rw[zp k]at hf h0⊢
  rw[zde]at hf;have⟨i,m,r⟩:=aiK h0;exact⟨cS.2 (.inr (.inr (.inl ⟨i,m⟩))),by rw[i,hf]⟩
 rw[zn k]at hf h0⊢;by_cases g:o.k=4
 ·rw[zp (.inl g),zde]at hf
  rw[zp g]at h0⊢;rcases cS.1 hc with q|q|q|q|q
  ·omega
  ·omega
  ·omega
  ·have hk:(nE c o.val.n w.d).k=c.k:=by unfold nE;split<;>rfl
   exact⟨cS.2 (.inr (.inr (.inr (.inl ⟨by rw[hk,hf],agI q.2 (hn k2 (by omega) (by omega)) hd⟩)))),hk⟩
  ·omega
 rw[zn g]at h0⊢;by_cases h:o.k=5
 ·rw[zp (.inr h),zde]at hf
  rw[zp h]at h0⊢;rcases cS.1 hc with q|q|q|q|q
  ·omega
  ·omega
  ·omega
  ·exact⟨cS.2 (.inr (.inr (.inr (.inl ⟨hf,arU q.2⟩)))),rfl⟩
  ·omega
 rw[zn (by omega)]at hf;rw[zn h]at h0⊢;have f:(o.k=6\/o.k=7)/\c.k=4:=by
  split at hf
  ·rename_i q;exact⟨q,by simpa using hf⟩
  ·cases hf
 have j:T.rightP c=0:=by
  rcases cS.1 hc with q|q|q|q|q
  ·omega
  ·omega
  ·omega
  ·omega
  ·exact q.2
 by_cases l:o.k=6
 ·rw[zp l]at h0⊢
  have:=afG j h0;exact⟨cS.2 (.inr (.inr (.inr (.inr ⟨mB this,this⟩)))),by rw[mB this,f.2]⟩
 ·rw[zn l]
  have:=T.right_erase ⟨o.after,o.a⟩ j;exact⟨cS.2 (.inr (.inr (.inr (.inr ⟨mB this,this⟩)))),rfl⟩
theorem aHI :T.rightP ⟨4,Vl.zero,[]⟩=0:=rfl
theorem aFx{c:Co}(hw:tD w=true)(hk:0<=c.k/\c.k<=4)(hv:mW c v=0)(h0:(jG w c.k v).2=0):mK T.rightP (jG w c.k v).1=true/\(jG w c.k v).1.k=c.k:=by
 have hd:=uF hw;unfold mW at hv;split at hv
 ·cases hv
 rename_i m;have a:cB v=true:=by simpa using m
 split at hv
 ·cases hv
 rename_i r;split at hv
 ·cases hv
 rename_i p;unfold jG at*;by_cases c0:c.k=0
 ·rw[zp c0]
  exact⟨cS.2 (.inl ⟨rfl,a,rfl⟩),c0.symm⟩
 rw[zn c0]at h0⊢;by_cases c2:c.k=2
 ·rw[zp c2]at h0⊢
  have⟨i,l,q⟩:=aiK h0;exact⟨cS.2 (.inr (.inr (.inl ⟨i,l⟩))),by rw[i,c2]⟩
 rw[zn c2]at h0⊢;by_cases f:c.k=4
 ·rw[zp f]at h0⊢
  have:=afG aHI h0;exact⟨cS.2 (.inr (.inr (.inr (.inr ⟨mB this,this⟩)))),by rw[mB this,f]⟩
 rw[zn f]at h0⊢;have g:c.k=1\/c.k=3:=by omega
 have k:c.k=1->kJ ⟨c.k,Vl.zero,[]⟩=true:=λe=>xT.2 ⟨⟨e,rfl⟩,by simp,List.Pairwise.nil⟩;have j:c.k=3->iI ⟨c.k,Vl.zero,[]⟩=true:=λe=>nD.2 ⟨⟨e,rfl⟩,by simp,List.Pairwise.nil⟩;by_cases v0:v.k=0
 ·rw[zp v0]
  rcases g with e|e
  ·exact⟨cS.2 (.inr (.inl ⟨e,k e⟩)),rfl⟩
  ·exact⟨cS.2 (.inr (.inr (.inr (.inl ⟨e,j e⟩)))),rfl⟩
 rw[zn v0]at h0⊢;by_cases d:c.k=3
 ·rw[zp d]
  have h:v.k=1:=by
   have:v.k=bW c:=Classical.byContradiction λz=>p ⟨v0,z⟩;rw[this];unfold bW;rw[zn (by omega),zp (.inr d)]
  have hk:(nE ⟨c.k,Vl.zero,[]⟩ v.n w.d).k=c.k:=by unfold nE;split<;>rfl
  exact⟨cS.2 (.inr (.inr (.inr (.inl ⟨by rw[hk,d],agI (j d) (awW a h) hd⟩)))),hk⟩
 ·rw[zn d]
  have c1:c.k=1:=by omega
  exact⟨cS.2 (.inr (.inl ⟨c1,aaA (k c1) a hd⟩)),rfl⟩
end
section
attribute [local irreducible] Ev PWp
theorem aAY{α:Type}{f:α->Bool}:∀{l:List α}{i:Nat}(h:i<l.length),f l[i]=true->(∀j (hj:j<l.length),j<i->f l[j]=false)->gU f l=i
 |[],_,h,_,_=>by grind
 |a::l,0,_,hf,_=>by rw[uV,zp (show f a=true from hf)]
 |a::l,i+1,h,hf,hn=>by
  rw[uV,zn (by rw[show f a=false from hn 0 (by simp) (by omega)];simp),aAY (i:=i) _ hf λj hj d=>hn (j+1) (by grind) (by omega)]
theorem azD{α:Type}{f:α->Bool}:∀{l:List α},(∀j (hj:j<l.length),f l[j]=false)->gU f l=l.length
 |[],_=>rfl
 |a::l,hn=>by
  rw[uV,zn (by rw[show f a=false from hn 0 (by simp)];simp),azD λj hj=>hn (j+1) (by grind)];rfl
def aeH(st:aD)(c:Cl)(r:PV)(S:aD):Prop:=∃id,r= .agg [vi c.k,vi c.val.k,vi c.val.n,vs c.val.s, .vec id 11 0 c.p.length]/\st id=none/\S=upd st id (some (.arr 154 (c.p.map Pt.z)))
theorem yP{f:FuncId}(h:∀st,qc f args st (aeH st c)):qf f args (.agg c.z):=λst=>
 eS (h _) λp st' h=>by
  obtain⟨id,rfl,a,rfl⟩:=h
  exact .inl ⟨id,154,c.p.map _,_,st,aA _ _ _,oU, .agg (.cons .refl (.cons .refl (.cons .refl (.cons .refl (.cons (dI rfl) .nil))))),bN a,rfl,rfl⟩
theorem aKq(l:List Pt)(d:FuncId)(caps:List PV)(f:Pt->Bool)(hl:l.length<1000000000)(hf:∀p,qf d ([.agg p.z]++caps) (vb (f p)))(st:aD):qc 277 [.seq (l.map Pt.z), .fn d caps] st λr S=>∃id,r= .vec id 11 0 (l.filter f).length/\st id=none/\S=upd st id (some (.arr 154 ((l.filter f).map Pt.z))):=by
 refine pC func277 rfl ?_
 repeat' first|apply wZ;rfl|constructor
 refine cL 5 154 11 rfl rfl rfl λid a=>?_;refine aC (X:={x:Nat×Nat//x.1<=l.length/\st x.2=none}) (λi=>((((((St.nil 23 (upd st i.1.2 (some (.arr 154 (((l.take i.1.1).filter f).map Pt.z))))).pv 1 (.fn d caps)).pv 5 (.vec i.1.2 11 0 ((l.take i.1.1).filter f).length)).pv 8 (.seq (l.map Pt.z))).pv 9 (vi ((l.map Pt.z).length:Nat))).pv 10 (vi (i.1.1:Nat)))) (λi=>l.length-i.1.1) ⟨(0,id),by simp,a⟩ ?_ λi=>?_;dsimp only;rotate_left;obtain⟨⟨i,id⟩,hi,a⟩:=i;simp only at hi a;dsimp only;by_cases j:l.length<=i;have e:l.take i=l:=ztl j;rw[e];rotate_left;have q:i<l.length:=by omega
 have g:=hf l[i];have u:((l.take i).filter f).length<=l.length:=Nat.le_trans (List.length_filter_le ..) (by simp;omega);rcases hb:f l[i]with _|_
 have e:(l.take (i+1)).filter f=(l.take i).filter f:=by rw[zts q,List.filter_append];simp[hb]
 rw[hb]at g;rotate_left;have e:(l.take (i+1)).filter f=(l.take i).filter f++[l[i]]:=by rw[zts q,List.filter_append];simp[hb]
 rw[hb]at g;generalize(l.take i).filter f=K at*
 all_goals (repeat' first|apply Cn.cf;focus((apply g);done)|refine⟨⟨(i+1,m),by simp only;omega,aI k⟩,?_,?_⟩;dsimp only;rw[e]|exact Cn.any (aM ‹_›)|refine⟨⟨(i+1,id),by simp only;omega,a⟩,?_,?_⟩;dsimp only;rw[e]|refine Cn.rr ?_;exact⟨id,rfl,a,rfl⟩;done|apply wZ;rfl|exact Cn.t0|omega|constructor|simp<;>omega|intro h;simp at h|exact rfl|show _=_;simp|apply apV pk (f:=Pt.z) [l[i]] 96;(iterate 9 rfl);exact aA _ _ _;omega;exactλ_=>rfl;exactλ_=>rfl;exact fR;(focus(simp;omega));(focus(simp;omega));rfl;intro m k|apply wY;rfl|apply wI;rfl|apply gE;omega)
theorem aMo(a b:Dt):(decide (a.dev=b.dev)&&decide (a.seq=b.seq))=decide (a=b):=by
 simp[Dt.ext_iff]
theorem aAo(d:Dt)(kn:List Int)(hk:kn.length<1000000000000)(p:Pt):qf 278 ([.agg p.z]++[.rp d.z, .rp [.seq (kn.map I1)]]) (vb (mP d kn p)):=by
 have h:=anG kn p.d hk;have e:mP d kn p=(!(decide (p.d.dev=d.dev)&&decide (p.d.seq=d.seq))&& !sT kn p.d):=by unfold mP;rw[aMo];simp
 rw[e];generalize sT kn p.d=H at*;refine pF func278 rfl λst=>?_
 repeat' first|apply wZ;rfl|constructor|apply h|apply wY;rfl
theorem aEu(c:Cl)(v:Vl)(d:Dt)(kn:List Int)(hl:c.p.length<1000000000)(hk:kn.length<1000000000000)(st:aD):qc 196 [.agg c.z, .agg v.z, .agg d.z, .seq (kn.map I1)] st (aeH st (fW c v d kn)):=by
 have C:=aKq c.p 278 [.rp d.z, .rp [.seq (kn.map I1)]] (mP d kn) hl (aAo d kn hk);have E:=List.length_filter_le (mP d kn) c.p;unfold aeH fW;dsimp only;generalize c.p.filter (mP d kn)=K at*;refine pC func196 rfl ?_
 focus(repeat' first|apply cP;rfl;apply C _;rintro _ st' (⟨id,rfl,l,rfl⟩)|apply wZ;rfl|constructor|apply bO 6;rfl;rfl|apply bO 7;rfl;rfl|apply wY;rfl)
 have l:st id=none:=l;refine aC (X:={x:Nat//x<=K.length/\∀j (h:j<K.length),j<x->aW K[j].d d=false}) (λi=>((((((((((St.nil 42 (upd st id (some (.arr 154 (K.map Pt.z))))).var 4 92 (c.z)).var 5 46 (v.z)).pv 6 (.rp d.z)).var 8 92 ([vi 0,vi 0,vi 0,vs e0, .val (.slice none 0 0)])).pv 9 (.vec id 11 0 K.length)).pv 10 (vi (K.length:Nat))).pv 19 (.vec id 11 0 K.length)).pv 20 (vi (K.length:Nat))).pv 21 (vi (i.1:Nat)))) (λi=>K.length-i.1) ⟨0,by omega,by omega⟩ ?_ λi=>?_;rotate_left;have⟨i,hi,u⟩:=i;dsimp only;have m:=λ(k:Nat)(hk:k<=K.length)(st2:aD)(hst:st2 id=some (.arr 154 (K.map Pt.z)))=>arY K [ptN v d] k id K.length st2 hst rfl hk (by simp) (by simp;omega);by_cases D:K.length<=i;have e:=azD (f:=λp:Pt=>aW p.d d) λj hj=>u j hj (by omega);rw[e];rotate_left;have r:i<K.length:=by omega
 have z:=amW K[i].d d;have g:=aBq K[i].d d;rcases hb:aW K[i].d d with _|_
 rw[hb]at g;have g:¬byD K[i].d d>0:=by simpa using g
 have y:∀j (h:j<K.length),j<i+1->aW K[j].d d=false:=λj hj A=>by
  rcases zls.1 A with q|q
  ·exact u j hj q
  ·subst q;exact hb
 generalize byD K[i].d d=B at*;rotate_left;have e:=aAY (f:=λp:Pt=>aW p.d d) r hb u;rw[e];rw[hb]at g;have g:byD K[i].d d>0:=by simpa using g
 generalize byD K[i].d d=B at*
 all_goals (repeat' first|exact Cn.any ⟨_,_,upd st id2 (some (.arr 154 ((cN K i [ptN v d]).map Pt.z))),rfl,zwr _,iR l,id2,rfl,fA l hid2,rfl⟩|apply Cn.cf;focus((apply z);done)|apply cP;rfl;apply m i hi _ (aA _ _ _);rintro _ st' (⟨id2,rfl,hid2,rfl⟩)|refine⟨⟨i+1,by omega,y⟩,?_,?_⟩|exact Cn.any ⟨_,_,upd st id2 (some (.arr 154 ((cN K K.length [ptN v d]).map Pt.z))),rfl,zwr _,iR l,id2,rfl,fA l hid2,rfl⟩|apply cP;rfl;apply m K.length (znr _) _ (aA _ _ _);rintro _ st' (⟨id2,rfl,hid2,rfl⟩)|apply wZ;rfl|exact Cn.t0|omega|constructor|apply wY;rfl|intro h;simp at h|exact rfl|apply ldL pk Pt.elem (a:=K[i]);rfl;rfl;rotate_left;rfl;exact aA _ _ _;intro _;exact zgg r;rfl|apply ixA pk;(iterate 5 rfl);rotate_left;rfl;intro hw;exact(show _=((i:Nat):Int)from by omega);intro hw;omega;rfl;exact Nat.zero_add _|simp<;>omega)
theorem aeD(c:Cl)(v:Vl)(d:Dt)(kn:List Int)(hl:c.p.length<1000000000)(hk:kn.length<1000000000000):qf 196 [.agg c.z, .agg v.z, .agg d.z, .seq (kn.map I1)] (.agg (fW c v d kn).z):=yP (aEu c v d _ hl hk)
def aLK(n:Int)(d:Dt):List Value:=[.int .i64 n, .int .i64 d.dev, .int .i64 d.seq]
theorem aIX(n:Int)(d:Dt)(p:Pt):decide (ahI (ptN (nV n) d) p=0)=iS n d p:=by
 unfold ahI iS kN ptN nV;simp only[orI];simp only[Dt.ext_iff]
 grind
theorem aJr(c:Cl)(n:Int)(d:Dt)(hl:c.p.length<1000000000)(st:aD):qc 200 [.agg c.z,vi n, .agg d.z] st (aeH st (nE c n d)):=by
 have G:=abK c.p;have k:=λp=>aBv (ptN (nV n) d) p;have hz:=aIX n d;have e:=λp=>aIi (ptN (nV n) d) p;refine pC func200 rfl ?_
 focus(repeat' first|apply wZ;rfl|constructor|apply mkB (xs:=aLK n d);iterate 4 rfl)
 refine aC (X:={x:Nat×Nat//x.1<=c.p.length/\(∀j (h:j<c.p.length),j<x.1->iS n d c.p[j]=false)/\((x.2=c.p.length/\∀j (h:j<c.p.length),j<x.1->dG c.p[j] (ptN (nV n) d)=false)\/(∃h:x.2<c.p.length,dG c.p[x.2] (ptN (nV n) d)=true/\∀j (h:j<c.p.length),j<x.2->dG c.p[j] (ptN (nV n) d)=false))}) (λi=>((((((((((St.nil 65 st).pv 1 (vi n)).var 3 92 (c.z)).var 5 51 (d.z)).var 6 92 ([vi 0,vi 0,vi 0,vs e0, .val (.slice none 0 0)])).pv 8 (.val (asS 285 (aLK n d)))).pv 9 (vi (i.1.2:Nat))).pv 22 (.seq (c.p.map Pt.z))).pv 23 (vi ((c.p.map Pt.z).length:Nat))).pv 24 (vi (i.1.1:Nat)))) (λi=>c.p.length-i.1.1) ⟨(0,c.p.length),by simp,by simp, .inl ⟨rfl,by simp⟩⟩ ?_ λi=>?_;rotate_left;obtain⟨⟨i,a⟩,hi,hs,ha⟩:=i;simp only at hi hs ha;dsimp only;by_cases K:c.p.length<=i
 have H:¬c.p.any (iS n d)=true:=by
  rw[zay];rintro⟨p,hp,q⟩;obtain⟨j,hj,rfl⟩:=zgo hp;rw[hs j hj (by omega)]at q;cases q
 have l:a<=c.p.length/\gU (λp=>dG p (ptN (nV n) d)) c.p=a:=by
  rcases ha with⟨D,E⟩|⟨D,E,L⟩
  ·subst D;exact⟨znr _,azD λj hj=>E j hj (by omega)⟩
  ·exact⟨by omega,aAY D E L⟩
 unfold aeH nE;rw[zn H,l.2];have l:=l.1;dsimp only;have B:=λ(id:Nat)(st2:aD)(hst:st2 id=some (.arr 154 (c.p.map Pt.z)))=>arY c.p [ptN (nV n) d] a id c.p.length st2 hst rfl l (by simp) (by simp;omega);rotate_left;have A:i<c.p.length:=by omega
 have k:=k c.p[i];have hz:=hz c.p[i];have e:=e c.p[i];have I:=aaG c.p[i];by_cases z:iS n d c.p[i]=true;rw[z]at hz;have hz:ahI (ptN (nV n) d) c.p[i]=0:=by simpa using hz
 rw[hz]at k;have C:c.p.any (iS n d)=true:=zay.2 ⟨_,zgm A,z⟩;unfold aeH nE;rw[zp C];rotate_left;have t:iS n d c.p[i]=false:=by simpa using z
 have y:∀j (h:j<c.p.length),j<i+1->iS n d c.p[j]=false:=λj hj u=>by
  rcases zls.1 u with q|q
  ·exact hs j hj q
  ·subst q;exact t
 rw[t]at hz;have hz:¬ahI (ptN (nV n) d) c.p[i]=0:=by simpa using hz
 have f:dG c.p[i] (ptN (nV n) d)=decide (ahI (ptN (nV n) d) c.p[i]<0):=by
  cases J:dG c.p[i] (ptN (nV n) d)with
  |true=>
   rw[J]at e;have:=of_decide_eq_false e;exact(zdt (by omega)).symm
  |false=>
   rw[J]at e;have:=of_decide_eq_true e;exact(zdj (by omega)).symm
 clear e;generalize ahI (ptN (nV n) d) c.p[i]=O at*;by_cases m:O<0;rw[zdt m]at f;by_cases F:a=c.p.length;have g:∀j (h:j<c.p.length),j<i->dG c.p[j] (ptN (nV n) d)=false:=by
  rcases ha with⟨_,q⟩|⟨q,_⟩
  ·exact q
  ·omega
 rotate_left;have g:∃h:a<c.p.length,dG c.p[a] (ptN (nV n) d)=true/\∀j (h:j<c.p.length),j<a->dG c.p[j] (ptN (nV n) d)=false:=by
  rcases ha with⟨q,_⟩|q
  ·exact absurd q F
  ·exact q
 rotate_left;rw[zdj m]at f;have g:(a=c.p.length/\∀j (h:j<c.p.length),j<i+1->dG c.p[j] (ptN (nV n) d)=false)\/∃h:a<c.p.length,dG c.p[a] (ptN (nV n) d)=true/\∀j (h:j<c.p.length),j<a->dG c.p[j] (ptN (nV n) d)=false:=by
  rcases ha with⟨D,E⟩|q
  ·refine .inl ⟨D,λj hj u=>?_⟩
   rcases zls.1 u with q|q
   ·exact E j hj q
   ·subst q;exact f
  ·exact .inr q
 all_goals (repeat' first|refine⟨⟨(i+1,a),by simp only;omega,y,g⟩,?_,?_⟩|refine⟨⟨(i+1,a),by simp only;omega,y, .inr g⟩,?_,?_⟩|refine⟨⟨(i+1,i),by simp only;omega,y, .inr ⟨A,f,g⟩⟩,?_,?_⟩|apply Cn.cf;focus((apply I);done)|exact Cn.any ⟨_,_,upd st id2 (some (.arr 154 ((cN c.p a [ptN (nV n) d]).map Pt.z))),rfl,zwr _,iR hid,id2,rfl,fA hid hid2,rfl⟩|apply wDO pk [0,1,3,4,5,6,7,8,2,9,10,11] [2,9] [] [8,9] [];rfl;rfl;kernel_rfl;rfl;rfl|apply cP;rfl;apply(G _ (by omega));rintro _ st' (⟨id,rfl,hid,rfl⟩)|refine Cn.rr ?_;exact⟨id,rfl,hid,rfl⟩;done|apply cP;rfl;apply B id _ (aA _ _ _);rintro _ st' (⟨id2,rfl,hid2,rfl⟩)|apply wZ;rfl|omega|constructor|apply wY;rfl|simp<;>omega|intro h;simp at h|exact rfl|apply aNh (xs:=aLK n d);rfl;rfl;exact k;rfl;rfl;rfl|apply wI;rfl|apply gE;omega|intro h|simp)
theorem ahH(c:Cl)(n:Int)(d:Dt)(hl:c.p.length<1000000000):qf 200 [.agg c.z,vi n, .agg d.z] (.agg (nE c n d).z):=yP (aJr c n d hl)
theorem akB(c e:Cl):qf 282 [.seq [c.z,e.z]] (vi (if bL c≠0 then bL c else bL e)):=by
 have hc:=oQ c;have g:=oQ e;generalize bL c=R at*;generalize bL e=Q at*;refine pF func282 rfl λst=>?_
 repeat' first|apply wZ;rfl|constructor
 refine aC (X:={x:Nat//x<=2/\(0<x->R=0)/\(x=2->Q=0)}) (λi=>((((St.nil 18 st).pv 6 (.seq [c.z,e.z])).pv 7 (vi (([c.z,e.z]).length:Nat))).pv 8 (vi (i.1:Nat)))) (λi=>2-i.1) ⟨0,by omega,by omega,by omega⟩ ?_ λi=>?_;rotate_left;have⟨i,l,a,d⟩:=i;dsimp only;rcases(show i=0\/i=1\/i=2 by omega)with rfl|rfl|rfl
 ·by_cases f:R=0
  ·repeat' first|refine⟨⟨1,by omega,λ_=>f,by omega⟩,?_,?_⟩|apply wZ;rfl|omega|constructor|apply cR pk;(iterate 6 rfl);rotate_left;rfl;intro hw;rfl;(intro hw;apply(rfl:([c.z,e.z]:List (List PV))[0]?=some c.z)<;>omega);intro _;rfl;rfl|apply hc|apply wY;rfl|simp<;>omega|intro h
  ·repeat' first|apply wZ;rfl|omega|constructor|apply cR pk;(iterate 6 rfl);rotate_left;rfl;intro hw;rfl;(intro hw;apply(rfl:([c.z,e.z]:List (List PV))[0]?=some c.z)<;>omega);intro _;rfl;rfl|apply hc|show(_:PV)=_;rw[zp f];done|apply wY;rfl|intro h
 ·have h0:=a (by omega)
  by_cases k:Q=0
  ·repeat' first|refine⟨⟨2,by omega,λ_=>h0,λ_=>k⟩,?_,?_⟩|apply wZ;rfl|omega|constructor|apply cR pk;(iterate 6 rfl);rotate_left;rfl;intro hw;rfl;(intro hw;apply(rfl:([c.z,e.z]:List (List PV))[1]?=some e.z)<;>omega);intro _;rfl;rfl|apply g|apply wY;rfl|simp<;>omega|intro h
  ·repeat' first|apply wZ;rfl|omega|constructor|apply cR pk;(iterate 6 rfl);rotate_left;rfl;intro hw;rfl;(intro hw;apply(rfl:([c.z,e.z]:List (List PV))[1]?=some e.z)<;>omega);intro _;rfl;rfl|apply g|show(_:PV)=_;rw[zn (by omega)];done|apply wY;rfl|intro h
 have h0:=a (by omega);have j:=d rfl
 all_goals (repeat' first|apply wZ;rfl|constructor|show(_:PV)=_;rw[zn (by omega),j];done)
def sR(r:Cl×Int):PV:= .tup [.agg r.1.z,vi r.2]
theorem apU(e:Int):Wk (.tup [.agg [vi 0,vi 0,vi 0, .val (.string e0), .val (.slice none 0 0)],vi e]) (sR (Cl.zero,e)):=Wk.tup (.cons wkz (.cons (zwr _) .nil))
theorem aD1(c:Cl):qf 284 [.agg c.z] (sR (if bL c≠0 then(Cl.zero,bL c)else(c,0))):=by
 have hc:=zI c;generalize bL c=R at*;by_cases a:R≠0;rw[zp a];rotate_left;rw[zn a]
 all_goals (refine pF func284 rfl λst=>?_;repeat'(first|exact Cn.any ⟨_,_,_,rfl,apU _,zsr _,rfl,rfl⟩|apply wZ;rfl|omega|constructor|apply hc|apply wY;rfl|intro h))
theorem alR(h:bL c=0): -1099511627776<=c.val.n/\c.val.n<=1099511627776:=by
 unfold bL at h;omega
theorem alN(c:Cl)(n:Int)(hn:inL n):qf 198 [.agg c.z,vi n] (sR (sL c n)):=by
 have d:=aaK [n] (by simp) (by simpa using hn);rw[show([n]:List Int).sum=n from by simp]at d;have a:=akB c (iW n);unfold sL;by_cases hc:bL c≠0;rw[zp hc]at a⊢;generalize bL c=R at*;rotate_left;rw[zn hc]at a⊢;have hc:=zdn hc;by_cases hd:bL (iW n)≠0;rw[zp hd];generalize bL (iW n)=R at*;rotate_left;rw[zn hd];have hd:=zdn hd;rw[hd]at a;have g:=alR hc;have e:=aaK [c.val.n,n] (by simp) (λx hx=>by
  rcases zmc.1 hx with rfl|hx
  ·unfold inL;omega
  ·rw[zms.1 hx];exact hn)
 rw[show([c.val.n,n]:List Int).sum=c.val.n+n from by simp]at e;have h4:=aD1 (iW (c.val.n+n));generalize iW (c.val.n+n)=D at*;by_cases f:bL D≠0;rw[zp f]at h4⊢;generalize bL D=R at*;rotate_left;rw[zn f]at h4⊢
 all_goals (refine pF func198 rfl λst=>?_;repeat'(first|exact Cn.any ⟨_,_,_,rfl,apU _,zsr _,rfl,rfl⟩|apply wZ;rfl|apply KR.mk;kernel_rfl|omega|constructor|(first|apply d|apply a|apply e|apply h4)|apply wY;rfl|intro h))
theorem aEb :qf 273 [] (.agg (iW 0).z):=by
 have h:=aaK [] (by simp) (by simp);refine pF func273 rfl λst=>?_
 repeat' first|apply wZ;rfl|constructor|(apply amM (qs:=[.seq []]) (p:= .agg (iW 0).z);rfl;rfl;rfl;exact WkL.cons Wk.nil .nil;intro _;exact h;(focus repeat' constructor);rfl);rfl
theorem wkN(k:Int):Wk (.agg [vi k,vi 0,vi 0, .val (.string e0), .val (.slice none 0 0)]) (.agg (Cl.mk k Vl.zero []).z):= .agg (.cons (zwr _) (.cons (zwr _) (.cons (zwr _) (.cons (zwr _) (.cons Wk.nil .nil)))))
theorem aD9 :qf 274 [] (.agg (Cl.mk 4 Vl.zero []).z):=by
 refine pF func274 rfl λst=>?_
 repeat' first|exact Cn.any ⟨_,_,_,rfl,wkN 4,zsr _,rfl,rfl⟩|apply wZ;rfl|constructor
theorem kX(w:Wr):qf 130 [.agg w.z] (.agg w.d.z):=by
 refine pF func130 rfl λst=>?_
 repeat' first|apply wZ;rfl|constructor
theorem wkV(v:Vl)(e:Int):Wk (.tup [.agg [vi 0,vi v.k,vi v.n,vs v.s, .val (.slice none 0 0)],vi e]) (sR (⟨0,v,[]⟩,e)):=Wk.tup (.cons (.agg (.cons (zwr _) (.cons (zwr _) (.cons (zwr _) (.cons (zwr _) (.cons Wk.nil .nil)))))) (.cons (zwr _) .nil))
theorem aM8(k e:Int):Wk (.tup [.agg [vi k,vi 0,vi 0, .val (.string e0), .val (.slice none 0 0)],vi e]) (sR (⟨k,Vl.zero,[]⟩,e)):=Wk.tup (.cons (wkN k) (.cons (zwr _) .nil))
theorem aAJ(w:Wr)(kind:Int)(v:Vl)(hv:inL v.n)(hs:v.s.size<1000000)(hk:w.knew.length<1000000000000):qf 190 [.agg w.z,vi kind, .agg v.z] (sR (jG w kind v)):=by
 have hd:=kX w;unfold jG;by_cases a:kind=0;rw[zp a];rotate_left;rw[zn a];by_cases k2:kind=2;rw[zp k2];have ha:=alN (iW 0) v.n hv;generalize sL (iW 0) v.n=R at*;rotate_left;rw[zn k2];by_cases e:kind=4;rw[zp e];have ht:=T.type_spec ⟨4,Vl.zero,[]⟩ v.s w.who Dt.zero 0 (by simp) hs;rw[show(⟨Dt.zero,0⟩:T.Nm)=T.Nm.zero from rfl]at ht;generalize T.typeP ⟨4,Vl.zero,[]⟩ v.s w.who T.Nm.zero=R at*;rotate_left;rw[zn e];by_cases v0:v.k=0;rw[zp v0];rotate_left;rw[zn v0];by_cases d:kind=3;rw[zp d];have hp:=ahH ⟨kind,Vl.zero,[]⟩ v.n w.d (by simp);generalize nE ⟨kind,Vl.zero,[]⟩ v.n w.d=R at*;rotate_left;rw[zn d];have hp:=aeD ⟨kind,Vl.zero,[]⟩ v w.d w.knew (by simp) hk;generalize fW ⟨kind,Vl.zero,[]⟩ v w.d w.knew=R at*
 all_goals (refine pF func190 rfl λst=>?_;repeat'(first|exact Cn.any ⟨_,_,_,rfl,aM8 kind 0,zsr _,rfl,rfl⟩|exact Cn.any ⟨_,_,_,rfl,wkV v 0,zsr _,rfl,rfl⟩|apply wZ;rfl|apply KR.mk;kernel_rfl|omega|constructor|apply hd|(apply amM (qs:=[.agg (Cl.mk kind Vl.zero []).z, .agg v.z, .agg w.d.z, .seq (w.knew.map I1)]) (p:= .agg R.z);rfl;rfl;rfl;exact WkL.cons (wkN kind) (.cons (zwr _) (.cons (zwr _) (.cons (zwr _) .nil)));intro _;exact hp;(focus repeat' constructor);rfl);rfl|(apply amM (qs:=[.agg (Cl.mk kind Vl.zero []).z,vi v.n, .agg w.d.z]) (p:= .agg R.z);rfl;rfl;rfl;exact WkL.cons (wkN kind) (.cons (zwr _) (.cons (zwr _) .nil));intro _;exact hp;(focus repeat' constructor);rfl);rfl|(first|apply aD9|apply ht)|(first|apply aEb|apply ha)|apply wY;rfl|intro h))
def tO :Option (Nat×List Pt)->PV
 |none=> .val (.slice none 0 0)
 |some y=> .vec y.1 11 0 y.2.length
def qA :Option (Nat×List Pt)->List Pt
 |none=>[]
 |some y=>y.2
structure AccP (L:Nat->Prop) (S:aD) (id3:Nat) (a:Option (Nat×List Pt)):Prop where
 box:S id3=some (.cells 90 [tO a])
 arr:∀y,a=some y->S y.1=some (.arr 154 (y.2.map Pt.z))/\¬L y.1
 out:¬L id3
theorem AccP.grow{S S1:aD}{id3:Nat}{a:Option (Nat×List Pt)}(h:AccP L S id3 a){d:Nat}(hi:S d=none)(hL:∀j,L j->S j≠none)(k:S1=upd (upd S d (some (.arr 154 (f.map Pt.z)))) id3 (some (.cells 90 [tO (some (d,f))]))\/∃y,a=some y/\S1=upd (upd (upd S y.1 none) d (some (.arr 154 (f.map Pt.z)))) id3 (some (.cells 90 [tO (some (d,f))]))):
  AccP L S1 id3 (some (d,f))/\∀j,L j->S1 j=S j:=by
 have i:d≠id3:=λe=>by rw[e,h.box]at hi;cases hi
 have g:¬L d:=λq=>hL d q hi
 rcases k with rfl|⟨y,ha,rfl⟩
 ·refine⟨⟨aA _ _ _,λy e=>?_,h.out⟩,λj hj=>?_⟩
  ·injection e with e;subst e
   exact⟨by rw[aB i,aA],g⟩
  ·rw[aB (λe=>h.out (by grind)),aB λe=>g (by grind)]
 ·refine⟨⟨aA _ _ _,λy e=>?_,h.out⟩,λj hj=>?_⟩
  ·injection e with e;subst e
   exact⟨by rw[aB i,aA],g⟩
  ·rw[aB (λe=>h.out (by rw[<-e];exact hj)),aB (λe=>g (by rw[<-e];exact hj)),aB λe=>(h.arr y ha).2 (by rw[<-e];exact hj)]
theorem AccP.move{d:Nat->Prop}{S S1:aD}{id3:Nat}{a:Option (Nat×List Pt)}(h:AccP L S id3 a)(f:S1 id3=S id3)(ha:∀y,a=some y->S1 y.1=S y.1/\¬d y.1)(hL:¬d id3):AccP d S1 id3 a:=
 ⟨f.trans h.box,λy e=>⟨(ha y e).1.trans (h.arr y e).1,(ha y e).2⟩,hL⟩
theorem AccP.round{S S1:aD}{id3 idl:Nat}{a:Option (Nat×List Pt)}(h:AccP L S id3 a)(hl:L idl)(hL:∀j,L j->S j≠none)(d f:AObj){g:Nat}{k:List Pt}(hi:upd S idl (some d) g=none)(t:S1=upd (upd (upd S idl (some d)) g (some (.arr 154 (k.map Pt.z)))) id3 (some (.cells 90 [tO (some (g,k))]))\/∃y,a=some y/\S1=upd (upd (upd (upd S idl (some d)) y.1 none) g (some (.arr 154 (k.map Pt.z)))) id3 (some (.cells 90 [tO (some (g,k))]))):
  AccP L (upd S1 idl (some f)) id3 (some (g,k))/\S1 idl=some d/\∀j,L j->j≠idl->upd S1 idl (some f) j=S j:=by
 have r:id3≠idl:=λe=>h.out (by grind)
 have hb:AccP L (upd S idl (some d)) id3 a:=h.move (aB r) (λy e=>⟨aB λq=>(h.arr y e).2 (by grind),(h.arr y e).2⟩) h.out
 have m:∀j,L j->upd S idl (some d) j≠none:=λj hj=>by
  by_cases e:j=idl
  ·rw[e,aA];simp
  ·rw[aB e];exact hL j hj
 have⟨l,p⟩:=hb.grow hi m t
 refine⟨l.move (aB r) (λy e=>⟨aB λq=>(l.arr y e).2 (by rw[q];exact hl),(l.arr y e).2⟩) l.out,by rw[p idl hl,aA],λj hj i=>?_⟩
 rw[aB i,p j hj,aB i]
theorem aGm{idl:Nat}(l:List Pt)(d:FuncId)(caps:List PV)(f:Pt->Bool)(hl:l.length<1000000000)(hf:∀p,qf d ([.agg p.z]++caps) (vb (f p)))(J:Nat->aD->Prop)(h0:J 0 st)(q:∀i S (h:i<l.length),J i S->f l[i]=false->J (i+1) S)(u:∀i S (h:i<l.length),J i S->f l[i]=true->PY qp idl [.agg l[i].z] S λr k=>r= .val (.bool true)/\J (i+1) k):
  qc 343 [.yld idl, .rp [.seq (l.map Pt.z)], .rp [.fn d caps]] st λ_ S=>J l.length S:=by
 refine pC func343 rfl ?_
 focus(repeat' first|apply wZ;rfl|constructor)
 refine aC (X:={x:Nat×aD//x.1<=l.length/\J x.1 x.2}) (λi=>((((((St.nil 22 (i.1.2)).pv 0 (.yld idl)).pv 2 (.rp [.fn d caps])).pv 6 (.seq (l.map Pt.z))).pv 7 (vi ((l.map Pt.z).length:Nat))).pv 8 (vi (i.1.1:Nat)))) (λi=>l.length-i.1.1) ⟨(0,st),by simp,h0⟩ ?_ λi=>?_
 ·repeat' first|exact Cn.t0|constructor
 obtain⟨⟨i,S⟩,hi,g⟩:=i
 simp only at hi g
 dsimp only
 by_cases m:l.length<=i
 ·have e:i=l.length:=by omega
  rw[e]at g
  repeat' first|refine Cn.rr ?_;exact g;done|apply wZ;rfl|constructor|simp<;>omega|intro h;simp at h
 have j:i<l.length:=by omega
 have a:=hf l[i]
 cases hb:f l[i]with
 |false=>
  have hn:=q i S j g hb;rw[hb]at a
  (repeat' first|apply Cn.cf;focus((apply a);done)|refine⟨⟨(i+1,S),by simp only;omega,hn⟩,?_,?_⟩|apply wZ;rfl|omega|constructor|apply aNC (vb false);rfl;rfl;rfl|apply wY;rfl|apply wI;rfl|apply gE;omega|simp<;>omega|intro h;simp at h)
 |true=>
  have hy:=u i S j g hb;rw[hb]at a
  repeat' first|apply Cn.cf;focus((apply a);done)|refine⟨⟨(i+1,k),by simp only;omega,hJ'⟩,?_,?_⟩|apply wZ;rfl|omega|constructor|apply aLJ;rfl;rfl;rfl;exact hy;rfl;rfl;rfl;rintro _ k ⟨rfl,hJ'⟩|apply wY;rfl|apply wI;rfl|apply gE;omega|simp<;>omega|intro h;simp at h
theorem aDA(l:List Pt)(a:FuncId)(caps:List PV):qf 288 [.seq (l.map Pt.z), .fn a caps] (.fn 343 [.rp [.seq (l.map Pt.z)], .rp [.fn a caps]]):=by
 refine pF func288 rfl λst=>?_
 repeat' first|apply wZ;rfl|constructor|apply bO 2;rfl;rfl|apply bO 3;rfl;rfl
theorem ayE(n:Int)(d:Dt)(kn:List Int)(hk:kn.length<1000000000000)(p:Pt):qf 289 ([.agg p.z]++[.rp [vi n], .rp d.z, .rp [.seq (kn.map I1)]]) (vb (gS n d kn p)):=by
 have h:=anG kn p.d hk;have e:gS n d kn p=(!decide (p.val.n=n)||(!(decide (p.d.dev=d.dev)&&decide (p.d.seq=d.seq))&& !sT kn p.d)):=by unfold gS;rw[aMo];simp
 rw[e];generalize sT kn p.d=H at*;refine pF func289 rfl λst=>?_
 repeat' first|apply wZ;rfl|constructor|apply h|apply wY;rfl
structure TkJ (st0:aD) (lp:AObj) (idl id2:Nat) (m:List Pt) (S:aD):Prop where
 loop:S idl=some lp
 acc:∃b,AccP (λj=>st0 j≠none\/j=idl) S id2 b/\qA b=m
 old:∀j,st0 j≠none->S j=st0 j
theorem TkJ.live{st0 S:aD}{lp:AObj}{idl id2:Nat}{m:List Pt}(h:TkJ st0 lp idl id2 m S):∀j,st0 j≠none\/j=idl->S j≠none:=λj hj=>by
 rcases hj with hj|rfl
 ·rw[h.old j hj];exact hj
 ·rw[h.loop];simp
theorem aBB{l:List Pt}{f:Pt->Bool}(h:i<l.length):(l.take (i+1)).filter f=(l.take i).filter f++if f l[i]=true then[l[i]]else[]:=by
 rw[zts h,List.filter_append]
 grind
theorem aJl(c:Cl)(n:Int)(d:Dt)(kn:List Int)(hl:c.p.length<100000)(hk:kn.length<1000000000000)(st:aD):qc 202 [.agg c.z,vi n, .agg d.z, .seq (kn.map I1)] st λr S=>∃b,r= .agg [vi c.k,vi c.val.k,vi c.val.n,vs c.val.s,tO b]/\qA b=c.p.filter (gS n d kn)/\(∀y,b=some y->S y.1=some (.arr 154 (y.2.map Pt.z))/\st y.1=none)/\∀j,st j≠none->S j=st j:=by
 have N:=aDA c.p 289 [.rp [vi n], .rp d.z, .rp [.seq (kn.map I1)]];have M:=ayE n d kn hk;refine pC func202 rfl ?_
 focus(repeat' first|apply wZ;rfl|show Cn _;constructor|apply N|apply bO 5;rfl;rfl|apply bO 6;rfl;rfl|apply bO 7;rfl;rfl|apply wY;rfl)
 refine aEN 9 rfl rfl λid2 B=>?_;have B:st id2=none:=B;refine aAy [(9, .ref id2 0)] rfl rfl ⟨rfl,trivial⟩ (λidl S=>∃b,qA b=c.p.filter (gS n d kn)/\AccP (λj=>st j≠none) (upd S idl none) id2 b/\∀j,st j≠none->upd S idl none j=st j) ?_ ?_
 ·intro idl h
  have h:upd st id2 (some (.cells 90 [.val (.slice none 0 0)])) idl=none:=h;have A:idl≠id2:=λe=>by rw[e,aA]at h;cases h
  have E:st idl=none:=by rwa[aB A]at h
  generalize D:AObj.loop _ _ _ _ _ _=lp;have:=aGm (idl:=idl) c.p 289 [.rp [vi n], .rp d.z, .rp [.seq (kn.map I1)]] (gS n d kn) (by omega) M (st:=upd (upd st id2 (some (.cells 90 [.val (.slice none 0 0)]))) idl (some lp)) (λi S=>TkJ st lp idl id2 ((c.p.take i).filter (gS n d kn)) S) ?_ (λi S hi p hf=>?_) λi S hi p hf=>?_
  ·refine⟨this.1,λw g vs I B=>(this.2 w g vs I B).mono ?_⟩
   rintro e w' ⟨v,q,S,g',h3,p,h4⟩;rw[ztl (znr _)]at p;obtain⟨b,hb,u⟩:=p.acc;refine⟨v,q,S,g',h3,⟨p.loop,b,u,hb.move (aB λe=>hb.out (.inr e)) (λy e=>⟨aB λq=>(hb.arr y e).2 (.inr q),λq=>(hb.arr y e).2 (.inl q)⟩) λq=>hb.out (.inl q),λj hj=>?_⟩,h4⟩;rw[aB λe=>hj (by rw[e];exact E)];exact p.old j hj
  ·refine⟨aA _ _ _,⟨none,⟨by rw[aB (Ne.symm A),aA];rfl,λ_ e=>(by cases e),?_⟩,by simp[qA]⟩,λj hj=>?_⟩
   ·rintro(q|q)
    ·exact q B
    ·exact A q.symm
   ·rw[aB (λe=>hj (by rw[e];exact E)),aB λe=>hj (by rw[e];exact B)]
  ·rw[aBB hi,zn (by rw[hf];simp),List.append_nil];exact p
  ·rw[aBB hi,zp hf]
   have m:=p.loop;obtain⟨b,hb,u⟩:=p.acc;have K:(qA b).length<=100000:=by
    rw[u];have:=List.length_filter_le (gS n d kn) (c.p.take i);rw[zlt]at this;omega
   have hL:=p.live;have ho:=p.old;rw[<-u];generalize c.p[i]=x at*;have C:∀(a:AObj)(F:Nat)(S1:aD),upd S idl (some a) F=none->(S1=upd (upd (upd S idl (some a)) F (some (.arr 154 ((qA b++[x]).map Pt.z)))) id2 (some (.cells 90 [tO (some (F,qA b++[x]))]))\/∃y,b=some y/\S1=upd (upd (upd (upd S idl (some a)) y.1 none) F (some (.arr 154 ((qA b++[x]).map Pt.z)))) id2 (some (.cells 90 [tO (some (F,qA b++[x]))])))->S1 idl=some a/\TkJ st lp idl id2 (qA b++[x]) (upd S1 idl (some lp)):=λa F S1 L J=>by
    obtain⟨G,H,W⟩:=hb.round (.inr rfl) hL a lp L J
    exact⟨H,aA _ _ _,⟨_,G,rfl⟩,λj hj=>by rw[W j (.inl hj) λe=>hj (by rw[e];exact E)];exact ho j hj⟩
   have U:id2≠idl:=Ne.symm A;have l:∀o,upd S idl o id2=some (.cells 90 [tO b]):=λo=>(aB U).trans hb.box;rw[<-D]at m;refine aNW (R:=λV=>TkJ st lp idl id2 (qA b++[x]) V) m (show 15<23 by decide) ?_;show PWp _ _ _ (((St.nilR idl 23 S).pv 9 (.ref id2 0)).pv 15 (.agg x.z))
   repeat' first|apply wZ;rfl|show Cn _;constructor
   refine⟨rfl,m,?_⟩;cases b with
   |none=>
    repeat' first|apply wZ;rfl|show Cn _;constructor|apply ap0 pk (f:=Pt.z) [x] 96;(iterate 10 rfl);exactλ_=>rfl;exactλ_=>rfl;exact fR;(focus(simp;done));(focus(simp;done));rfl;intro t k|apply ldR pk;rfl;rfl;rotate_left;rfl;exact l _;rfl;rfl|apply stR pk;rfl;rfl;exact(aB λe=>Option.some_ne_none _ ((l _).symm.trans ((congrArg (upd S idl _) e).trans k))).trans (l _);rfl;rfl
    obtain⟨G,H⟩:=C _ t _ k (.inl rfl);subst D;exact⟨rfl,_,zsr _,G,H⟩
   |some z=>
    have Y:z.1≠idl:=λe=>(hb.arr z rfl).2 (.inr e);have P:∀o,upd S idl o z.1=some (.arr 154 (z.2.map Pt.z)):=λo=>(aB Y).trans (hb.arr z rfl).1;have Q:id2≠z.1:=λe=>by have I:=hb.box;have B:=(hb.arr z rfl).1;rw[e,B]at I;cases I
    have X:z.2.length<=100000:=K
    repeat' first|apply wZ;rfl|show Cn _;constructor|apply ldR pk;rfl;rfl;rotate_left;rfl;exact l _;rfl;rfl|apply apV pk (f:=Pt.z) (xs:=z.2) [x] 96;(iterate 9 rfl);exact P _;rfl;exactλ_=>rfl;exactλ_=>rfl;exact fR;simp only[zlc,List.length_nil];omega;simp only[zlc,List.length_nil];omega;rfl;intro t k|apply stR pk;rfl;rfl;exact(aB λe=>Option.some_ne_none _ ((l _).symm.trans ((congrArg (upd S idl _) e).trans k))).trans ((aB Q).trans (l _));rfl;rfl
    have hg:=C _ t _ k (.inr ⟨z,rfl,rfl⟩);rw[show tO (some (t,qA (some z)++[x]))= .vec t 11 0 (z.2.length+[x].length)from by simp[tO,qA]]at hg;obtain⟨G,H⟩:=hg;subst D;exact⟨rfl,_,zsr _,G,H⟩
 rintro idl S h ⟨b,hp,hb,ho⟩;have l:=hb.box;rcases b with _|z
 rotate_left;have hz:=hb.arr z rfl;have O:st z.1=none:=Decidable.byContradiction λq=>hz.2 q
 all_goals (repeat' first|refine Cn.rr ?_;exact⟨some z,rfl,hp,λ_ e=>(by cases e;exact⟨hz.1,O⟩),ho⟩;done|refine Cn.rr ?_;exact⟨none,rfl,hp,λ_ e=>(by cases e),ho⟩;done|apply wZ;rfl|show Cn _;constructor|apply ldR pk;rfl;rfl;rotate_left;rfl;(assumption);rfl;rfl)
theorem aAU(c:Cl)(n:Int)(d:Dt)(kn:List Int)(hl:c.p.length<100000)(hk:kn.length<1000000000000):qf 202 [.agg c.z,vi n, .agg d.z, .seq (kn.map I1)] (.agg (oP c n d kn).z):=λst=>
 eS (sz:=11) (aJl c n d kn hl hk st) λp st' h=>by
  obtain⟨b,rfl,f,g,h4⟩:=h
  have a:StSub st st':=λj=>by grind
  cases b with
  |none=>
   have e:oP c n d kn=⟨c.k,c.val,[]⟩:=by unfold oP;rw[<-f];rfl
   rw[e];exact .inr ⟨_,st,Wk.agg (.cons (zwr _) (.cons (zwr _) (.cons (zwr _) (.cons (zwr _) (.cons Wk.nil .nil))))),a,rfl,rfl⟩
  |some z=>
   have⟨h5,i⟩:=g z rfl;have e:oP c n d kn=⟨c.k,c.val,z.2⟩:=by unfold oP;rw[<-f];rfl
   rw[e];refine .inl ⟨z.1,154,z.2.map Pt.z,_,st,h5,oU, .agg (.cons .refl (.cons .refl (.cons .refl (.cons .refl (.cons (dI (by simp)) .nil))))),λj=>?_,rfl,rfl⟩;by_cases q:j=z.1
   ·subst q;exact .inl i
   ·rw[aB q];exact a j
end
section
attribute [local irreducible] Ev PWp
structure TnOK (w:Wr) (c:Cl) (o:Ot):Prop where
 n:inL o.val.n
 s:o.val.s.size<1000000
 kn:w.knew.length<1000000000000
 p:c.p.length<100000
def aeF(w:Wr)(c:Cl)(o:Ot):List PV:=[.rp c.z, .rp o.z, .rp w.z]
def anD(c:Cl)(o:Ot):List PV:=[.rp c.z, .rp o.z]
section
variable{w:Wr}{c:Cl}{o:Ot}(hT:TnOK w c o)
theorem aN7(v:Vl):Wk (.agg [vi 0,vi v.k,vi v.n,vs v.s, .val (.slice none 0 0)]) (.agg (Cl.mk 0 v []).z):= .agg (.cons (zwr _) (.cons (zwr _) (.cons (zwr _) (.cons (zwr _) (.cons Wk.nil .nil)))))
include hT
theorem aJv :qf 195 (aeF w c o) (.agg (if c.k=0 then⟨0,o.val,[]⟩else fW c o.val w.d w.knew).z):=by
 have hd:=kX w;have hp:=aeD c o.val w.d w.knew (by have:=hT.p;omega) hT.kn;unfold aeF;by_cases k:c.k=0;rw[zp k];rotate_left;rw[zn k];generalize fW c o.val w.d w.knew=R at*
 all_goals (refine pF func195 rfl λst=>?_;repeat'(first|exact Cn.any ⟨_,_,_,rfl,aN7 o.val,zsr _,rfl,rfl⟩|apply wZ;rfl|apply KR.mk;kernel_rfl|omega|constructor|(first|apply hd|apply hp)|apply wY;rfl|intro h))
theorem aKM :qf 197 (anD c o) (sR (sL c o.val.n)):=by
 have h:=alN c o.val.n hT.n;unfold anD;generalize sL c o.val.n=R at*;refine pF func197 rfl λst=>?_
 repeat' first|apply wZ;rfl|constructor|apply h|apply wY;rfl
theorem aJ6 :qf 199 (aeF w c o) (.agg (nE c o.val.n w.d).z):=by
 have hd:=kX w;have hp:=ahH c o.val.n w.d (by have:=hT.p;omega);unfold aeF;generalize nE c o.val.n w.d=R at*;refine pF func199 rfl λst=>?_
 repeat' first|apply wZ;rfl|apply KR.mk;kernel_rfl|constructor|(first|apply hd|apply hp)|apply wY;rfl
theorem aJY :qf 201 (aeF w c o) (.agg (oP c o.val.n w.d w.knew).z):=by
 have hd:=kX w;have hp:=aAU c o.val.n w.d w.knew hT.p hT.kn;unfold aeF;generalize oP c o.val.n w.d w.knew=R at*;refine pF func201 rfl λst=>?_
 repeat' first|apply wZ;rfl|apply KR.mk;kernel_rfl|constructor|(first|apply hd|apply hp)|apply wY;rfl
theorem aKy :qf 203 (aeF w c o) (sR (T.typeP c o.val.s w.who ⟨o.after,o.a⟩)):=by
 have h:=T.type_spec c o.val.s w.who o.after o.a (by have:=hT.p;omega) hT.s;unfold aeF;generalize T.typeP c o.val.s w.who ⟨o.after,o.a⟩=R at*;refine pF func203 rfl λst=>?_
 repeat' first|apply wZ;rfl|constructor|apply h|apply wY;rfl
theorem aJT :qf 205 (anD c o) (.agg (T.eraseP c ⟨o.after,o.a⟩).z):=by
 have h:=T.erase_spec c o.after o.a (by have:=hT.p;omega);unfold anD;generalize T.eraseP c ⟨o.after,o.a⟩=R at*;refine pF func205 rfl λst=>?_
 repeat' first|apply wZ;rfl|constructor|apply h|apply wY;rfl
end
theorem aDE(f:FuncId)(caps:List PV):qf 193 [.fn f caps] (.fn 194 [.rp [.fn f caps]]):=by
 refine pF func193 rfl λst=>?_
 repeat' first|apply wZ;rfl|constructor|apply bO 1;rfl;rfl
theorem rC{f:FuncId}(h:qf f caps (.agg d.z)):qf 194 [.rp [.fn f caps]] (sR (d,0)):=by
 have a:qf f ([]++caps) (.agg d.z):=h;refine pF func194 rfl λst=>?_
 repeat' first|apply Cn.cf;focus((apply a);done)|apply wZ;rfl|constructor|apply wY;rfl
def aBQ(f:FuncId)(caps:List PV):PV:= .fn 194 [.rp [.fn f caps]]
def aMY(w:Wr)(c:Cl)(o:Ot):List (Value×PV):=[(.int .i64 2,aBQ 195 (aeF w c o)),(.int .i64 3, .fn 197 (anD c o)),(.int .i64 4,aBQ 199 (aeF w c o)),(.int .i64 5,aBQ 201 (aeF w c o)),(.int .i64 6, .fn 203 (aeF w c o)),(.int .i64 7,aBQ 205 (anD c o))]
theorem aDZ(hT:TnOK w c o)(a:2<=o.k)(d:o.k<=7):∃f caps,jI tt 252 (aMY w c o) (.int .i64 o.k) false=some (.fn f caps)/\qf f caps (sR (dW w c o)):=by
 have h:o.k=2\/o.k=3\/o.k=4\/o.k=5\/o.k=6\/o.k=7:=by omega
 unfold dW;rcases h with h|h|h|h|h|h
 ·rw[h]
  refine⟨_,_,rfl,?_⟩;have:=rC (aJv hT)
  grind
 ·rw[h];exact⟨_,_,rfl,aKM hT⟩
 ·rw[h];exact⟨_,_,rfl,rC (aJ6 hT)⟩
 ·rw[h];exact⟨_,_,rfl,rC (aJY hT)⟩
 ·rw[h];exact⟨_,_,rfl,aKy hT⟩
 ·rw[h];exact⟨_,_,rfl,rC (aJT hT)⟩
theorem azO{S:aD}{id idm:Nat}{a b:AObj}(f:id≠idm)(hm:st idm=none)(e:b=a)(g:∀q,q≠idm->S q=st q):StSub (upd st id (some a)) (upd S id (some b)):=λq=>by
 subst e
 by_cases d:q=id
 ·subst d;right;rw[aA,aA]
 ·rw[aB d,aB d]
  grind
theorem aJu{cs:List Cl}{j id:Nat}(hj:j<cs.length)(hT:TnOK w cs[j] o)(t:2<=o.k)(u:o.k<=7)(p:st id=some (.arr 92 (cs.map Cl.z))):qc 132 [.agg w.z, .el id 5 j 0, .agg o.z] st λr S=>r=(vi ((dW w cs[j] o).2))/\S=upd st id (some (.arr 92 ((cs.set j (dW w cs[j] o).1).map Cl.z))):=by
 have⟨f,caps,g,x⟩:=aDZ hT t u;generalize dW w cs[j] o=R at*;have i:cs[j]?=some cs[j]:=zgg hj;have y:=aDE;have l:qf f ([]++caps) (sR R):=x;refine pC func132 rfl ?_
 repeat' first|apply vC aT;exact .inl rfl;(iterate 7 rfl);exact aA _ _ _;rfl;(iterate 2 (apply jL aT;(iterate 4 rfl)));refine rU ?_;apply lK 9;rfl;exact aA _ _ _|refine Cn.any ⟨_,_,upd st id (some (.arr 92 ((cs.set j R.1).map Cl.z))),rfl,zwr _,?_,rfl,rfl⟩;exact azO m d (by simp) λq h=>by repeat (first|rfl|refine(aB h).trans ?_)|apply Cn.cf;focus(((first|apply y|apply l));done)|apply wZ;rfl|constructor|apply ncA;rfl;rfl;rfl;rotate_left;rfl;rfl|apply ldL pk Cl.elem (a:=cs[j]);rfl;rfl;rotate_left;rfl;(assumption);intro _;exact i;rfl|apply stA pk Cl.elem;rfl;rfl;rfl;(focus((repeat (first|assumption|refine(aB ‹_›).trans ?_));done));omega;rfl|apply bO 3;rfl;rfl|apply bO 5;rfl;rfl|apply bO 8;rfl;rfl|((refine rQ rfl λidm k=>?_);have d:st idm=none:=k;have m:id≠idm:=(λe=>by rw[<-e,p]at d;cases d))|apply vC aT;exact .inl rfl;(iterate 7 rfl);exact aA _ _ _;rfl|apply sH pk;(iterate 4 rfl);(focus repeat' constructor);rfl;exact g;rfl|apply wY;rfl
end
section
def LnW(k:Nat)(l:Ln):Prop:=l.b.length<=60+k/\l.c.length<=20/\∀c∈l.c,c.p.length<=40+40*k
def OpW(k:Nat)(b:Bs):Prop:=b.length<=20/\∀d∈b,d.l.length<=100+k/\∀l∈d.l,LnW k l
theorem LnW.S(h:LnW k l)(hk:k<=20):LnS l:=⟨by have:=h.1;omega,by have:=h.2.1;omega,λc hc=>by have:=h.2.2 c hc;omega⟩
theorem OpW.S(h:OpW k b)(hk:k<=20):BsS 200 b:=⟨h.1,λd hd=>⟨by have:=(h.2 d hd).1;omega,λl hl=>((h.2 d hd).2 l hl).S hk⟩⟩
theorem LnW.up(h:LnW k l)(a:k<=m):LnW m l:=⟨by have:=h.1;omega,h.2.1,λc hc=>by have:=h.2.2 c hc;omega⟩
theorem OpW.nil(k:Nat):OpW k []:=⟨by simp,λd hd=>by grind⟩
theorem aNr(h:aaD b=true):OpW 0 b:=by
 have h0:=h;unfold aaD at h;simp at h;have⟨e,f,a⟩:=h;refine⟨‹_›,λd hd=>⟨?_,λl hl=>?_⟩⟩
 ·have:=((aLc h0).2 d hd).1;omega
 ·have:=a d hd l hl
  unfold gW oW at this;simp at this;exact⟨by omega,by omega,λc hc=>by grind⟩
theorem fD(h:OpW k b)(t:Int):(aF b t).length<=100+k/\∀l∈aF b t,LnW k l:=by
 unfold aF;split
 ·rename_i ho
  unfold okT at ho;simp at ho;rw[zep b _ (by omega)];exact h.2 _ (zgm _)
 simp
theorem rJ{L:List Ln}{k:Int}(h:bJ L k=some l):l∈L:=by
 unfold bJ at h
 grind
theorem aG2{L:List Ln}(h:x∈sN L a):x=a\/x∈L:=by
 unfold sN at h;split at h
 ·grind
 ·rcases arI.1 (show x∈L.take _++[a]++L.drop _ from h)with q|q
  ·exact .inl q
  grind
theorem aK5(h:OpW k b)(t:Int)(ha:LnW (k+1) a):OpW (k+1) (sM b t a):=by
 unfold sM;split
 ·refine⟨by rw[List.length_set];exact h.1,λd hd=>?_⟩
  rcases List.mem_or_eq_of_mem_set hd with q|rfl
  ·exact⟨by have:=(h.2 d q).1;omega,λl hl=>((h.2 d q).2 l hl).up (by simp)⟩
  ·have⟨f,e⟩:=fD h t
   refine⟨?_,λl hl=>?_⟩
   ·have:=arQ (aF b t) a
    grind
   ·rcases aG2 hl with rfl|hl
    ·exact ha
    ·exact(e l hl).up (by omega)
 ·exact⟨h.1,λd hd=>⟨by have:=(h.2 d hd).1;omega,λl hl=>((h.2 d hd).2 l hl).up (by omega)⟩⟩
theorem aMN{G:R2->Bool}(h:LnW m l):LnW (m+1) (lU t G who l):=by
 have⟨e,a,d⟩:=h;have hw:=alX l who;unfold lU;split
 ·refine⟨?_,?_,λc hc=>?_⟩
  ·grind
  ·show(fM _ _ _).length<=_;rw[dR];exact a
  ·obtain⟨j,hj,rfl⟩:=zgo hc
   rw[dR]at hj;rw[oO hj];split
   ·simp[Cl.zero]
   grind
 ·exact⟨by omega,by omega,λc hc=>by have:=d c hc;omega⟩
theorem aI4{rb:Bool}{z:R2}{M:List R2}(h:OpW m b):OpW (m+1) (oY rb s b z who M).1:=by
 unfold oY;split
 ·split
  ·split
   ·refine⟨by rw[aoG];exact h.1,λd hd=>?_⟩
    obtain⟨k,hk,rfl⟩:=zmq.1 hd;have hk:=zmr.1 hk;have⟨e,a⟩:=h.2 _ (zgm hk);refine⟨?_,λx hx=>?_⟩
    ·unfold oE
     grind
    ·obtain⟨l,hl,_,rfl⟩:=atF.1 hx
     rw[zep b k hk]at hl;exact aMN (a l hl)
   ·exact OpW.nil _
  ·exact OpW.nil _
 ·exact OpW.nil _
theorem rO{l:List Pt}{x:Pt}:(cN l k [x]).length=l.length+1:=by
 unfold cN
 grind
def oC(o:Ot):Prop:=o.r.length<=20/\o.val.s.size<=40/\∀v∈o.r,v.s.size<=40
theorem auY(c:Cl)(n:Int):(sL c n).1.p.length=0:=by
 unfold sL;split
 ·rfl
 ·split
  ·rfl
  ·split<;>rfl
theorem aFY(w:Wr)(c:Cl)(o:Ot)(hc:c.p.length<=m)(ho:oC o):(dW w c o).1.p.length<=m+40:=by
 unfold dW;have d:=auY c o.val.n;have e:=List.length_filter_le (mP w.d w.knew) c.p;have a:=List.length_filter_le (gS o.val.n w.d w.knew) c.p;have h4:=T.type_len c o.val.s w.who ⟨o.after,o.a⟩;have h5:=T.eraseP_len ⟨o.after,o.a⟩ c;have f:=ho.2.1;have g:(fW c o.val w.d w.knew).p.length<=c.p.length+1:=by unfold fW;simp only;rw[rO];omega
 have h8:(nE c o.val.n w.d).p.length<=c.p.length+1:=by
  unfold nE;split
  ·omega
  ·simp only;rw[rO];omega
 have h9:(oP c o.val.n w.d w.knew).p.length<=c.p.length:=a
 repeat' split
 all_goals ((try dsimp only);first|omega|simp;done)
theorem aCT(w:Wr)(k:Int)(v:Vl)(hv:v.s.size<=40):(jG w k v).1.p.length<=40:=by
 unfold jG;have a:=auY (iW 0) v.n;have h4:=T.type_len ⟨4,Vl.zero,[]⟩ v.s w.who T.Nm.zero;have d:(fW ⟨k,Vl.zero,[]⟩ v w.d w.knew).p.length<=1:=by unfold fW;simp only;rw[rO];simp
 have h8:(nE ⟨k,Vl.zero,[]⟩ v.n w.d).p.length<=1:=by
  unfold nE;split
  ·simp
  ·simp only;rw[rO];simp
 simp only[List.length_nil]at h4
 repeat' split
 all_goals ((try dsimp only);first|omega|simp;done)
theorem aLR(ho:oC o)(k:Nat):LnW (k+1) (dY w t o.r):=by
 refine⟨by simp only[dY,List.length_singleton];omega,by unfold dY;simp;exact ho.1,λc hc=>?_⟩;obtain⟨i,hi,rfl⟩:=zmq.1 hc;have hi:=zmr.1 hi;have:=aCT w t.o[i]!.k o.r[i]! (by rw[zep _ i hi];exact ho.2.2 _ (zgm _));unfold iJ;omega
theorem aN1(ho:oC o)(h:LnW k l):LnW (k+1) (sO w o l):=by
 have⟨e,f,d⟩:=h;have hw:=alX ⟨l.key,l.c.set o.n.toNat (dW w l.c[o.n.toNat]! o).1,l.b⟩ w.d;have hc:(sO w o l).c=l.c.set o.n.toNat (dW w l.c[o.n.toNat]! o).1:=by unfold sO cF;split<;>rfl
 refine⟨?_,?_,λc a=>?_⟩
 ·show(cF _ _).b.length<=_
  simp only at hw;omega
 ·grind
 ·rw[hc]at a
  rcases List.mem_or_eq_of_mem_set a with q|rfl
  ·have:=d c q;omega
  ·by_cases hj:o.n.toNat<l.c.length
   ·rw[zep l.c _ hj]
    have:=aFY w l.c[o.n.toNat] o (d _ (zgm hj)) ho;omega
   ·rw[List.set_eq_of_length_le (by omega)]at a
    have:=d _ a;omega
theorem aH2(h:OpW k b)(ho:oC o):OpW (k+1) (bV w s b o).1:=by
 unfold bV;split
 ·exact OpW.nil _
 ·split
  ·unfold aBd
   split
   ·exact OpW.nil _
   ·split
    ·exact OpW.nil _
    ·split
     ·exact OpW.nil _
     ·exact aK5 h _ (aLR ho k)
  ·split
   ·exact aI4 h
   ·unfold ahD
    cases hg:bJ (aF b o.t) o.key with
    |none=>exact OpW.nil _
    |some l=>
     simp only;split
     ·exact OpW.nil _
     ·exact aK5 h _ (aN1 ho ((fD h _).2 l (rJ hg)))
theorem aAj{L:List Ln}(h:vY tx t L=true)(a:Ln)(hl:(sN L a).length<=2000)(ha:jX tx t a=true):vY tx t (sN L a)=true:=by
 have⟨e,f,d⟩:=gI.1 h;refine gI.2 ⟨hl,λx hx=>?_,d.put a⟩;rcases(apK d a x).1 hx with rfl|w
 ·exact ha
 grind
theorem aLM(b:Bs)(k:Int)(a:Ln):sM b k a=rG b k (sN (aF b k) a):=rfl
theorem anF(h:bA T.rightP s b=true)(hk:k<s.length)(hl:(sN (aF b k) a).length<=2000)(ha:LineOK T.rightP s[k] a):bA T.rightP s (sM b k a)=true:=by
 obtain⟨⟨e,f⟩,_⟩:=aS.1 h;have d:okT b (k)=true:=by unfold okT;grind
 rw[aLM,aD7 h d,zin,zep s k hk];have hd:=ajS h d;rw[zin,zep s k hk]at hd;exact aAj hd a hl (aeQ.2 ha)
theorem akJ{L:List Ln}(h:(bJ L a.key).isSome=true):(sN L a).length=L.length:=by
 rcases yM L a.key with⟨j,hj,e,_⟩|⟨j,hj,e,q,_⟩
 ·unfold sN;grind
 grind
theorem aNp(h:bY s=0)(hk:k<s.length):s[k].o[0]!.k=0/\s[k].o[0]!.type_=1/\s[k].o[0]!.null=false:=by
 have a:=gG h hk (lk3 s[k]!) (by simp[lks]);unfold lk3 at a;split at a
 ·cases a
 ·rename_i d
  rw[not_or]at d;have h4:=by simpa using d.1
  unfold gY at h4
  grind
theorem aNf(h:bY s=0)(hk:k<s.length){j:Nat}(hj:j<s[k].o.length):0<=s[k].o[j].k/\s[k].o[j].k<=4:=by
 have a:=gG h hk (lk2 s[k]!) (by simp[lks]);rw[zep s k hk]at a;have:=aaH (show orI _=0 from a) _ (zmq.2 ⟨j,zmr.2 hj,rfl⟩);unfold xW anC at this
 grind
theorem aDK(h:bY s=0)(hk:k<s.length)(hw:tD w=true)(i:arE s[k] o=0)(u:mN w s[k] o.r=0):LineOK T.rightP s[k] (dY w s[k] o.r):=by
 unfold arE at i;split at i
 ·cases i
 split at i
 ·rename_i q;exact absurd i q
 rename_i A m;split at i
 ·cases i
 rename_i r;simp only[not_or,Bool.not_eq_false,Decidable.not_not]at A m r;have f:=anW m;have hv:∀j,j<o.r.length->mW s[k].o[j]! o.r[j]! =0:=λj hj=>by
  unfold cY at m
  rw[zp f.symm]at m
  exact eW.1 m j (zmr.2 hj)
 have hf:∀j (hj:j<o.r.length),mK T.rightP (iJ w s[k] o.r j).1=true/\(iJ w s[k] o.r j).1.k=s[k].o[j]!.k:=λj hj=>by
  have h0:=eW.1 u j (zmr.2 hj)
  have hc:=aNf h hk (j:=j) (by omega)
  refine aFx hw ?_ (hv j hj) h0
  rw[zep s[k].o j (by omega)];exact hc
 have hl:(dY w s[k] o.r).c.length=o.r.length:=by unfold dY;simp
 have hg:∀j (hj:j<(dY w s[k] o.r).c.length),(dY w s[k] o.r).c[j]=(iJ w s[k] o.r j).1:=λj hj=>by
  unfold dY
  show(List.map _ _)[j]'(by simpa[dY]using hj)=_
  rw[List.getElem_map,List.getElem_range]
 have g:=r.2;unfold akF at g;simp only[zba,zde]at g;have d:0<o.r.length:=by omega
 refine⟨g.1,by show o.r[0]!.n<_;omega,by rw[hl];exact f,λj hj=>?_,λc hc=>?_,?_,?_⟩
 ·rw[hg j hj];exact(hf j (by omega)).2
 ·obtain⟨j,hj,rfl⟩:=zgo hc
  rw[hg j hj];exact(hf j (by omega)).1
 ·rw[zep _ 0 (by rw[hl];exact d),hg 0 (by rw[hl];exact d)]
  have⟨c1,c2,t⟩:=aNp h hk;have a:=hv 0 d;unfold iJ jG;rw[zp c1];show o.r[0]! =⟨1,o.r[0]!.n,e0⟩;unfold mW at a;split at a
  ·cases a
  split at a
  ·cases a
  split at a
  ·cases a
  rename_i B C D;have l:o.r[0]!.k=1:=by
   have p:bW s[k].o[0]! =1:=by unfold bW;rw[zp (.inl c1),c2]
   by_cases z:o.r[0]!.k=0
   ·exact absurd ⟨z, .inl c1,t⟩ C
   ·exact Classical.byContradiction λy=>D ⟨z,by rw[p];exact y⟩
  have e:cB o.r[0]! =true:=by simpa using B
  unfold cB at e;rw[zn (by omega),zp l]at e;simp only[zba,zde]at e;rw[Vl.ext_iff];exact⟨l,rfl,e.1.1⟩
 ·refine aiY.2 ⟨λx hx=>?_,?_⟩
  ·have hx:x∈[w.d]:=hx
   rw[zms.1 hx];exact uF hw
  ·exact List.pairwise_singleton _ _
theorem aCX(hw:tD w=true)(hL:LineOK T.rightP t l)(d:zD t o=0)(h0:(dW w l.c[o.n.toNat]! o).2=0):LineOK T.rightP t (sO w o l):=by
 unfold zD at d;split at d
 ·cases d
 split at d
 ·cases d
 split at d
 ·cases d
 split at d
 ·rename_i q;exact absurd d q
 rename_i m p i k;simp only[not_or,Bool.not_eq_false,Decidable.not_not]at m p i k;have⟨k1,k2,ln,h,ce,r,ds⟩:=hL;have hj:o.n.toNat<l.c.length:=by omega
 rw[<-h _ hj]at i;rw[zep l.c _ hj]at h0;have⟨t1,t2⟩:=aKL hw (ce _ (zgm hj)) i k h0;have hc:(sO w o l).c=l.c.set o.n.toNat (dW w l.c[o.n.toNat] o).1:=by
  unfold sO cF;rw[zep l.c _ hj];split<;>rfl
 have a:(sO w o l).key=l.key:=by unfold sO cF;split<;>rfl
 refine⟨by rw[a];exact k1,by rw[a];exact k2,by rw[hc,List.length_set];exact ln,λj g=>?_,λc f=>?_,?_,ajZ ds (uF hw)⟩
 ·simp only[hc,List.getElem_set]
  simp only[hc,List.length_set]at g;split
  ·rename_i e;subst e;rw[t2];exact h _ hj
  ·exact h j g
 ·rw[hc]at f
  rcases List.mem_or_eq_of_mem_set f with q|rfl
  ·exact ce c q
  ·exact t1
 ·rw[a,hc,<-r,zep _ 0 (by rw[List.length_set];omega),List.getElem_set,zn (by omega),zep l.c 0 (by omega)]
theorem xO(hg:bA tx s b=true)(hk:k<s.length)(hl:l∈aF b k):LineOK tx s[k] l:=by
 obtain⟨⟨a,d⟩,_⟩:=aS.1 hg;have hl:l∈b[k].l:=by
  unfold aF okT at hl
  grind
 have hL:=vO hg _ hl
 grind
theorem qB(h:eF s o=0):∃k:Nat,o.t=k/\∃hk:k<s.length,(o.k=1->arE s[k] o=0)/\(o.k≠1->o.k≠8->zD s[k] o=0):=by
 unfold eF at h;split at h
 ·cases h
 split at h
 ·cases h
 rename_i f g;refine⟨o.t.toNat,by omega,by omega,λe=>?_,λa d=>?_⟩
 ·rw[zp e,zep s _ (by omega)]at h;exact h
 ·rw[zn a]at h
  split at h
  ·cases h
  rw[zep s _ (by omega)]at h;exact h
theorem ayO(hw:tD w=true)(hb:bA T.rightP s b=true)(h0:(bV w s b o).2=0):bA T.rightP s (bV w s b o).1=true:=by
 have hs:=(aS.1 hb).1.1;unfold bV at*;by_cases f:eF s o=0
 ·rw[zn (by simp[f])]at h0⊢
  have⟨k,hk,a,p,r⟩:=qB f;by_cases e:o.k=1
  ·rw[zp e]at h0⊢
   unfold aBd at*;split at h0
   ·cases h0
   split at h0
   ·cases h0
   rw[hk,zin,zep s k a]at h0⊢;split at h0
   ·rename_i q;exact absurd h0 q
   rename_i j g m;rw[hk]at j g;rw[zn j,zn g,zn m];refine anF hb a ?_ (aDK hs a hw (p e) (zdn m));have:=arQ (aF b (k:Int)) (dY w s[k] o.r);omega
  ·rw[zn e]at h0⊢
   by_cases h8:o.k=8
   ·rw[zp h8]at h0⊢
    unfold oY at*;rw[zp rfl]at h0⊢;split at h0
    ·rename_i q;rw[zp q]
     split at h0
     ·rename_i g;rw[zp g];exact aHL hb (uF hw)
     ·cases h0
    ·cases h0
   ·rw[zn h8]at h0⊢
    unfold ahD at*;rw[hk]at h0⊢;cases hg:bJ (aF b (k:Int)) o.key with
    |none=>rw[hg]at h0;cases h0
    |some l=>
     rw[hg]at h0;simp only at h0⊢;split at h0
     ·rename_i q;exact absurd h0 q
     rename_i q;rw[zn q];have hL:=xO hb a (rJ hg);have⟨_,d⟩:=(rA (mC hb (k:Int))).1 hg;refine anF hb a ?_ (aCX hw hL (r e h8) (zdn q));have h:(sO w o l).key=l.key:=by unfold sO cF;split<;>rfl
     rw[akJ (by rw[h,d,hg];rfl)];have i:okT b (k:Int)=true:=by unfold okT;simp only[zba,zde];have:=(aS.1 hb).1.2;omega
     exact(gI.1 (ajS hb i)).1
 ·rw[zp f]at h0
  exact absurd h0 f
end
section
attribute [local irreducible] Ev PWp
def aIf(l:Ln)(e:Int):PV:= .tup [.agg l.z,vi e]
theorem aNU(e:Int):Wk (.tup [.agg [vi 0, .val (.slice none 0 0), .val (.slice none 0 0)],vi e]) (aIf Ln.zero e):=Wk.tup (.cons (.agg (.cons (zwr _) (.cons Wk.nil (.cons Wk.nil .nil)))) (.cons (zwr _) .nil))
structure RwI (w:Wr) (t:Tb) (r:List Vl):Prop where
 pos:0<r.length
 len:r.length<=t.o.length
 l20:r.length<=1000
 n:∀v∈r,inL v.n
 s:∀v∈r,v.s.size<1000000
 kn:w.knew.length<1000000000000
theorem aJo(w:Wr)(t:Tb)(r:List Vl)(h:RwI w t r)(st:aD):qc 128 [.agg w.z, .agg t.z, .seq (r.map Vl.z)] st λR S=>(mN w t r≠0/\R= .tup [.agg [vi 0, .val (.slice none 0 0), .val (.slice none 0 0)],vi (mN w t r)]/\S=st)\/(mN w t r=0/\∃id,R= .tup [.agg [vi (r[0]!.n), .vec id 5 0 r.length, .seq [w.d.z]],vi 0]/\st id=none/\S=upd st id (some (.arr 92 ((dY w t r).c.map Cl.z)))):=by
 have hd:=kX w;have A:=h.pos;have I:=zep r 0 A;have hL:(dY w t r).c.length=r.length:=by unfold dY;simp
 have k:∀i (hi:i<r.length),(dY w t r).c[i]'(by rw[hL];exact hi)=(iJ w t r i).1:=λi hi=>by
  unfold dY
  show(List.map _ _)[i]'(by simpa using hi)=_
  rw[List.getElem_map,List.getElem_range]
 have y:mN w t r=dH (λi=>(iJ w t r i).2) (List.range r.length):=rfl;have a:=λi (hi:i<r.length)=>aAJ w t.o[i]!.k r[i]! (by rw[zep r i hi];exact h.n _ (zgm hi)) (by rw[zep r i hi];exact h.s _ (zgm hi)) h.kn;have M:=h.len;have L:=h.l20;rw[I];generalize(dY w t r).c=N at*;generalize mN w t r=E at*;refine pC func128 rfl ?_
 focus(repeat' first|apply wZ;rfl|apply KR.mk;kernel_rfl|constructor|apply hd|apply wY;rfl|apply wI;rfl|apply gE;omega)
 refine jS 8 92 5 [_] rfl rfl rfl λid d=>?_;refine aC (X:={x:Nat×Nat//x.1<=r.length/\st x.2=none/\∀j<x.1,(iJ w t r j).2=0}) (λi=>((((((((St.nil 52 (upd st i.1.2 (some (.arr 92 ((N.take i.1.1).map Cl.z))))).var 3 98 (w.z)).var 4 77 (t.z)).var 6 96 ([vi 0, .val (.slice none 0 0), .val (.slice none 0 0)])).var 8 96 ([vi (r[0].n), .vec i.1.2 5 0 i.1.1, .seq [w.d.z]])).pv 21 (.seq (r.map Vl.z))).pv 22 (vi ((r.map Vl.z).length:Nat))).pv 23 (vi (i.1.1:Nat)))) (λi=>r.length-i.1.1) ⟨(0,id),by simp,d,by simp⟩ ?_ λi=>?_;dsimp only;rotate_left;obtain⟨⟨i,id⟩,hi,d,C⟩:=i;simp only at hi d C;dsimp only;by_cases K:r.length<=i;obtain rfl:i=r.length:=by omega
 rw[ztl (by omega)];have D:E=0:=by rw[y];exact eW.2 λj hj=>C j (zmr.1 hj)
 rotate_left;have g:i<r.length:=by omega
 have p:i<t.o.length:=by omega
 have k:=k i g;have a:=a i g;rw[zep t.o i p,zep r i g]at a;have F:iJ w t r i=jG w t.o[i].k r[i]:=by unfold iJ;rw[zep t.o i p,zep r i g]
 rw[<-F]at a;have P:(N.take i).length=i:=by rw[zlt];omega
 have e:N.take (i+1)=N.take i++[(iJ w t r i).1]:=by rw[zts (by omega),k]
 have B:(iJ w t r i).2=0->∀j<i+1,(iJ w t r j).2=0:=λq j hj=>by
  rcases zls.1 hj with z|z
  ·exact C j z
  ·subst z;exact q
 have m:(iJ w t r i).2≠0->E=(iJ w t r i).2:=λq=>by
  rw[y]
  have G:i<(List.range r.length).length:=by rw[List.length_range];exact g
  have:=yD (f:=λi=>(iJ w t r i).2) (l:=List.range r.length) (i:=i) G (λj hj=>by rw[List.getElem_range];exact C j hj) (by rw[List.getElem_range];exact q)
  rw[this,List.getElem_range]
 generalize iJ w t r i=R at*;have⟨c,O⟩:=R;dsimp only at e B m;unfold sR at a;dsimp only at a;by_cases hz:O=0;have hu:=B hz;rotate_left;have D:=m hz;subst D;have H:=hz
 all_goals (repeat' first|exact Cn.any ⟨_,_,st,rfl,zwr _,aG (zsr _) d, .inl ⟨H,rfl,rfl⟩⟩|apply Cn.cf;focus((apply a);done)|refine⟨⟨(i+1,J),by simp only;omega,aI u,hu⟩,?_,?_⟩;(dsimp only;try rw[e])|exact Cn.any (aM ‹_›)|refine Cn.rr ?_;exact .inr ⟨D,id,rfl,d,rfl⟩;done|apply wZ;rfl|exact Cn.t0|apply KR.mk;kernel_rfl|omega|constructor|simp<;>omega|intro h;simp at h|exact rfl|apply apV pk (f:=Cl.z) [c] 64;(iterate 9 rfl);exact aA _ _ _;omega;exactλ_=>rfl;exactλ_=>rfl;exact qZ;(focus(simp;omega));(focus(simp;omega));rfl;intro J u|apply wY;rfl|apply wI;rfl|apply gE;omega|intro h)
theorem aAC(w:Wr)(t:Tb)(r:List Vl)(h:RwI w t r):qf 128 [.agg w.z, .agg t.z, .seq (r.map Vl.z)] (if mN w t r≠0 then aIf Ln.zero (mN w t r)else aIf (dY w t r) 0):=λst=>
 eS (aJo w t r h _) λp st' h=>by
  rcases h with⟨a,rfl,rfl⟩|⟨a,id,rfl,d,rfl⟩
  ·rw[zp a]
   exact .inr ⟨_,_,aNU _,zsr _,rfl,rfl⟩
  ·rw[zn (by grind)]
   refine .inl ⟨id,92,(dY w t r).c.map _,_,st,aA _ _ _,rT, .tup (.cons (.agg (.cons .refl (.cons (dI (by simp[dY])) (.cons .refl .nil)))) (.cons .refl .nil)),bN d,rfl,rfl⟩
def aK2(w:Wr)(s:Sc)(b:Bs)(o:Ot):Bs×Int:=if(bJ (aF b o.t) o.r[0]!.n).isSome=true then(b,8)else if(aF b o.t).length>=2000 then(b,2)else if mN w s[o.t.toNat]! o.r≠0 then(sM b o.t Ln.zero,mN w s[o.t.toNat]! o.r)else(sM b o.t (dY w s[o.t.toNat]! o.r),0)
def aKi(w:Wr)(b:Bs)(o:Ot):Bs×Int:=match bJ (aF b o.t) o.key with
 |none=>(b,4)
 |some l=>if(dW w l.c[o.n.toNat]! o).2≠0 then(b,(dW w l.c[o.n.toNat]! o).2)else(sM b o.t (sO w o l),0)
def aAi(w:Wr)(s:Sc)(b:Bs)(o:Ot):Bs×Int:=if o.k=1 then aK2 w s b o else if o.k=8 then oY true s b (o.t,o.key) w.d (lQ s b (o.t,o.key))else aKi w b o
theorem aH3(h:eF s o=0):bV w s b o=if(aAi w s b o).2≠0 then([],(aAi w s b o).2)else aAi w s b o:=by
 unfold bV aAi;rw[zn (by simp[h])];by_cases a:o.k=1
 ·simp only[zp a]
  unfold aBd aK2;split
  ·rfl
  ·split
   ·rfl
   ·split
    ·rename_i q;simp only[zp q]
    ·rfl
 ·simp only[zn a]
  by_cases h8:o.k=8
  ·simp only[zp h8]
   unfold oY
   repeat' split
   all_goals first|rfl|(rename_i q;exact absurd rfl q)
  ·simp only[zn h8]
   unfold ahD aKi;cases bJ (aF b o.t) o.key with
   |none=>rfl
   |some l=>
    simp only;split
    ·rename_i q;simp only[zp q]
    ·rfl
theorem uU(h:cB v=true):inL v.n:=by
 unfold cB at h;unfold inL
 grind
structure DoB (k:Nat) (w:Wr) (s:Sc) (b:Bs) (o:Ot):Prop where
 sb:ScB s
 len:s.length<=20
 bs:OpW k b
 k20:k<=20
 kn:w.knew.length<1000000000000
 few:oC o
theorem DoB.S(h:DoB k w s b o):BsS 200 b:=h.bs.S h.k20
theorem aeY(h:BsS n b)(hn:n<=1000):b.length<100000000000/\∀d∈b,d.l.length<100000000000:=⟨by have:=h.1;omega,λd hd=>by have:=(h.2 d hd).1;omega⟩
theorem aCv(hk:k<b.length):aF b (k:Int)=b[k].l:=by
 unfold aF okT
 grind
section
variable{n:Nat}{w:Wr}{s:Sc}{b:Bs}{o:Ot}(hD:DoB n w s b o)(hb:bA T.rightP s b=true)
include hD hb
theorem aMb(C:eF s o=0)(A:o.k=1):qf 64 [.agg w.z, .agg (scC s), .agg (bsC b), .agg o.z] (jA (aK2 w s b o)):=by
 have⟨k,hk,t,G,_⟩:=qB C;have hi:=G A;obtain⟨⟨H,J⟩,_⟩:=aS.1 hb;have r:k<b.length:=by omega
 unfold arE at hi;split at hi
 ·cases hi
 split at hi
 ·rename_i q;exact absurd hi q
 split at hi
 ·cases hi
 rename_i K g M;have g:=zdn g;have l:=anW g;have f:0<o.r.length:=by omega
 have p:RwI w s[k] o.r:=⟨f,by omega,by have:=hD.few.1;omega,λv hv=>by
  obtain⟨j,hj,rfl⟩:=zgo hv
  unfold cY at g
  rw[zp l.symm]at g
  have:=eW.1 g j (zmr.2 hj)
  unfold mW at this
  split at this
  ·cases this
  ·rename_i q
   rw[zep o.r j hj]at q;exact uU (by simpa using q),λv hv=>by have:=hD.few.2.2 v hv;omega,hD.kn⟩
 have y:=hD.S;have⟨D,F⟩:=aeY y (by omega);have i:=abS y (by omega) o.t o.r[0].n;have d:=aAC w s[k] o.r p;have e:=λa=>afN b o.t a D F;have m:=aCv r;have u:=(fD hD.bs (k:Int)).1;have z:=hD.k20;unfold aK2;rw[zep o.r 0 f];rw[show s[o.t.toNat]! =s[k]from by rw[hk,zin,zep s k t]];rw[show(aF b o.t).length=b[k].l.length from by rw[hk,m]];rw[m]at u;generalize(bJ (aF b o.t) o.r[0].n).isSome=I at*;generalize(bJ (aF b o.t) o.r[0].n).getD Ln.zero=L at*;rcases I with _|_
 rw[zn (by simp),zn (by omega)];by_cases x:mN w s[k] o.r≠0;rw[zp x]at d⊢;have e:=e Ln.zero;generalize mN w s[k] o.r=E at*;generalize sM b o.t Ln.zero=B at*;unfold aIf at d;rotate_left;rw[zn x]at d⊢;have e:=e (dY w s[k] o.r);generalize dY w s[k] o.r=N at*;generalize sM b o.t N=B at*;unfold aIf at d;rotate_left;rw[zp rfl]
 all_goals (refine pF func64 rfl λst=>?_;repeat'(first|apply iX;intro hw;exact hk;apply gE;omega;rfl|apply wZ;rfl|apply KR.mk;kernel_rfl|omega|constructor|apply i|(first|apply d|apply e)|apply wY;rfl|apply wI;rfl|apply gE;omega|simp<;>omega|intro h;simp at h|intro h))
theorem aLN(h8:o.k=8):qf 64 [.agg w.z, .agg (scC s), .agg (bsC b), .agg o.z] (jA (oY true s b (o.t,o.key) w.d (lQ s b (o.t,o.key)))):=by
 have hd:=kX w;have e:=gH hD.S (by omega) hD.sb hD.len;rw[hb]at e;have a:qf 129 [.agg (scC s), .agg (bsC b),vi o.t,vi o.key, .agg w.d.z] (jA (oY true s b (o.t,o.key) w.d (lQ s b (o.t,o.key)))):=aG5 e (λ_=>aB0 hb ⟨hD.S.1,λd hd=>⟨by have:=(hD.S.2 d hd).1;omega,(hD.S.2 d hd).2⟩⟩) (o.t,o.key) w.d;generalize oY true s b (o.t,o.key) w.d (lQ s b (o.t,o.key))=R at*;unfold jA at a;refine pF func64 rfl λst=>?_
 repeat' first|apply wZ;rfl|apply KR.mk;kernel_rfl|omega|constructor|(first|apply hd|apply a)|apply wY;rfl|intro h
theorem aKX(x:eF s o=0)(M:o.k≠1)(h8:o.k≠8):qf 64 [.agg w.z, .agg (scC s), .agg (bsC b), .agg o.z] (jA (aKi w b o)):=by
 have⟨k,hk,A,_,U⟩:=qB x;have hc:=U M h8;obtain⟨⟨V,X⟩,_⟩:=aS.1 hb;have O:k<b.length:=by omega
 have r:2<=o.k/\o.k<=7:=by
  unfold eF at x;split at x
  ·cases x
  ·omega
 have hd:=kX w;have H:=hD.S;have⟨P,Q⟩:=aeY H (by omega);have d:=abS H (by omega) o.t o.key;have f:=λa=>afN b o.t a P Q;have K:=hD.k20;unfold aKi;rcases hg:bJ (aF b o.t) o.key with _|l
 rw[hg]at d;rotate_left;rw[hg]at d;have z:qf 38 [.agg (bsC b),vi o.t,vi o.key] (.tup [.agg l.z,vb true]):=d;clear d;have m:=rJ hg;have i:=(fD hD.bs o.t).2 l m;rw[hk]at m;have hL:=xO hb A m;unfold zD at hc;split at hc
 ·cases hc
 split at hc
 ·cases hc
 split at hc
 ·cases hc
 split at hc
 ·rename_i q;exact absurd hc q
 rename_i Y Z u3 u;have u:=zdn u;have L:=hL.len;obtain⟨j,hj⟩:∃j:Nat,o.n=j:=⟨o.n.toNat,by omega⟩;have g:j<l.c.length:=by omega
 have E:cB o.val=true:=by
  unfold nW at u;split at u
  ·cases u
  ·rename_i q
   cases e:cB o.val with
   |true=>rfl
   |false=>exact absurd (.inr e) q
 have hT:TnOK w l.c[j] o:=⟨uU E,by have:=hD.few.2.1;omega,hD.kn,by have:=i.2.2 _ (zgm g);omega⟩;have y:=alK l.c;have J:=i.2.1;have I:=i.1;have D:=λ(id:Nat)(st:aD) hst=>aJu (w:=w) (cs:=l.c) (j:=j) (id:=id) (o:=o) g hT r.1 r.2 (st:=st) hst;have p:=λN=>ahA ⟨l.key,N,l.b⟩ w.d (by show l.b.length<_;omega);have t:sO w o l=cF ⟨l.key,l.c.set j (dW w l.c[j] o).1,l.b⟩ w.d:=by unfold sO;rw[hj,zin,zep l.c j g]
 simp only;rw[t,show l.c[o.n.toNat]! =l.c[j]from by rw[hj,zin,zep l.c j g]];have p:=p (l.c.set j (dW w l.c[j] o).1);have f:=f (cF ⟨l.key,l.c.set j (dW w l.c[j] o).1,l.b⟩ w.d);have C:(l.c.set j (dW w l.c[j] o).1).length=l.c.length:=List.length_set ..;generalize dW w l.c[j] o=R at*;generalize cF ⟨l.key,l.c.set j R.1,l.b⟩ w.d=W at*;generalize sM b o.t W=B at*;generalize l.c.set j R.1=N at*;by_cases G:R.2≠0;rw[zp G];rotate_left;rw[zn G];have F:=λid=>(show FzL id 5 (N.map Cl.z) [.agg [vi l.key, .vec id 5 0 l.c.length, .seq (l.b.map Dt.z)], .agg w.d.z] [.agg [vi l.key, .seq (N.map Cl.z), .seq (l.b.map Dt.z)], .agg w.d.z]from .cons (.agg (.cons .refl (.cons (dI C) (.cons .refl .nil)))) (.cons .refl .nil))
 all_goals (refine pF func64 rfl λst=>?_;repeat'(first|exact Cn.any ⟨_,_,st,rfl,zwr _,aG (aG (aG (zsr _) hid) hid) hid,rfl,rfl⟩|apply wDO pk [0,1,2,3,4,5,6,7,8] [7] [] [7] [];rfl;rfl;kernel_rfl;rfl;rfl|apply wDO pk [0,1,2,3,4,5,6,7,8,9] [6] [] [6] [];rfl;rfl;kernel_rfl;rfl;rfl|apply Cn.cf;focus(((first|apply z|apply hd|apply f));done)|exact Cn.any ⟨_,_,st,rfl,zwr _,aG (aG (zsr _) hid) hid,rfl,rfl⟩|apply cP;rfl;apply(y _ (by omega));rintro _ st' (⟨id,rfl,hid,rfl⟩)|apply cP;rfl;apply D id _ (aA _ _ _);rintro _ st' (⟨rfl,rfl⟩)|apply cP;rfl;apply PC.freezeZ (aA _ _ _) rT (F id) (p _);rintro _ st' (⟨rfl,rfl⟩)|apply wZ;rfl|omega|constructor|apply ixA pk;(iterate 5 rfl);rotate_left;rfl;intro hw;exact(show _=((j:Nat):Int)from by omega);intro hw;omega;rfl;exact Nat.zero_add _|exact rfl|apply d|apply wY;rfl|intro h))
theorem aMs(d:eF s o=0):qf 64 [.agg w.z, .agg (scC s), .agg (bsC b), .agg o.z] (jA (aAi w s b o)):=by
 unfold aAi;by_cases a:o.k=1
 ·rw[zp a];exact aMb hD hb d a
 ·rw[zn a]
  by_cases h8:o.k=8
  ·rw[zp h8];exact aLN hD hb h8
  ·rw[zn h8];exact aKX hD hb d a h8
end
end
section
variable{w v:Wr}{s:Sc}{b:Bs}
theorem pV(o:Ot)(r:List Ot):aV w s b (o::r)=if(bV w s b o).2≠0 then([],(bV w s b o).2)else aV w s (bV w s b o).1 r:=rfl
theorem mX(hw:tD w=true):∀{l:List Ot}{b:Bs}{k:Nat},bA T.rightP s b=true->OpW k b->(∀o∈l,oC o)->(aV w s b l).2=0->bA T.rightP s (aV w s b l).1=true/\OpW (k+l.length) (aV w s b l).1
 |[],b,k,hb,h,_,_=>⟨hb,h⟩
 |o::r,b,k,hb,h,ho,h0=>by
  unfold aV at*
  split at h0
  ·grind
  ·rename_i q
   have:=mX hw (ayO hw hb (zdn q)) (aH2 h (ho o (by simp))) (λx hx=>ho x (zmm _ hx)) h0
   grind
theorem nB(o:Ot):∀(l:List Ot)(b:Bs),(aV w s b l).2=0->aV w s b (l++[o])=if(bV w s (aV w s b l).1 o).2≠0 then([],(bV w s (aV w s b l).1 o).2)else((bV w s (aV w s b l).1 o).1,0)
 |[],b,_=>rfl
 |x::r,b,h=>by
  rw[List.cons_append]
  unfold aV at*
  split at h
  ·grind
  ·rename_i q
   rw[zn q,zn q];exact nB o r _ h
theorem aEw{l m:List Ot}{b:Bs}(h:(aV w s b l).2≠0):aV w s b (l++m)=aV w s b l:=by
 induction l generalizing b with
 |nil=>trivial
 |cons o r ih=>
  rw[List.cons_append,pV,pV];rw[pV]at h
  grind
theorem aeT{l:List Ot}(hi:i<l.length){b:Bs}(h:(aV w s b (l.take i)).2=0):aV w s b (l.take (i+1))=if(bV w s (aV w s b (l.take i)).1 l[i]).2≠0 then([],(bV w s (aV w s b (l.take i)).1 l[i]).2)else((bV w s (aV w s b (l.take i)).1 l[i]).1,0):=by
 rw[zts _,nB _ _ _ h]
theorem ahM{l:List Ot}{b:Bs}(h:(aV w s b (l.take i)).2≠0):aV w s b l=aV w s b (l.take i):=by
 have:=aEw (m:=l.drop i) h
 simpa
theorem eP :rightW w s b=true↔rightC s=0/\bA T.rightP s b=true/\tD w=true:=by
 unfold rightW mayC
 grind
theorem ayV{l:List Ot}(h:(jV w s b l).2=0):rightW w s b=true/\(aV w s b l).2=0/\whyC s (aV w s b l).1=0/\(jV w s b l).1=(aV w s b l).1:=by
 unfold jV at*
 grind
end
section
attribute [local irreducible] Ev PWp
def aIm(t:Tb):Nat:=t.o.length+t.u.length+t.h.length+t.f.length+t.s.length
def aoP(s:Sc):Nat:=(s.map aIm).sum
def ahT(s:Sc):Bool:=decide (s.length<=20)&&decide (aoP s<=400)
theorem aMd(h:i<s.length):aoP (s.take (i+1))=aoP (s.take i)+aIm s[i]:=by
 unfold aoP;rw[zts h,zmd,List.sum_append];simp
theorem aJD(h:t∈s):aIm t<=aoP s:=by
 unfold aoP
 induction s with
 |nil=>cases h
 |cons a s ih=>
  grind
theorem aFZ(s:Sc)(hl:s.length<200000000000000)(d:¬s.length<=20):qf 23 [.agg (scC s)] (vb false):=by
 refine pF func23 rfl λst=>?_
 focus(repeat' first|apply wZ;rfl|constructor)
 refine aC (X:={x:Nat×Int//x.1<=s.length}) (λi=>((((St.nil 47 st).var 1 24 (scC s)).pv 3 (vi i.1.2)).pv 4 (vi (i.1.1:Nat)))) (λi=>s.length-i.1.1) ⟨(0,0),by simp⟩ ?_ λi=>?_
 ·repeat' first|constructor
 obtain⟨⟨i,n⟩,hi⟩:=i;simp only at hi;dsimp only;by_cases a:s.length<=i
 ·repeat' first|apply wZ;rfl|constructor|show(_:PV)=_;rw[zql,zdj (by omega)];rfl;done|simp<;>omega|intro h;simp at h
 have e:i<s.length:=by omega
 focus(repeat' first|apply wZ;rfl|constructor|simp<;>omega|intro h;simp at h)
 apply cR pk;(iterate 6 rfl);rotate_left;rfl;intro hw;rfl;(intro hw;apply aBG<;>omega);intro _;rfl;rfl
 ·repeat (first|apply jL aT;iterate 4 rfl|apply awQ aT;iterate 4 rfl|apply auD aT;iterate 5 rfl)
  refine rU ?_;refine iG ?_
  repeat (first|apply aNL;(iterate 5 rfl);intro n'|apply jL aT;iterate 4 rfl|apply aG3 aT;rfl;rfl;exactλ_=>rfl;rfl;rfl|apply aCP aT;rfl;rfl;rfl;rfl;exactλ_=>rfl;rfl;rfl)
  repeat' first|refine⟨⟨(i+1,n'),by simp only;omega⟩,?_,?_⟩|apply wZ;rfl|omega|constructor|simp<;>omega
 ·repeat'(show Cn _;constructor)
theorem aAd(s:Sc)(hl:s.length<200000000000000)(j:ScB s):qf 23 [.agg (scC s)] (vb (ahT s)):=by
 by_cases a:¬s.length<=20
 ·have k:ahT s=false:=by unfold ahT;rw[zdj a];rfl
  rw[k];exact aFZ s hl a
 replace a:=zdn a
 refine pF func23 rfl λst=>?_
 focus(repeat' first|apply wZ;rfl|constructor)
 refine aC (X:={x:Nat×Int//x.1<=s.length/\x.2=((aoP (s.take x.1):Nat):Int)/\x.2<=x.1*1000000000000000}) (λi=>((((St.nil 47 st).var 1 24 (scC s)).pv 3 (vi i.1.2)).pv 4 (vi (i.1.1:Nat)))) (λi=>s.length-i.1.1) ⟨(0,0),by simp,rfl,by simp⟩ ?_ λi=>?_;rotate_left;obtain⟨⟨i,n⟩,hi,hn,g⟩:=i;simp only at hi hn g;dsimp only;by_cases d:s.length<=i;rw[ztl d]at hn;subst hn;have e:ahT s=(decide ((s.length:Int)<=20)&&decide ((aoP s:Int)<=400)):=by unfold ahT;rw[zbi];simp;omega
 rw[e];rotate_left;have f:i<s.length:=by omega
 have hu:=aMd f;have hT:=j _ (zgm f);have⟨c1,c2,p,q,c5⟩:=hT;have hs:aIm s[i]=s[i].o.length+s[i].u.length+s[i].h.length+s[i].f.length+s[i].s.length:=rfl;have r:(s[i].o.map Co.z).length=s[i].o.length:=zql _;have t:(s[i].u.map I1).length=s[i].u.length:=zql _;have u:(s[i].f.map Fr.z).length=s[i].f.length:=zql _;have y:(s[i].s.map Su.z).length=s[i].s.length:=zql _;have l:n+((s[i].o.map Co.z).length:Int)+((s[i].u.map I1).length:Int)+(s[i].h.length:Int)+((s[i].f.map Fr.z).length:Int)+((s[i].s.map Su.z).length:Int)=((aoP (s.take (i+1)):Nat):Int):=by omega
 have m:n+((s[i].o.map Co.z).length:Int)+((s[i].u.map I1).length:Int)+(s[i].h.length:Int)+((s[i].f.map Fr.z).length:Int)+((s[i].s.map Su.z).length:Int)<=((i+1:Nat):Int)*1000000000000000:=by omega
 have z:0<=n:=by omega
 all_goals (repeat' first|refine⟨⟨(i+1,n+((s[i].o.map Co.z).length:Int)+((s[i].u.map I1).length:Int)+(s[i].h.length:Int)+((s[i].f.map Fr.z).length:Int)+((s[i].s.map Su.z).length:Int)),by simp only;omega,l,m⟩,?_,?_⟩|apply wZ;rfl|omega|constructor|apply wI;rfl|apply gE;omega|show(_:PV)=_;rw[zql];done|simp<;>omega|intro h;simp at h)
noncomputable def fewX(s:Sc):Bool:=s.all λt=>t.h.all λc=>decide (X.nodesR 25 (exOf c) 60<=60)
noncomputable def fewC(s:Sc)(b:Bs):Bool:=(ahT s&&aaD b)&&fewX s
theorem aEg(s:Sc)(b:Bs)(hl:s.length<200000000000000)(I:ScB s)(O:∀t∈s,tH t)(hb:BsB b):qf 9 [.agg (scC s), .agg (bsC b)] (vb (fewC s b)):=by
 have u:=aAd s hl I;have z:=aFG b hb.1 hb.2;unfold fewC;by_cases hg:¬(ahT s&&aaD b)=true;have hg:(ahT s&&aaD b)=false:=by simpa using hg
 rw[hg];generalize ahT s=A at*;generalize aaD b=B at*;refine pF func9 rfl λst=>?_;rotate_left
 replace hg:=zdn hg
 rw[hg];rw[zba]at hg;rw[hg.1]at u;rw[hg.2]at z;have M:s.length<=20:=by have:=hg.1;unfold ahT at this;simp at this;exact this.1
 have r:(∀j (h:j<s.length),(s[j].h.all λc=>decide (X.nodesR 25 (exOf c) 60<=60))=true)->fewX s=true:=λh=>by
  unfold fewX
  rw[zal]
  intro t ht
  obtain⟨j,hj,rfl⟩:=zgo ht
  exact h j hj
 have a:∀j (h:j<s.length),∀y (hy:y<s[j].h.length),decide (X.nodesR 25 (exOf s[j].h[y]) 60<=60)=false->fewX s=false:=λj hj y hy h=>by
  unfold fewX
  rw[<-znt,zal]
  intro q
  have:=zal.1 (q _ (zgm hj)) _ (zgm hy)
  rw[h]at this;cases this
 generalize fewX s=W at*;refine pF func9 rfl λst=>?_
 focus(repeat' first|apply wZ;rfl|constructor|(first|apply u|apply z)|apply wY;rfl)
 refine aC (X:={x:Nat//x<=s.length/\∀j (h:j<s.length),j<x->(s[j].h.all λc=>decide (X.nodesR 25 (exOf c) 60<=60))=true}) (λi=>(((St.nil 50 st).var 2 24 (scC s)).pv 7 (vi (i.1:Nat)))) (λi=>s.length-i.1) ⟨0,by omega,by omega⟩ ?_ λi=>?_;rotate_left;have⟨i,hi,J⟩:=i;dsimp only;by_cases L:s.length<=i;have e:W=true:=r λj hj=>J j hj (by omega);rotate_left;have d:i<s.length:=by omega
 have G:(s[i].h.all λc=>decide (X.nodesR 25 (exOf c) 60<=60))=true->∀j (h:j<s.length),j<i+1->(s[j].h.all λc=>decide (X.nodesR 25 (exOf c) 60<=60))=true:=λh j hj f=>by
  rcases zls.1 f with q|q
  ·exact J j hj q
  ·subst q;exact h
 have l:=O _ (zgm d);have K:=(I _ (zgm d)).k;have a:=a i d
 focus(repeat' first|apply wZ;rfl|constructor|simp<;>omega|intro h;simp at h)
 refine aC (X:={x:Nat//x<=s[i].h.length/\∀j (h:j<s[i].h.length),j<x->decide (X.nodesR 25 (exOf s[i].h[j]) 60<=60)=true}) (λy=>((((St.nil 50 st).var 2 24 (scC s)).pv 7 (vi (i:Nat))).pv 8 (vi (y.1:Nat)))) (λy=>s[i].h.length-y.1) ⟨0,by omega,by omega⟩ ?_ λy=>?_;rotate_left;have⟨y,hy,p⟩:=y;dsimp only;by_cases E:s[i].h.length<=y;have hw:=G (by
  rw[zal]
  intro c hc
  obtain⟨j,hj,rfl⟩:=zgo hc
  exact p j hj (by omega))
 rotate_left;have g:y<s[i].h.length:=by omega
 have⟨F,C⟩:=zR (l _ (zgm g));have N:=X.Few_spec F;have a:=a y g;have H:decide (X.nodesR 25 (exOf s[i].h[y]) 60<=60)=true->∀j (h:j<s[i].h.length),j<y+1->decide (X.nodesR 25 (exOf s[i].h[j]) 60<=60)=true:=λh j hj f=>by
  rcases zls.1 f with q|q
  ·exact p j hj q
  ·subst q;exact h
 have m:s[i].h[y]?=some (exOf s[i].h[y]).z:=by rw[C,zgg g]
 generalize decide (X.nodesR 25 (exOf s[i].h[y]) 60<=60)=D at*;generalize exOf s[i].h[y]=x at*;have⟨P,Q,S,R⟩:=x;rcases D with _|_
 have e:=a rfl;rotate_left
 all_goals (repeat' first|refine⟨⟨y+1,by omega,H rfl⟩,?_,?_⟩|refine⟨⟨i+1,by omega,hw⟩,?_,?_⟩|apply wZ;rfl|omega|constructor|apply cR pk;(iterate 6 rfl);rotate_left;rfl;intro hw;rfl;(intro hw;apply m<;>omega);intro _;rfl;rfl|apply N|apply wI;rfl|apply gE;omega|show(_:PV)=_;rw[e];rfl;done|simp<;>omega|(first|apply u|apply z)|apply wY;rfl|exfalso;simp_all;done|intro h;simp at h)
theorem CkB.of(h:fewC s b=true)(e:ScB s)(f:∀t∈s,tH t):CkB 100 s b:=by
 unfold fewC ahT at h;simp at h;obtain⟨⟨⟨a,g⟩,d⟩,h4⟩:=h;exact⟨e,a,λt ht=>by have:=aJD ht;unfold aIm at this;omega,f,aLc d,by simp⟩
theorem afR(hD:DoB n w s b o)(a:∀t∈s,t.o.length<10000000000)(hb:bA T.rightP s b=true):qf 30 [.agg w.z, .agg (scC s), .agg (bsC b), .agg o.z] (jA (bV w s b o)):=by
 have i:=asY s o (by have:=hD.len;omega) (λt ht=>by have:=a t ht;omega) λt ht=>amH t o.r (by have:=a t ht;omega) (by have:=hD.few.1;omega);by_cases f:eF s o≠0;have e:bV w s b o=([],eF s o):=by unfold bV;rw[zp f]
 rw[e];generalize eF s o=R at*;rotate_left;have f:=zdn f;rw[aH3 f];rw[f]at i;have g:=aMs hD hb f;generalize aAi w s b o=R at*;unfold jA at g;by_cases d:R.2≠0;rw[zp d];rotate_left;rw[zn d];have d:=zdn d;have⟨B,e⟩:=R;dsimp only at d g;subst d
 all_goals (refine pF func30 rfl λst=>?_;repeat'(first|exact Cn.any ⟨_,_,_,rfl,jJ _,zsr _,rfl,rfl⟩|apply wZ;rfl|omega|constructor|(first|apply i|apply g)|apply wY;rfl|intro h))
theorem aCY(w:Wr)(hk:w.knew.length<1000000000000):qf 62 [.agg w.z] (vb (tD w)):=by
 have a:=eI w.who.m 1 1125899906842624;have d:=eI w.who.dev 1 64;have e:=eI w.who.seq 1 1048576;have h4:=aqP w.knew hk;unfold tD;generalize T.withinB w.who.m 1 1125899906842624=A at*;generalize T.withinB w.who.dev 1 64=B at*;generalize T.withinB w.who.seq 1 1048576=C at*;generalize aoQ w.knew=D at*;refine pF func62 rfl λst=>?_
 repeat' first|apply wZ;rfl|constructor|(first|apply a|apply d|apply e|apply h4)|apply wY;rfl
theorem adB(a:CkB n s b)(w:Wr)(hk:w.knew.length<1000000000000):qf 29 [.agg w.z, .agg (scC s), .agg (bsC b)] (vb (rightW w s b)):=by
 have d:=a.right;have e:=gH a.bs a.hn a.sb a.len;have f:=aCY w hk;unfold rightW mayC;generalize rightC s=R at*;generalize bA T.rightP s b=B at*;generalize tD w=M at*;refine pF func29 rfl λst=>?_
 repeat' first|apply wZ;rfl|constructor|(first|apply d|apply e|apply f)|apply wY;rfl
structure ScK (s:Sc):Prop where
 sb:ScB s
 len:s.length<=20
 n:∀t∈s,t.o.length<10000000000
 chk:∀t∈s,tH t
theorem ScK.ck(h:ScK s)(hb:BsS n b)(hn:n<=1000):CkB n s b:=⟨h.sb,h.len,h.n,h.chk,hb,hn⟩
theorem aHG(e:ScK s)(hD:DoB n w s b o):qf 15 [.agg (scC s), .agg (bsC b), .agg o.z, .agg w.who.z, .seq (w.knew.map I1)] (jA (doP w s b o)):=by
 have a:=adB (e.ck hD.S (by omega)) w hD.kn;unfold doP;rcases hR:rightW w s b with _|_
 rw[hR]at a;rw[zn (by simp)];rotate_left;rw[hR]at a;rw[zp rfl];have d:=afR hD e.n (eP.1 hR).2.1;generalize bV w s b o=R at*;unfold jA at d
 all_goals (refine pF func15 rfl λst=>?_;repeat'(first|exact Cn.any ⟨_,_,_,rfl,jJ _,zsr _,rfl,rfl⟩|apply wZ;rfl|constructor|(first|apply a|apply d)|apply wY;rfl))
theorem abG{l:List Ot}(f:ScK s)(t:OpW n b)(hn:n+l.length<=20)(hk:w.knew.length<1000000000000)(hf:∀o∈l,oC o):qf 13 [.agg (scC s), .agg (bsC b), .seq (l.map Ot.z), .agg w.who.z, .seq (w.knew.map I1)] (jA (jV w s b l)):=by
 have k:=adB (f.ck (t.S (by omega)) (by omega)) w hk;unfold jV;rcases hR:rightW w s b with _|_
 rw[hR]at k;rw[zp rfl];refine pF func13 rfl λst=>?_;rotate_left;rw[hR]at k;rw[zn (by simp),zn (by omega)];have⟨_,hb,hm⟩:=eP.1 hR;have p:=λi (hi:i<=l.length) (h0:(aV w s b (l.take i)).2=0)=>mX hm (l:=l.take i) hb t (λo ho=>hf o (List.mem_of_mem_take ho)) h0;refine pF func13 rfl λst=>?_
 focus(repeat' first|apply wZ;rfl|constructor|apply k|apply wY;rfl|simp<;>omega|intro h;simp at h)
 refine aC (X:={x:Nat//x<=l.length/\(aV w s b (l.take x)).2=0}) (λi=>((((((((St.nil 61 st).var 5 24 (scC s)).var 6 27 (bsC (aV w s b (l.take i.1)).1)).var 10 27 ([.val (.slice none 0 0)])).var 12 98 (w.z)).pv 33 (.seq (l.map Ot.z))).pv 34 (vi ((l.map Ot.z).length:Nat))).pv 35 (vi (i.1:Nat)))) (λi=>l.length-i.1) ⟨0,by omega,rfl⟩ ?_ λi=>?_;rotate_left;have⟨i,hi,h0⟩:=i;dsimp only;have⟨y,m⟩:=p i hi h0;rw[zlt,Nat.min_eq_left hi]at m;by_cases g:l.length<=i;have e:l.take i=l:=ztl g;rw[e]at h0 y m⊢;rw[zn (by simp[h0])];have hy:=aGs (f.ck (m.S (by omega)) (by omega));generalize(aV w s b l).1=B at*;generalize whyC s B=Y at*;by_cases u:Y≠0;rw[zp u];rotate_left;rw[zn u];rotate_left;have j:i<l.length:=by omega
 have d:=aeT j h0;have q:=λh=>ahM (i:=i+1) (l:=l) (w:=w) (s:=s) (b:=b) h;have r:=afR (w:=w) (o:=l[i]) (n:=n+i) ⟨f.sb,f.len,m,by omega,hk,hf _ (zgm j)⟩ f.n y;generalize(aV w s b (l.take i)).1=B at*;generalize bV w s B l[i]=R at*;unfold jA at r;by_cases a:R.2≠0;rw[zp a]at d;have e:=q (by rw[d];exact a);rw[e,d,zp a];rotate_left;rw[zn a]at d;have a:=zdn a
 all_goals (repeat' first|refine⟨⟨i+1,by omega,by rw[d]⟩,?_,?_⟩;dsimp only;rw[d]|exact Cn.any ⟨_,_,_,rfl,jJ _,zsr _,rfl,rfl⟩|apply wZ;rfl|omega|constructor|apply hy|exact rfl|apply r|apply k|apply wY;rfl|apply wI;rfl|apply gE;omega|simp<;>omega|intro h;simp at h|intro h)
def rF(v:Vl):Bool:=decide (v.s.size<=40)
def jO(o:Ot):Bool:=decide (o.r.length<=20/\o.val.s.size<=40)&&o.r.all rF
theorem aaV:jO o=true↔oC o:=by
 unfold jO oC rF
 grind
theorem awS(o:Ot)(hl:o.r.length<200000000000000):qf 26 [.agg o.z] (vb (jO o)):=by
 unfold jO;by_cases h:o.r.length<=20/\o.val.s.size<=40;rw[zdt h,Bool.true_and];have l:∀j (hj:j<o.r.length),rF o.r[j]=false->o.r.all rF=false:=λj hj q=>by
  rw[<-znt,zal]
  intro z
  rw[z _ (zgm hj)]at q;cases q
 have d:(∀j (hj:j<o.r.length),rF o.r[j]=true)->o.r.all rF=true:=λq=>by
  rw[zal]
  intro v hv
  obtain⟨j,hj,rfl⟩:=zgo hv
  exact q j hj
 generalize o.r.all rF=A at*;refine pF func26 rfl λst=>?_
 focus(repeat' first|apply wZ;rfl|constructor|intro h;simp at h;omega|intro h;simp at h)
 refine aC (X:={x:Nat//x<=o.r.length/\∀j (hj:j<o.r.length),j<x->rF o.r[j]=true}) (λi=>(((St.nil 30 st).var 1 53 (o.z)).pv 3 (vi (i.1:Nat)))) (λi=>o.r.length-i.1) ⟨0,by omega,by omega⟩ ?_ λi=>?_;rotate_left;have⟨i,hi,m⟩:=i;dsimp only;by_cases p:o.r.length<=i;have e:=d λj hj=>m j hj (by omega);rotate_left;have g:i<o.r.length:=by omega
 by_cases a:o.r[i].s.size<=40;have f:∀j (hj:j<o.r.length),j<i+1->rF o.r[j]=true:=λj hj k=>by
  rcases zls.1 k with q|q
  ·exact m j hj q
  ·subst q;exact zdt a
 rotate_left;have e:=l i g (zdj a);rotate_left;rw[zdj h,Bool.false_and];refine pF func26 rfl λst=>?_
 all_goals (repeat' first|refine⟨⟨i+1,by omega,f⟩,?_,?_⟩|apply wZ;rfl|omega|constructor|intro h;simp at h;omega|apply wI;rfl|apply gE;omega|show(_:PV)=_;rw[e];done|simp<;>omega|intro h;simp at h)
theorem aqR(l:List Ot)(m:Int)(hl:l.length<200000000000000)(p:∀o∈l,o.r.length<200000000000000):qf 10 [.seq (l.map Ot.z),vi m] (vb (decide ((l.length:Int)<=m)&&l.all jO)):=by
 by_cases hm:(l.length:Int)<=m;rw[zdt hm,Bool.true_and];have d:∀j (hj:j<l.length),jO l[j]=false->l.all jO=false:=λj hj q=>by
  rw[<-znt,zal]
  intro z
  rw[z _ (zgm hj)]at q;cases q
 have g:(∀j (hj:j<l.length),jO l[j]=true)->l.all jO=true:=λq=>by
  rw[zal]
  intro v hv
  obtain⟨j,hj,rfl⟩:=zgo hv
  exact q j hj
 generalize l.all jO=A at*;refine pF func10 rfl λst=>?_
 focus(repeat' first|apply wZ;rfl|constructor|simp<;>omega|intro h;simp at h)
 refine aC (X:={x:Nat//x<=l.length/\∀j (hj:j<l.length),j<x->jO l[j]=true}) (λi=>(((St.nil 24 st).pv 0 (.seq (l.map Ot.z))).pv 5 (vi (i.1:Nat)))) (λi=>l.length-i.1) ⟨0,by omega,by omega⟩ ?_ λi=>?_;rotate_left;have⟨i,hi,r⟩:=i;dsimp only;by_cases t:l.length<=i;have e:=g λj hj=>r j hj (by omega);rotate_left;have f:i<l.length:=by omega
 have hf:=awS l[i] (p _ (zgm f));have d:=d i f;have a:jO l[i]=true->∀j (hj:j<l.length),j<i+1->jO l[j]=true:=λq j hj k=>by
  rcases zls.1 k with z|z
  ·exact r j hj z
  ·subst z;exact q
 generalize jO l[i]=F at*;rcases F with _|_
 have e:=d rfl;rotate_left;have a:=a rfl;rotate_left;rw[zdj hm,Bool.false_and];refine pF func10 rfl λst=>?_
 all_goals (repeat' first|refine⟨⟨i+1,by omega,a⟩,?_,?_⟩|apply wZ;rfl|omega|constructor|apply hf|show(_:PV)=_;rw[e];done|apply wY;rfl|apply wI;rfl|apply gE;omega|simp<;>omega|intro h;simp at h)
theorem ScK.of(h:fewC s b=true)(d:ScB s)(e:∀t∈s,tH t):ScK s/\OpW 0 b:=by
 have a:=CkB.of h d e;refine⟨⟨a.sb,a.len,a.n,a.chk⟩,aNr ?_⟩;unfold fewC at h
 grind
end
end Go.Proofs.YtigmnfepdlbcpaaGreatDoor
