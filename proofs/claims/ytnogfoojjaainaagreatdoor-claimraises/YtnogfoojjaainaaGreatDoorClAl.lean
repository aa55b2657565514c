import Derived.Test.YtnogfoojjaainaaGreatDoorClAk
import Derived.Test.YtnogfoojjaainaaGreatDoorClAd
import Derived.Test.YtnogfoojjaainaaGreatDoorClAe
import Derived.Test.YtnogfoojjaainaaGreatDoorClAf
import Derived.Test.YtnogfoojjaainaaGreatDoorClAj
set_option linter.unusedSimpArgs false
set_option linter.unusedVariables false
namespace Go.Proofs.YtnogfoojjaainaaGreatDoor
open Go Go.Abs
attribute [local irreducible] Ev PWp
set_option maxRecDepth 10000
set_option maxHeartbeats 4000000
theorem aBX(s:Sc)(t:Tb)(k:Nat)(hu:t.foreign.length<200000000000000)(hk:k<t.foreign.length):PF Tryz.prog 236 [.agg (scC s), .agg t.cells,vi (k:Nat)] (vi (uQ s.length t k)):=by
 have hh:=sN t t.foreign[k].col;have e:uQ s.length t k=afT (gP t t.foreign[k].col) (decide (t.foreign[k].table<0)||decide (t.foreign[k].table>=s.length)) (decide (0<k)&&decide (t.foreign[k].col<=(t.foreign[k-1]'(by omega)).col)) (decide (t.foreign[k].act<0)||decide (t.foreign[k].act>2)) (gH (fK t t.foreign[k].col)) (decide (t.foreign[k].act=2)&& !(fK t t.foreign[k].col).null):=by
  unfold uQ;rw[getElem!_pos t.foreign k hk,getElem!_pos t.foreign (k-1) (by omega)]
 rw[e];unfold afT;cases hc:gP t t.foreign[k].col with
 |false=>
  rw[hc]at hh;refine pF Tryz.func236 rfl λst=>?_
  (repeat' first|apply wZ;rfl|show Cn _;constructor|exact rfl|apply hh|apply wY;rfl|apply wI;rfl|apply gE;omega)
 |true=>
 obtain⟨j,c,hj,a⟩:=sF hc;rw[hc,a]at hh;rw[a];generalize gH t.cols[j]=N at*;rcases Nat.eq_zero_or_pos k with rfl|d
 refine pF Tryz.func236 rfl λst=>?_;rotate_left;refine pF Tryz.func236 rfl λst=>?_;rotate_left
 all_goals (repeat' first|apply iX;(intro hw;exact(show _=((0:Nat):Int)from by exact(kJ hw).elim));(apply gE;omega);rfl|apply iX;(intro hw;exact(show _=((j:Nat):Int)from by omega));(apply gE;omega);rfl|apply iX;(intro hw;exact(show _=(((k-1:Nat)):Int)from by omega));(apply gE;omega);rfl|apply wZ;rfl|show Cn _;constructor|exact rfl|apply KR.mk;kernel_rfl|apply hh|show(_:PV)=_;(congr 2;grind);done|apply wY;rfl|apply wI;rfl|apply gE;omega|omega|intro h;simp at h)
theorem aAC(t:Tb)(k:Nat)(hu:t.sums.length<200000000000000)(hk:k<t.sums.length):PF Tryz.prog 237 [.agg t.cells,vi (k:Nat)] (vi (tE t k)):=by
 have l:=sN t t.sums[k].col;have m:=sN t t.sums[k].by_;have e:tE t k=afM (gP t t.sums[k].col&&gP t t.sums[k].by_) ((decide (t.sums[k].col=t.sums[k].by_)||decide (t.sums[k].max<0))||decide (t.sums[k].max>1099511627776)) (gH (fK t t.sums[k].col)&&gH (fK t t.sums[k].by_)) ((t.sums.take k).any λy=>decide (y.col=t.sums[k].col)&&decide (y.by_=t.sums[k].by_)):=by
  unfold tE;rw[getElem!_pos t.sums k hk]
 rw[e];unfold afM;generalize gP t t.sums[k].col=H at*;generalize gP t t.sums[k].by_=I at*;generalize gH (fK t t.sums[k].col)=N at*;generalize gH (fK t t.sums[k].by_)=M at*;refine pF Tryz.func237 rfl λst=>?_
 focus(repeat' first|apply wZ;rfl|show Cn _;constructor|exact rfl|(first|apply l|apply m)|show(_:PV)=_;(congr 2;grind);done|apply wY;rfl|apply wI;rfl|apply gE;omega|intro h;simp at h)
 refine aC (X:={x:Nat//x<=k/\∀j (h:j<t.sums.length),j<x->¬(t.sums[j].col=t.sums[k].col/\t.sums[j].by_=t.sums[k].by_)}) (λi=>(((((St.nil 82 st).pv 1 (vi (k:Nat))).var 2 57 (t.cells)).var 5 74 (t.sums[k].cells)).pv 10 (vi (i.1:Nat)))) (λi=>k-i.1) ⟨0,by omega,by omega⟩ ?_ λi=>?_
 ·repeat' first|show Cn _;constructor|exact rfl
 obtain⟨i,hi,f⟩:=i;dsimp only;by_cases g:k<=i;have ha:((t.sums.take k).any λy=>decide (y.col=t.sums[k].col)&&decide (y.by_=t.sums[k].by_))=false:=by
  rw[<-Bool.not_eq_true,List.any_eq_true];rintro⟨x,hx,a⟩;obtain⟨j,hj,rfl⟩:=zgo hx;rw[zlt]at hj;rw[List.getElem_take,zba,zde,zde]at a;exact f j (by omega) (by omega) a
 rw[ha];rotate_left;have o:i<t.sums.length:=by omega
 by_cases hq:t.sums[i].col=t.sums[k].col/\t.sums[i].by_=t.sums[k].by_;have ha:((t.sums.take k).any λy=>decide (y.col=t.sums[k].col)&&decide (y.by_=t.sums[k].by_))=true:=List.any_eq_true.2 ⟨t.sums[i],List.mem_iff_getElem.2 ⟨i,by rw[zlt];omega,by rw[List.getElem_take]⟩,by rw[zba,zde,zde];exact hq⟩;rw[ha];rotate_left;have d:∀j (h:j<t.sums.length),j<i+1->¬(t.sums[j].col=t.sums[k].col/\t.sums[j].by_=t.sums[k].by_):=λj hj c=>by
  rcases zls.1 c with w|w
  ·exact f j hj w
  ·subst w;exact hq
 rotate_left
 all_goals (repeat' first|refine⟨⟨i+1,by omega,d⟩,?_,?_⟩|apply wZ;rfl|show Cn _;constructor|exact rfl|apply KR.mk;kernel_rfl|show(_:PV)=_;(congr 2;grind);done|apply wI;rfl|apply gE;omega|omega|simp only[zql];omega|intro h;simp at h;omega|intro h;simp at h)
theorem qR{a:Int}{l:List Int}(h:a≠0):orI (a::l)=a:=by rw[orI,zn h]
theorem uS{a:Int}{l:List Int}(h:a=0):orI (a::l)=orI l:=by rw[orI,zp h]
theorem up0{f:Nat->Int}{i:Nat}(a:∀j<i,f j=0)(h:f i=0):∀j<i+1,f j=0:=λj hj=>by
 rcases zls.1 hj with q|q
 ·exact a j q
 ·subst q;exact h
def aCU(m:Nat)(t:Tb):Int:=orI [lk2 t,lk3 t,lk4 t,lk5 m t,lk6 t]
theorem arM(s:Sc)(t:Tb)(hB:TbB t)(hc:0<t.cols.length):PF Tryz.prog 163 [.agg (scC s), .agg t.cells] (vi (aCU s.length t)):=by
 have b1:=hB.c;have b2:=hB.u;have C:=hB.f;have D:=hB.s;unfold aCU;refine pF Tryz.func163 rfl λst=>?_
 focus(repeat' first|apply wZ;rfl|show Cn _;constructor)
 refine aC (X:={x:Nat//x<=t.cols.length/\∀j<x,tG t j=0}) (λi=>((((St.nil 87 st).var 2 24 (scC s)).var 3 57 (t.cells)).pv 5 (vi (i.1:Nat)))) (λi=>t.cols.length-i.1) ⟨0,by omega,by omega⟩ ?_ λi=>?_
 ·repeat' first|show Cn _;constructor|exact rfl
 obtain⟨i,hi,r⟩:=i;dsimp only;by_cases l:i<t.cols.length;have hs:=aCl t i b1 l;have q:tG t i≠0->orI [lk2 t,lk3 t,lk4 t,lk5 s.length t,lk6 t]=tG t i:=λh=>by
  have e:lk2 t=tG t i:=lP l h r
  rw[qR (by rw[e];exact h),e]
 have F:=λh=>up0 r h;generalize tG t i=E at*;rotate_left;have z2:lk2 t=0:=lR λj hj=>r j (by omega);rw[uS z2];have k:lk3 t=if gH t.cols[0]=false\/t.cols[0].null=true then 6 else 0:=by unfold lk3;rw[getElem!_pos t.cols 0 hc]
 by_cases hk:gH t.cols[0]=false\/t.cols[0].null=true;rw[zp hk]at k;rw[qR (by rw[k];decide),k];unfold gH at hk;simp only[Bool.and_eq_false_iff,decide_eq_false_iff_not]at hk;rotate_left;rw[zn hk]at k;rw[uS k];unfold gH at hk;simp only[Bool.and_eq_false_iff,decide_eq_false_iff_not]at hk
 focus(repeat' first|apply wZ;rfl|show Cn _;constructor|exact rfl|apply wI;rfl|apply gE;omega|simp only[zql];omega|exfalso;grind|intro h;simp at h)
 refine aC (X:={x:Nat//x<=t.unique.length/\∀j<x,sX t j=0}) (λy=>((((St.nil 87 st).var 2 24 (scC s)).var 3 57 (t.cells)).pv 7 (vi (y.1:Nat)))) (λy=>t.unique.length-y.1) ⟨0,by omega,by omega⟩ ?_ λy=>?_
 ·repeat' first|show Cn _;constructor|exact rfl
 obtain⟨y,hy,d⟩:=y;dsimp only;by_cases o:y<t.unique.length;have hs:=aBz t y b1 b2 o;have q:sX t y≠0->orI [lk4 t,lk5 s.length t,lk6 t]=sX t y:=λh=>by
  have e:lk4 t=sX t y:=lP o h d
  rw[qR (by rw[e];exact h),e]
 have v:=λh=>up0 d h;generalize sX t y=E at*;rotate_left;rw[uS (show lk4 t=0 from lR λj hj=>d j (by omega))]
 focus(repeat' first|apply wZ;rfl|show Cn _;constructor|simp only[zql];omega|intro h;simp at h)
 refine aC (X:={x:Nat//x<=t.foreign.length/\∀j<x,uQ s.length t j=0}) (λz=>((((St.nil 87 st).var 2 24 (scC s)).var 3 57 (t.cells)).pv 9 (vi (z.1:Nat)))) (λz=>t.foreign.length-z.1) ⟨0,by omega,by omega⟩ ?_ λz=>?_
 ·repeat' first|show Cn _;constructor|exact rfl
 obtain⟨z,hz,g⟩:=z;dsimp only;by_cases p:z<t.foreign.length;have hs:=aBX s t z C p;have q:uQ s.length t z≠0->orI [lk5 s.length t,lk6 t]=uQ s.length t z:=λh=>by
  have e:lk5 s.length t=uQ s.length t z:=lP p h g
  rw[qR (by rw[e];exact h),e]
 have A:=λh=>up0 g h;generalize uQ s.length t z=E at*;rotate_left;rw[uS (show lk5 s.length t=0 from lR λj hj=>g j (by omega))]
 focus(repeat' first|apply wZ;rfl|show Cn _;constructor|simp only[zql];omega|intro h;simp at h)
 refine aC (X:={x:Nat//x<=t.sums.length/\∀j<x,tE t j=0}) (λw=>(((St.nil 87 st).var 3 57 (t.cells)).pv 11 (vi (w.1:Nat)))) (λw=>t.sums.length-w.1) ⟨0,by omega,by omega⟩ ?_ λw=>?_
 ·repeat' first|show Cn _;constructor|exact rfl
 obtain⟨w,hw,a⟩:=w;dsimp only;by_cases m:w<t.sums.length;have hs:=aAC t w D m;have q:tE t w≠0->orI [lk6 t]=tE t w:=λh=>by
  have e:lk6 t=tE t w:=lP m h a
  rw[qR (by rw[e];exact h),e]
 have B:=λh=>up0 a h;generalize tE t w=E at*;rotate_left;rw[uS (show lk6 t=0 from lR λj hj=>a j (by omega))];rotate_left
 all_goals (repeat' first|((first|refine⟨⟨i+1,by omega,F ‹_›⟩,?_,by simp only;omega⟩|refine⟨⟨y+1,by omega,v ‹_›⟩,?_,by simp only;omega⟩|refine⟨⟨z+1,by omega,A ‹_›⟩,?_,by simp only;omega⟩|refine⟨⟨w+1,by omega,B ‹_›⟩,?_,by simp only;omega⟩);focus((repeat' first|show Cn _;constructor|exact rfl);done))|apply wZ;rfl|show Cn _;constructor|exact rfl|apply hs|show(_:PV)=_;((rw[q ‹_›]);done);done|apply wY;rfl|apply wI;rfl|apply gE;omega|omega|simp only[zql];omega|exfalso;grind|intro h;simp at h|intro h)
theorem aoL(s:Sc)(k:Nat)(hl:s.length<200000000000000)(hk:k<s.length)(hB:TbB s[k]):PF Tryz.prog 90 [.agg (scC s),vi (k:Nat)] (vi (tD s k)):=by
 have b1:=hB.c;have b2:=hB.u;have z:=hB.f;have A:=hB.s;have B:=hB.k;have hn:=afK s[k].name;have hp:=arM s s[k] hB;have e:tD s k=orI [lk0 s k,lk1 s[k],lk2 s[k],lk3 s[k],lk4 s[k],lk5 s.length s[k],lk6 s[k]]:=by unfold tD lks;rw[getElem!_pos s k hk]
 rw[e];have h0:lk0 s k=if pY s[k].name=false then 1 else if asN s k=true then 5 else 0:=by unfold lk0;rw[getElem!_pos s k hk]
 have a:asN s k=(s.take k).any λt=>decide (t.name=s[k].name):=by unfold asN;rw[getElem!_pos s k hk]
 cases l:pY s[k].name with
 |false=>
  rw[l,zp rfl]at h0;rw[l]at hn;rw[qR (by rw[h0];decide),h0];refine pF Tryz.func90 rfl λst=>?_
  (repeat' first|apply wZ;rfl|show Cn _;constructor|exact rfl|apply hn|apply wY;rfl|apply wI;rfl|apply gE;omega)
 |true=>
 rw[l,zn (by simp)]at h0;rw[l]at hn;refine pF Tryz.func90 rfl λst=>?_
 focus(repeat' first|apply wZ;rfl|show Cn _;constructor|exact rfl|apply hn|apply wY;rfl|apply wI;rfl|apply gE;omega)
 refine aC (X:={x:Nat//x<=k/\∀j (h:j<s.length),j<x->s[j].name≠s[k].name}) (λi=>(((((St.nil 67 st).pv 1 (vi (k:Nat))).var 2 24 (scC s)).var 5 57 (s[k].cells)).pv 6 (vi (i.1:Nat)))) (λi=>k-i.1) ⟨0,by omega,by omega⟩ ?_ λi=>?_
 ·repeat' first|show Cn _;constructor|exact rfl
 obtain⟨i,hi,r⟩:=i;dsimp only;by_cases v:¬k<=i;have y:i<s.length:=by omega
 by_cases hq:s[i].name=s[k].name;have ha:asN s k=true:=by rw[a];exact List.any_eq_true.2 ⟨s[i],List.mem_iff_getElem.2 ⟨i,by rw[zlt];omega,by rw[List.getElem_take]⟩,by rw[zde];exact hq⟩
 rw[zp ha]at h0;rw[qR (by rw[h0];decide),h0];rotate_left;have p:∀j (h:j<s.length),j<i+1->s[j].name≠s[k].name:=λj hj m=>by
  rcases zls.1 m with w|w
  ·exact r j hj w
  ·subst w;exact hq
 rotate_left;have ha:asN s k=false:=by
  rw[a,<-Bool.not_eq_true,List.any_eq_true];rintro⟨x,hx,d⟩;obtain⟨j,hj,rfl⟩:=zgo hx;rw[zlt]at hj;rw[List.getElem_take,zde]at d;exact r j (by omega) (by omega) d
 rw[zn (by rw[ha];simp)]at h0;rw[uS h0];by_cases q:s[k].cols.length<1\/s[k].cols.length>16\/s[k].checks.length>16\/s[k].unique.length>16\/s[k].foreign.length>16\/s[k].sums.length>16;have g:lk1 s[k]=2:=by unfold lk1;rw[zp q]
 rw[qR (by rw[g];decide),g];rotate_left;have g:lk1 s[k]=0:=by unfold lk1;rw[zn q]
 rw[uS g];have o:=hp (by omega);rotate_left
 all_goals (repeat' first|refine⟨⟨i+1,by omega,p⟩,?_,?_⟩|apply wZ;rfl|show Cn _;constructor|exact rfl|apply KR.mk;kernel_rfl|apply o|apply wY;rfl|apply wI;rfl|apply gE;omega|omega|simp only[zql];omega|exfalso;grind|intro h;simp at h;omega|intro h;simp at h|intro h)
theorem wW(s:Sc)(hl:s.length<200000000000000)(hB:∀t∈s,TbB t):PF Tryz.prog 48 [.agg (scC s)] (vi (bT s)):=by
 unfold bT;by_cases c:s.length<1\/s.length>16
 ·rw[zp c]
  refine pF Tryz.func48 rfl λst=>?_
  repeat' first|apply wZ;rfl|show Cn _;constructor|exact rfl|intro h;simp at h;omega|intro h;simp at h
 rw[zn c];refine pF Tryz.func48 rfl λst=>?_
 focus(repeat' first|apply wZ;rfl|show Cn _;constructor|intro h;simp at h;omega|intro h;simp at h)
 refine aC (X:={x:Nat//x<=s.length/\∀j<x,tD s j=0}) (λi=>(((St.nil 28 st).var 1 24 (scC s)).pv 3 (vi (i.1:Nat)))) (λi=>s.length-i.1) ⟨0,by omega,by omega⟩ ?_ λi=>?_
 ·repeat' first|show Cn _;constructor|exact rfl
 obtain⟨i,hi,d⟩:=i;dsimp only;by_cases a:i<s.length;have hs:=aoL s i hl a (hB _ (zgm a));have f:tD s i≠0->dZ (tD s) s.length=tD s i:=λh=>lP a h d;have g:=λh=>up0 d h;generalize tD s i=E at*;rotate_left;have e:dZ (tD s) s.length=0:=lR λj hj=>d j (by omega);rotate_left
 all_goals (repeat' first|refine⟨⟨i+1,by omega,g ‹_›⟩,?_,?_⟩|apply wZ;rfl|show Cn _;constructor|exact rfl|apply hs|show(_:PV)=_;(first|(rw[f ‹_›]);done|(rw[e]);done);done|apply wY;rfl|omega|simp only[zql];omega|intro h;simp at h|intro h)
theorem avJ(c:Cl)(hl:c.parts.length<1000000000000):PF Tryz.prog 91 [.agg c.cells] (vb (iR T.rightP c)):=by
 have a:=akN c (by omega);have e:=ajZ c (by omega);have hv:=oW c.val;have d:=wU c;have h4:=T.rright_spec c hl;unfold iR;generalize cE c.val=A at*;generalize jA c=B at*;generalize bV c=C at*;generalize gQ c=D at*;generalize T.rightP c=E at*;refine pF Tryz.func91 rfl λst=>?_
 repeat' first|apply wZ;rfl|show Cn _;constructor|exact rfl|(first|apply hv|apply a|apply d|apply e|apply h4)|show(_:PV)=_;(simp[*];done);done|apply wY;rfl|intro h
theorem ayZ{l:List Dt}{k:Nat}(h:k<l.length)(hf:uU l k=false):mH l=false:=by unfold mH;rw[abQ h hf]
theorem awJ(l:List Dt)(hl:l.length<1000000000000):PF Tryz.prog 92 [.seq (l.map Dt.cells)] (vb (mH l)):=by
 refine pF Tryz.func92 rfl λst=>?_
 focus(repeat' first|apply wZ;rfl|show Cn _;constructor)
 refine aC (X:={x:Nat//x<=l.length/\∀j<x,uU l j=true}) (λy=>(((St.nil 55 st).pv 0 (.seq (l.map Dt.cells))).pv 3 (vi (y.1:Nat)))) (λy=>l.length-y.1) ⟨0,by omega,by omega⟩ ?_ λy=>?_
 ·repeat' first|show Cn _;constructor|exact rfl
 obtain⟨y,hy,a⟩:=y;dsimp only;by_cases f:l.length<=y;have e:mH l=true:=by unfold mH;exact rC λk hk=>a k (by omega)
 rotate_left;have c:y<l.length:=by omega
 have e:=Iff.refl (uU l y=true);by_cases h0:y=0;subst h0
 conv at e=>rhs;simp only[uU,dU,getElem!_pos l 0 c,zba,zde,decide_true,Bool.true_or,and_true]
 have g:=aaR (ayZ c) e;have d:=qD a e;have ha:=oE l[0] l[0];rotate_left;obtain⟨k,rfl⟩:∃k,y=k+1:=⟨y-1,by omega⟩;have hd:=oE l[k+1] l[k]
 conv at e=>rhs;simp only[uU,dU,getElem!_pos l (k+1) c,show k+1-1=k from rfl,getElem!_pos l k (by omega),zba,zde,Bool.or_eq_true,h0,false_or]
 have g:=aaR (ayZ c) e;have d:=qD a e;rotate_left
 all_goals (repeat' first|apply iX;(intro hw;exact(show _=((0:Nat):Int)from by exact(kJ hw).elim));(apply gE;omega);rfl|apply iX;(intro hw;exact(show((((k+1:Nat):Int))-1=((k:Nat):Int))from by omega));(apply gE;omega);rfl|((first|refine⟨⟨1,by omega,d (by grind)⟩,?_,by simp only;omega⟩|refine⟨⟨k+2,by omega,d (by grind)⟩,?_,by simp only;omega⟩);focus((repeat' first|show Cn _;constructor|exact rfl);done))|apply wZ;rfl|show Cn _;constructor|exact rfl|apply KR.mk;kernel_rfl|(first|apply ha|apply hd)|show(_:PV)=_;(first|(rw[e]);done|(rw[g (by grind)];done);done);done|apply wY;rfl|apply wI;rfl|apply gE;omega|omega|simp only[zql];omega|intro h;simp at h)
theorem aC9{tx:Cl->Int}{t:Tb}{l:Ln}(h:0<=l.key/\l.key<1073741824/\l.cells_.length=t.cols.length)(hc:∀k<l.cells_.length,qC tx t l k=true):iT tx t l=(decide (l.cells_[0]!.val=⟨1,l.key,e0⟩)&&mH l.by_):=by
 unfold iT qB;rw[decide_eq_true h,rC hc];rfl
theorem awI(t:Tb)(l:Ln)(ht:0<t.cols.length)(hl:l.cells_.length<1000000000000/\l.by_.length<1000000000000)(hp:∀c∈l.cells_,c.parts.length<1000000000000):PF Tryz.prog 49 [.agg t.cells, .agg l.cells] (vb (iT T.rightP t l)):=by
 have hd:=awJ l.by_ hl.2;by_cases h0:¬(0<=l.key/\l.key<1073741824/\l.cells_.length=t.cols.length)
 ·rw[akZ _ (by unfold qB;rw[decide_eq_false h0];rfl)]
  refine pF Tryz.func49 rfl λst=>?_
  repeat' first|apply wZ;rfl|show Cn _;constructor|exact rfl|intro h;simp at h;omega|intro h;simp at h
 replace h0:=zdn h0
 obtain⟨m,o,p⟩:=h0;have d:(decide (l.cells_[0].val.kind=1)&&(decide (l.cells_[0].val.n=l.key)&&decide (l.cells_[0].val.s=e0)))=decide (l.cells_[0].val=⟨1,l.key,e0⟩):=by rw[Bool.eq_iff_iff];simp[Vl.ext_iff]
 refine pF Tryz.func49 rfl λst=>?_
 focus(repeat' first|apply wZ;rfl|show Cn _;constructor|intro h;simp at h;omega|intro h;simp at h)
 refine aC (X:={x:Nat//x<=l.cells_.length/\∀j<x,qC T.rightP t l j=true}) (λi=>((((St.nil 66 st).var 2 57 (t.cells)).var 3 106 (l.cells)).pv 5 (vi (i.1:Nat)))) (λi=>l.cells_.length-i.1) ⟨0,by omega,by omega⟩ ?_ λi=>?_
 ·repeat' first|show Cn _;constructor|exact rfl
 obtain⟨i,hi,f⟩:=i;dsimp only;by_cases g:l.cells_.length<=i;have e:=aC9 (tx:=T.rightP) ⟨m,o,p⟩ λk hk=>f k (by omega);rw[getElem!_pos l.cells_ 0 (by omega),<-d]at e;rotate_left;have a:i<l.cells_.length:=by omega
 have hc:=avJ l.cells_[i] (hp _ (zgm a));have e:=Iff.refl (qC T.rightP t l i=true)
 conv at e=>rhs;simp only[qC,getElem!_pos l.cells_ i a,getElem!_pos t.cols i (show i<t.cols.length by omega),zba,zde]
 have q:=aaR (azQ T.rightP (t:=t) a) e;have r:=qD f e;rotate_left
 all_goals (repeat' first|refine⟨⟨i+1,by omega,r (by grind)⟩,?_,?_⟩|apply wZ;rfl|show Cn _;constructor|exact rfl|apply KR.mk;kernel_rfl|(first|apply hd|apply hc)|show(_:PV)=_;(first|(rw[e]);done|(rw[q (by grind)]);done);done|apply wY;rfl|apply wI;rfl|apply gE;omega|apply gE;show 0<_;omega|omega|simp only[zql];omega|intro h;simp at h)
def aH4(d:Da):Prop:=d.lines.length<1000000000000/\∀l∈d.lines,(l.cells_.length<1000000000000/\l.by_.length<1000000000000)/\∀c∈l.cells_,c.parts.length<1000000000000
theorem anY(s:Sc)(b:Bs)(hl:s.length<1000000000000)(hB:∀t∈s,TbB t)(hb:b.length<1000000000000)(hd:∀d∈b,aH4 d):PF Tryz.prog 24 [.agg (scC s), .agg (bsC b)] (vb (bC T.rightP s b)):=by
 have hs:=wW s (by omega) hB;by_cases h0:¬(bT s=0/\b.length=s.length)
 ·rw[azX _ h0]
  generalize bT s=R at*;refine pF Tryz.func24 rfl λst=>?_
  repeat' first|apply wZ;rfl|show Cn _;constructor|exact rfl|apply hs|apply wY;rfl|intro h;simp at h;omega|intro h;simp at h
 replace h0:=zdn h0
 obtain⟨o,D⟩:=h0;rw[o]at hs;refine pF Tryz.func24 rfl λst=>?_
 focus(repeat' first|apply wZ;rfl|show Cn _;constructor|apply hs|apply wY;rfl|simp only[zql];omega|intro h;simp at h)
 refine aC (X:={x:Nat//x<=b.length/\∀j<x,wR T.rightP s b j=true}) (λi=>((((St.nil 71 st).var 2 24 (scC s)).var 3 27 (bsC b)).pv 5 (vi (i.1:Nat)))) (λi=>b.length-i.1) ⟨0,by omega,by omega⟩ ?_ λi=>?_
 ·repeat' first|show Cn _;constructor|exact rfl
 obtain⟨i,hi,A⟩:=i;dsimp only;by_cases B:b.length<=i;have e:=anR T.rightP ⟨o,D⟩ λk hk=>A k (by omega);rotate_left;have g:i<b.length:=by omega
 have m:i<s.length:=by omega
 have u:=aaW o m;obtain⟨H,C⟩:=hd _ (zgm g);have e:=Iff.refl (wR T.rightP s b i=true)
 conv at e=>rhs;simp only[wR,tI,getElem!_pos s i m,getElem!_pos b i g,zba,zde,nQ]
 have z:=aaR (azA T.rightP (s:=s) g) e;have E:=qD A e;by_cases p:¬b[i].lines.length<=2000;have r:=z λq=>p q.1;rotate_left
 all_goals (repeat' first|apply wZ;rfl|show Cn _;constructor|exact rfl|show(_:PV)=_;(first|(rw[e]);done|(rw[r]);done);done|apply wI;rfl|apply gE;omega|simp only[zql];omega|intro h;simp at h)
 focus(repeat'(fail))
 refine aC (X:={x:Nat//x<=b[i].lines.length/\∀j<x,lnR T.rightP s[i] b[i].lines j=true}) (λy=>((((((St.nil 71 st).var 2 24 (scC s)).var 3 27 (bsC b)).pv 5 (vi (i:Nat))).pv 6 (.seq (b[i].lines.map Ln.cells))).pv 7 (vi (y.1:Nat)))) (λy=>b[i].lines.length-y.1) ⟨0,by omega,by omega⟩ ?_ λy=>?_
 ·repeat' first|show Cn _;constructor|exact rfl
 obtain⟨y,hy,l⟩:=y;dsimp only;by_cases v:b[i].lines.length<=y;rotate_left;have a:y<b[i].lines.length:=by omega
 obtain⟨F,G⟩:=C _ (zgm a);have w:=awI s[i] b[i].lines[y] u F G;have e:=Iff.refl (lnR T.rightP s[i] b[i].lines y=true);have c:=λh:¬lnR T.rightP s[i] b[i].lines y=true=>z λq=>h (q.2 y a);by_cases h0:y=0;subst h0
 conv at e=>rhs;simp only[lnR,getElem!_pos b[i].lines 0 a,decide_true,Bool.true_or,Bool.and_true]
 have f:=qD l e;rw[e]at c;rotate_left;obtain⟨k,rfl⟩:∃k,y=k+1:=⟨y-1,by omega⟩
 conv at e=>rhs;simp only[lnR,getElem!_pos b[i].lines (k+1) a,show k+1-1=k from rfl,getElem!_pos b[i].lines k (by omega),zba,zde,Bool.or_eq_true,h0,false_or]
 have f:=qD l e;rw[e]at c;rotate_left
 all_goals (repeat' first|apply iX;(intro hw;exact(show _=((0:Nat):Int)from by exact(kJ hw).elim));(apply gE;omega);rfl|apply iX;(intro hw;exact(show((((k+1:Nat):Int))-1=((k:Nat):Int))from by omega));(apply gE;omega);rfl|((first|refine⟨⟨i+1,by omega,E ⟨by omega,λk hk=>l k (by omega)⟩⟩,?_,by simp only;omega⟩|refine⟨⟨1,by omega,f (by grind)⟩,?_,by simp only;omega⟩|refine⟨⟨k+2,by omega,f (by grind)⟩,?_,by simp only;omega⟩);focus((repeat' first|show Cn _;constructor|exact rfl);done))|apply wZ;rfl|show Cn _;constructor|exact rfl|apply KR.mk;kernel_rfl|apply w|show(_:PV)=_;(rw[c (by grind)]);done|apply wY;rfl|apply wI;rfl|apply gE;omega|omega|simp only[zql];omega|intro h;simp at h)
theorem BsS.dar{n:Nat}{b:Bs}(h:BsS n b)(hn:n<=1000):∀d∈b,aH4 d:=λd hd=>by
 obtain⟨f,a⟩:=h.2 d hd
 refine⟨by omega,λl hl=>?_⟩
 obtain⟨g,i,e⟩:=a l hl
 exact⟨⟨by omega,by omega⟩,λc hc=>by have:=e c hc;omega⟩
theorem iM{n:Nat}{b:Bs}(h:BsS n b)(hn:n<=1000){s:Sc}(hs:ScB s)(hl:s.length<=20):PF Tryz.prog 24 [.agg (scC s), .agg (bsC b)] (vb (bC T.rightP s b)):=
 anY s b (by omega) hs (by have:=h.1;omega) (h.dar hn)
theorem arK(c:Cl)(hl:c.parts.length<1000000000000):PF Tryz.prog 242 [.agg c.cells] (.agg (acU c).cells):=by
 rw[aA5];refine pF Tryz.func242 rfl λst=>?_
 focus(repeat' first|apply wZ;rfl|show Cn _;constructor)
 refine aC (X:={x:Nat//x<=c.parts.length}) (λi=>(((((St.nil 32 st).var 1 116 (c.cells)).var 2 60 ([vi 0,vi 0,vs e0])).var 3 60 ((abB c.parts i.1).cells)).pv 4 (vi (i.1:Nat)))) (λi=>c.parts.length-i.1) ⟨0,by omega⟩ ?_ λi=>?_
 ·repeat' first|show Cn _;constructor|exact rfl
 obtain⟨i,hi⟩:=i;dsimp only;by_cases e:c.parts.length<=i
 ·obtain rfl:i=c.parts.length:=by omega
  repeat' first|apply wZ;rfl|show Cn _;constructor|exact rfl|simp only[zql];omega|intro h;simp at h
 have d:i<c.parts.length:=by omega
 have hx:abB c.parts (i+1)=if i=0\/cU (abB c.parts i) c.parts[i].val=true then c.parts[i].val else abB c.parts i:=by
  show(if _ then _ else _)=_;rw[getElem!_pos c.parts i d]
 have a:=oQ (abB c.parts i) c.parts[i].val;generalize abB c.parts i=M at*;generalize cU M c.parts[i].val=B at*;by_cases h0:i=0
 ·rw[zp (.inl h0)]at hx
  repeat' first|refine⟨⟨i+1,by omega⟩,?_,?_⟩;(dsimp only;rw[hx])|apply wZ;rfl|show Cn _;constructor|exact rfl|apply KR.mk;kernel_rfl|apply a|apply wY;rfl|apply wI;rfl|apply gE;omega|omega|simp only[zql];omega|intro h;simp at h;omega|intro h;simp at h
 cases B with
 |true=>
  rw[zp (.inr rfl)]at hx
  (repeat' first|refine⟨⟨i+1,by omega⟩,?_,?_⟩;(dsimp only;rw[hx])|apply wZ;rfl|show Cn _;constructor|exact rfl|apply KR.mk;kernel_rfl|apply a|apply wY;rfl|apply wI;rfl|apply gE;omega|omega|simp only[zql];omega|intro h;simp at h;done|intro h;simp at h)
 |false=>
  rw[zn (by simp[h0])]at hx
  repeat' first|refine⟨⟨i+1,by omega⟩,?_,?_⟩;(dsimp only;rw[hx])|apply wZ;rfl|show Cn _;constructor|exact rfl|apply KR.mk;kernel_rfl|apply a|apply wY;rfl|apply wI;rfl|apply gE;omega|omega|simp only[zql];omega|intro h;simp at h;omega|intro h;simp at h
theorem aDv(c:Cl)(hl:c.parts.length<1000000000)(st:aD):PC Tryz.prog 305 [.agg c.cells] st λr S=>∃id,r= .vec id 1 0 (abE (fP c).toArray)/\st id=none/\∃o,S=upd st id (some o):=by
 refine pC Tryz.func305 rfl ?_
 focus(repeat' first|apply wZ;rfl|show Cn _;constructor)
 refine eC 3 3 1 rfl rfl rfl λid a=>?_;refine aC (X:={x:Nat×List Int×Nat//Found (fP c).toArray c.parts.length x.1 x.2.1/\st x.2.2=none}) (λi=>(((St.nil 59 (upd st i.1.2.2 (some (.arr 3 (i.1.2.1.map I1))))).var 1 116 (c.cells)).pv 3 (.vec i.1.2.2 1 0 i.1.2.1.length))) (λi=>c.parts.length-i.1.1) ⟨(0,[],id),Found.zero,a⟩ ?_ λi=>?_
 ·dsimp only
  repeat' first|show Cn (.t _ _);exact Cn.t0|show Cn _;constructor|exact rfl
 obtain⟨⟨p,out,id⟩,w,a⟩:=i;simp only at w a;dsimp only;have I:=w.short;have d:=w.go
 focus(repeat' first|apply wZ;rfl|show Cn _;constructor|simp only[zql];omega|intro h;simp at h)
 refine aC (X:={x:Nat//x<=c.parts.length}) (λy=>((((((St.nil 59 (upd st id (some (.arr 3 (out.map I1))))).var 1 116 (c.cells)).pv 3 (.vec id 1 0 out.length)).pv 4 (vb ((mnI out c.parts y.1).1))).pv 5 (vi ((mnI out c.parts y.1).2))).pv 6 (vi (y.1:Nat)))) (λy=>c.parts.length-y.1) ⟨0,by omega⟩ ?_ λy=>?_
 ·dsimp only
  repeat' first|show Cn (.t _ _);exact Cn.t0|show Cn _;constructor|exact rfl
 obtain⟨y,hy⟩:=y;dsimp only;by_cases E:c.parts.length<=y
 ·obtain rfl:y=c.parts.length:=by omega
  generalize mnI out c.parts c.parts.length=M at*;obtain⟨m,l⟩:=M;dsimp only at*;cases m with
  |false=>
   have e:=d.1 rfl
   (repeat' first|show Cn (.r _ _ _);refine .rr ?_;(exact⟨id,by rw[e],a,_,rfl⟩);done|apply wZ;rfl|show Cn _;constructor|simp only[zql];omega|intro h;simp at h)
  |true=>
   obtain⟨q,hq,k⟩:=d.2 rfl;have H:=w.le;have G:=k.le;have e:(out++[l]).length=out.length+1:=by simp
   repeat' first|refine⟨⟨(q,out++[l],C),k,cG u⟩,?_,?_⟩;(dsimp only;try rw[e])|show Cn (.t _ _);exact .any (bI ‹_›)|apply wZ;rfl|show Cn _;constructor|exact rfl|apply apV pk (f:=I1) [l] 8;(iterate 9 rfl);(exact aA _ _ _);(omega);exactλ_=>rfl;exactλ_=>rfl;exact kQ;(focus(simp;omega));(focus(simp;omega));rfl;intro C u|simp only[zql];omega|intro h;simp at h
 have B:y<c.parts.length:=by omega
 have hx:mnI out c.parts (y+1)=if(tU out c.parts[y].val.n&&(!(mnI out c.parts y).1||decide (c.parts[y].val.n<(mnI out c.parts y).2)))=true then(true,c.parts[y].val.n)else mnI out c.parts y:=by
  show(if _ then _ else _)=_;rw[getElem!_pos c.parts y B]
 unfold tU at hx;generalize mnI out c.parts y=M at*;obtain⟨m,l⟩:=M;dsimp only at hx;clear d;by_cases h0:out.length=0
 ·simp only[h0,decide_true,Bool.true_or,Bool.true_and]at hx
  obtain rfl:out=[]:=List.eq_nil_of_length_eq_zero h0;cases m with
  |false=>
   rw[zp (by simp)]at hx
   (repeat' first|refine⟨⟨y+1,by omega⟩,?_,?_⟩;(dsimp only;rw[hx])|show Cn (.t _ _);exact Cn.t0|apply wZ;rfl|show Cn _;constructor|exact rfl|apply ldA pk I1.elem;rfl;rfl;rotate_left;rfl;(exact aA _ _ _);(intro hw;(focus(simp[gw]at hw;done)));rfl|apply ixA pk (j:=0) (j':=0);(iterate 5 rfl);rotate_left;rfl;(intro hw;exact absurd hw (by simp[gw]));(intro hw;exact absurd hw (by simp[gw]));rfl;rfl|apply wI;rfl|apply gE;omega|omega|simp only[zql];omega|intro h;simp at h)
  |true=>
   by_cases g:c.parts[y].val.n<l
   ·rw[zp (by simp[g])]at hx
    repeat' first|refine⟨⟨y+1,by omega⟩,?_,?_⟩;(dsimp only;rw[hx])|show Cn (.t _ _);exact Cn.t0|apply wZ;rfl|show Cn _;constructor|exact rfl|apply ldA pk I1.elem;rfl;rfl;rotate_left;rfl;(exact aA _ _ _);(intro hw;(focus(simp[gw]at hw;done)));rfl|apply ixA pk (j:=0) (j':=0);(iterate 5 rfl);rotate_left;rfl;(intro hw;exact absurd hw (by simp[gw]));(intro hw;exact absurd hw (by simp[gw]));rfl;rfl|apply wI;rfl|apply gE;omega|omega|simp only[zql];omega|intro h;simp at h
   ·rw[zn (by simp[g])]at hx
    repeat' first|refine⟨⟨y+1,by omega⟩,?_,?_⟩;(dsimp only;rw[hx])|show Cn (.t _ _);exact Cn.t0|apply wZ;rfl|show Cn _;constructor|exact rfl|apply ldA pk I1.elem;rfl;rfl;rotate_left;rfl;(exact aA _ _ _);(intro hw;(focus(simp[gw]at hw;done)));rfl|apply ixA pk (j:=0) (j':=0);(iterate 5 rfl);rotate_left;rfl;(intro hw;exact absurd hw (by simp[gw]));(intro hw;exact absurd hw (by simp[gw]));rfl;rfl|apply wI;rfl|apply gE;omega|omega|simp only[zql];omega|intro h;simp at h
 ·have v:out.length-1<out.length:=by omega
  have F:((out.length:Nat):Int)-1=((out.length-1:Nat):Int):=by omega
  have z:out[out.length-1]?.getD 0=out[out.length-1]:=by rw[zgg v];rfl
  have A:out≠[]:=λq=>h0 (by rw[q];rfl);rw[decide_eq_false h0,Bool.false_or,getElem!_pos out (out.length-1) v]at hx;by_cases D:c.parts[y].val.n>out[out.length-1]
  ·rw[decide_eq_true D,Bool.true_and]at hx
   cases m with
   |false=>
    rw[zp (by simp)]at hx
    (repeat' first|refine⟨⟨y+1,by omega⟩,?_,?_⟩;(dsimp only;rw[hx])|show Cn (.t _ _);exact Cn.t0|apply wZ;rfl|show Cn _;constructor|exact rfl|apply ixA pk;(iterate 5 rfl);rotate_left;rfl;(intro hw;(exact(show _=((out.length-1:Nat):Int)from by omega)));(intro hw;(omega));rfl;(exact Nat.zero_add _)|apply ldA pk I1.elem;rfl;rfl;rotate_left;rfl;(exact aA _ _ _);(intro hw;(omega));rfl|apply wI;rfl|apply gE;omega|omega|simp only[zql];omega|intro h;simp at h;omega|intro h;simp at h)
   |true=>
    by_cases g:c.parts[y].val.n<l
    ·rw[zp (by simp[g])]at hx
     repeat' first|refine⟨⟨y+1,by omega⟩,?_,?_⟩;(dsimp only;rw[hx])|show Cn (.t _ _);exact Cn.t0|apply wZ;rfl|show Cn _;constructor|exact rfl|apply ixA pk;(iterate 5 rfl);rotate_left;rfl;(intro hw;(exact(show _=((out.length-1:Nat):Int)from by omega)));(intro hw;(omega));rfl;(exact Nat.zero_add _)|apply ldA pk I1.elem;rfl;rfl;rotate_left;rfl;(exact aA _ _ _);(intro hw;(omega));rfl|apply wI;rfl|apply gE;omega|omega|simp only[zql];omega|intro h;simp at h;omega|intro h;simp at h
    ·rw[zn (by simp[g])]at hx
     repeat' first|refine⟨⟨y+1,by omega⟩,?_,?_⟩;(dsimp only;rw[hx])|show Cn (.t _ _);exact Cn.t0|apply wZ;rfl|show Cn _;constructor|exact rfl|apply ixA pk;(iterate 5 rfl);rotate_left;rfl;(intro hw;(exact(show _=((out.length-1:Nat):Int)from by omega)));(intro hw;(omega));rfl;(exact Nat.zero_add _)|apply ldA pk I1.elem;rfl;rfl;rotate_left;rfl;(exact aA _ _ _);(intro hw;(omega));rfl|apply wI;rfl|apply gE;omega|omega|simp only[zql];omega|intro h;simp at h;omega|intro h;simp at h
  ·rw[decide_eq_false D,Bool.false_and,zn (by simp)]at hx
   repeat' first|refine⟨⟨y+1,by omega⟩,?_,?_⟩;(dsimp only;rw[hx])|show Cn (.t _ _);exact Cn.t0|apply wZ;rfl|show Cn _;constructor|exact rfl|apply ixA pk;(iterate 5 rfl);rotate_left;rfl;(intro hw;(exact(show _=((out.length-1:Nat):Int)from by omega)));(intro hw;(omega));rfl;(exact Nat.zero_add _)|apply ldA pk I1.elem;rfl;rfl;rotate_left;rfl;(exact aA _ _ _);(intro hw;(omega));rfl|apply wI;rfl|apply gE;omega|omega|simp only[zql];omega|(exfalso;rcases h.1 with q|q;exact A q;rw[z]at q;omega)|intro h;simp at h
theorem anG(c:Cl)(hl:c.parts.length<1000000000):PF Tryz.prog 244 [.agg c.cells] (.agg (amG c).cells):=by
 intro st;have hn:=aDv c hl st;refine pC Tryz.func244 rfl ?_
 repeat' first|exact Cn.any ⟨_,_,st,rfl,zwr _,aR (zsr _) hid,rfl,rfl⟩|apply cP;rfl;(apply hn);rintro _ st' (⟨id,rfl,hid,o,rfl⟩)|apply wZ;rfl|show Cn _;constructor|apply wY;rfl
theorem alG(c:Cl)(hl:c.parts.length<=1000):PF Tryz.prog 170 [.agg c.cells] (.agg (bL c).cells):=by
 have a:=arK c (by omega);have d:=aqK c;have e:=anG c (by omega);have h4:=T.rshow_spec c (by omega);unfold bL;generalize acU c=A at*;generalize aeI c=B at*;generalize amG c=C at*;generalize T.showP c=D at*;refine pF Tryz.func170 rfl λst=>?_
 repeat' first|apply wZ;rfl|show Cn _;constructor|exact rfl|(first|apply a|apply d|apply e|apply h4)|show(_:PV)=_;((repeat first|rw[zp ‹_›]|rw[zn ‹_›]);rfl);done|apply wY;rfl|intro h
theorem aFZ(l:Ln)(hl:l.cells_.length<1000000000000)(hs:∀c∈l.cells_,c.parts.length<=1000)(st:aD):PC Tryz.prog 96 [.agg l.cells] st λr S=>∃id,r= .vec id 3 0 l.cells_.length/\st id=none/\S=upd st id (some (.arr 60 ((l.cells_.map bL).map Vl.cells))):=by
 refine pC Tryz.func96 rfl ?_
 repeat' first|apply wZ;rfl|show Cn _;constructor
 refine eC 3 60 3 rfl rfl rfl λid a=>?_;refine aC (X:={x:Nat×Nat//x.1<=l.cells_.length/\st x.2=none}) (λi=>((((St.nil 22 (upd st i.1.2 (some (.arr 60 (((l.cells_.map bL).take i.1.1).map Vl.cells))))).var 1 106 (l.cells)).pv 3 (.vec i.1.2 3 0 i.1.1)).pv 4 (vi (i.1.1:Nat)))) (λi=>l.cells_.length-i.1.1) ⟨(0,id),by simp,a⟩ ?_ λi=>?_
 ·dsimp only
  repeat' first|show Cn (.t _ _);exact Cn.t0|show Cn _;constructor|exact rfl
 obtain⟨⟨i,id⟩,hi,a⟩:=i;simp only at hi a;dsimp only;by_cases k:l.cells_.length<=i
 ·have e:(l.cells_.map bL).take i=l.cells_.map bL:=ztl (by simp;omega)
  obtain rfl:i=l.cells_.length:=by omega
  repeat' first|show Cn (.r _ _ _);refine .rr ?_;(exact⟨id,rfl,a,by rw[e];rfl⟩);done|apply wZ;rfl|show Cn _;constructor|simp only[zql];omega|intro h;simp at h
 have j:i<l.cells_.length:=by omega
 have hc:=alG l.cells_[i] (hs _ (zgm j));have e:(l.cells_.map bL).take (i+1)=(l.cells_.map bL).take i++[bL l.cells_[i]]:=by rw[List.take_succ_eq_append_getElem (by simpa using j)];simp
 generalize bL l.cells_[i]=V at*
 repeat' first|refine⟨⟨(i+1,g),by simp only;omega,cG d⟩,?_,?_⟩;(dsimp only;try rw[e])|show Cn (.t _ _);exact .any (bI ‹_›)|apply wZ;rfl|show Cn _;constructor|exact rfl|apply hc|apply apV pk (f:=Vl.cells) [V] 32;(iterate 9 rfl);(exact aA _ _ _);(focus(simp;omega));exactλ_=>rfl;exactλ_=>rfl;exact amD;(focus(simp;omega));(focus(simp;omega));rfl;intro g d|apply wY;rfl|apply wI;rfl|apply gE;omega|omega|simp only[zql];omega|intro h;simp at h
theorem arI(l:Ln)(hl:l.cells_.length<1000000000000)(hs:∀c∈l.cells_,c.parts.length<=1000):PF Tryz.prog 96 [.agg l.cells] (.seq ((l.cells_.map bL).map Vl.cells)):=λst=>
 fD (sz:=3) (aFZ l hl hs st) λp st' h=>by
  obtain⟨id,rfl,a,rfl⟩:=h
  exact .inl ⟨id,60,(l.cells_.map bL).map Vl.cells,_,st,aA _ _ _,sK,eQ (by simp),bU a,rfl,rfl⟩
theorem aCj(b:Bs)(k:Int)(hl:(aF b k).length<1000000000000)(hs:∀l∈aF b k,l.cells_.length<1000000000000/\∀c∈l.cells_,c.parts.length<=1000)(st:aD):PC Tryz.prog 53 [.agg (bsC b),vi k] st λr S=>∃id,r= .vec id 1 0 (aF b k).length/\st id=none/\S=upd st id (some (.arr 67 ((cT bL b k).map roC))):=by
 have ho:=afL b k;unfold cT;generalize aF b k=L at*;refine pC Tryz.func53 rfl ?_
 focus(repeat' first|apply wZ;rfl|show Cn _;constructor|apply ho|apply wY;rfl)
 refine eC 5 67 1 rfl rfl rfl λid a=>?_;refine aC (X:={x:Nat×Nat//x.1<=L.length/\st x.2=none}) (λi=>((((St.nil 26 (upd st i.1.2 (some (.arr 67 (((L.map (alY bL)).take i.1.1).map roC))))).pv 5 (.vec i.1.2 1 0 i.1.1)).pv 6 (.seq (L.map Ln.cells))).pv 7 (vi (i.1.1:Nat)))) (λi=>L.length-i.1.1) ⟨(0,id),by simp,a⟩ ?_ λi=>?_
 ·dsimp only
  repeat' first|show Cn (.t _ _);exact Cn.t0|show Cn _;constructor|exact rfl
 obtain⟨⟨i,id⟩,hi,a⟩:=i;simp only at hi a;dsimp only;by_cases m:L.length<=i
 ·have e:(L.map (alY bL)).take i=L.map (alY bL):=ztl (by simp;omega)
  obtain rfl:i=L.length:=by omega
  repeat' first|show Cn (.r _ _ _);refine .rr ?_;(exact⟨id,rfl,a,by rw[e];rfl⟩);done|apply wZ;rfl|show Cn _;constructor|simp only[zql];omega|intro h;simp at h
 have g:i<L.length:=by omega
 have hc:=arI L[i] (hs _ (zgm g)).1 (hs _ (zgm g)).2;have e:(L.map (alY bL)).take (i+1)=(L.map (alY bL)).take i++[L[i].cells_.map bL]:=by rw[List.take_succ_eq_append_getElem (by simpa using g)];simp[alY]
 repeat' first|refine⟨⟨(i+1,j),by simp only;omega,cG d⟩,?_,?_⟩;(dsimp only;try rw[e])|show Cn (.t _ _);exact .any (bI ‹_›)|apply wZ;rfl|show Cn _;constructor|exact rfl|apply hc|apply apV pk (f:=roC) [L[i].cells_.map bL] 24;(iterate 9 rfl);(exact aA _ _ _);(focus(simp;omega));exactλ_=>rfl;exactλ_=>rfl;exact awW;(focus(simp;omega));(focus(simp;omega));rfl;intro j d|apply wY;rfl|apply wI;rfl|apply gE;omega|omega|simp only[zql];omega|intro h;simp at h
theorem agF{n:Nat}{b:Bs}(hb:BsS n b)(hn:n<=1000)(k:Int):PF Tryz.prog 53 [.agg (bsC b),vi k] (.seq ((cT bL b k).map roC)):=λst=>
 fD (sz:=1) (aCj b k (by have:=(hb.lines k).1;omega) (λl hl=>by
  have:=(hb.lines k).2 l hl
  exact⟨by have:=this.2.1;omega,this.2.2⟩) st) λp st' h=>by
  obtain⟨id,rfl,a,rfl⟩:=h
  exact .inl ⟨id,67,(cT bL b k).map roC,_,st,aA _ _ _,amU,eQ (by simp[cT]),bU a,rfl,rfl⟩
end Go.Proofs.YtnogfoojjaainaaGreatDoor
namespace Go.Proofs.YtnogfoojjaainaaGreatDoor.X
open Go Go.Abs
section
attribute [local irreducible] Ev PWp
set_option maxRecDepth 10000
set_option maxHeartbeats 4000000
def Ex.lit(e:Ex):List PV:=[vi e.k,vi e.n,vi e.v.kind,vi e.v.n,vs e.v.s, .seq (Ex.rows e.of)]
theorem Ex.lit_eq(e:Ex):e.lit=e.cells:=by cases e;simp[Ex.lit,Ex.cells,Ex.k,Ex.n,Ex.v,Ex.of]
theorem Ex.ok'{e:Ex}(h:e.ok):e.of.length<2^62/\Ex.oks e.of:=by cases e;simpa[Ex.ok,Ex.of]using h
theorem Ex.rows_at{l:List Ex}{i:Nat}(h:i<l.length):(Ex.rows l)[i]?=some (l[i]'h).lit:=by rw[Ex.lit_eq];exact Ex.rows_get (by simp[h])
attribute [local simp] Vl.eta Ex.rows_len sM aAk
theorem apK{k n:Int}{b:ByteArray}:PF Tryz.prog 347 [.agg [vi k,vi n,vs b]] (vb (oX ⟨k,n,b⟩)):=by
 refine pF Tryz.func347 rfl λst=>?_
 repeat' first|apply wZ;rfl|show Cn _;constructor|exact rfl|show(_:PV)=_;simp_all[oX];done|intro h
def adS(k a b:Int):Bool:=if k=2\/k=3\/k=4\/k=7\/k=8\/k=9 then(decide (a=0)||decide (a=1))&&(decide (b=0)||decide (b=1))else if k=5\/k=6 then decide (a=b)||decide (a=0)||decide (b=0)else true
theorem ahV{k a b:Int}:PF Tryz.prog 308 [vi k,vi a,vi b] (vb (adS k a b)):=by
 refine pF Tryz.func308 rfl λst=>?_
 repeat' first|apply wZ;rfl|show Cn _;constructor|exact rfl|show(_:PV)=_;simp_all[adS];done|omega|intro h
def gG :Nat->Ex->Int
 |0,_=>1
 |l+1,e=>e.of.foldl (λn x=>max n (1+gG l x)) 1
theorem aeF(f:Int->Ex->Int)(B:Int)(hf:∀n x,n<=B->f n x<=B):∀(l:List Ex)(n:Int),n<=B->l.foldl f n<=B
 |[],n,h=>h
 |x::l,n,h=>aeF f B hf l _ (hf n x h)
theorem afN(f:Int->Ex->Int)(hf:∀n x,n<=f n x):∀(l:List Ex)(n:Int),n<=l.foldl f n
 |[],n=>Int.le_refl _
 |x::l,n=>Int.le_trans (hf n x) (afN f hf l _)
theorem nL :∀(l:Nat)(e:Ex),gG l e<=l+1/\1<=gG l e
 |0,_=>by simp[gG]
 |l+1,e=>by
  simp only[gG]
  refine⟨aeF _ _ (λn x h=>?_) _ _ (by omega),afN _ (λn x=>by omega) _ _⟩
  have:=(nL l x).1
  omega
theorem aeJ(l:Nat)(hl:∀x,(gG l x=l+1)↔eN l x=true):∀(os:List Ex)(n:Int),n<=l+2->(os.foldl (λn x=>max n (1+gG l x)) n=l+2↔(n=l+2\/os.any (eN l)=true))
 |[],n,_=>by simp
 |x::os,n,h=>by
  have d:=nL l x
  rw[List.foldl_cons,aeJ l hl os _ (by omega),List.any_cons,Bool.or_eq_true,<-hl x]
  constructor
  ·rintro(a|a)
   ·by_cases c:n=l+2
    ·exact .inl c
    ·exact .inr (.inl (by omega))
   ·exact .inr (.inr a)
  ·rintro(a|a|a)
   ·exact .inl (by omega)
   ·exact .inl (by omega)
   ·exact .inr a
theorem acV :∀(l:Nat)(e:Ex),(gG l e=l+1)↔eN l e=true
 |0,_=>by simp[gG,eN]
 |l+1,e=>by
  simp only[gG,eN]
  have:=aeJ l (acV l) e.of 1 (by omega)
  rw[show((l+1:Nat):Int)+1=l+2 from by omega,this]
  constructor
  ·rintro(h|h)
   ·omega
   ·exact h
  ·exact .inr
def oJ(l:Nat)(of:List Ex)(i:Nat):Int:=(of.take i).foldl (λn x=>max n (1+gG l x)) 1
theorem amH(l:Nat){of:List Ex}{i:Nat}{x:Ex}(h:of[i]?=some x):oJ l of (i+1)=max (oJ l of i) (1+gG l x):=by
 unfold oJ;have hl:i<of.length:=(zge.1 h).1;rw[List.take_succ_eq_append_getElem hl,List.foldl_append];have:of[i]=x:=(zge.1 h).2;simp[this]
theorem aBP(l:Nat)(of:List Ex)(i:Nat):oJ l of i<=l+2/\1<=oJ l of i:=by
 unfold oJ;exact⟨aeF _ _ (λn x h=>by have:=(nL l x).1;omega) _ _ (by omega),afN _ (λn x=>by omega) _ _⟩
theorem Ex.oks_at{l:List Ex}(h:Ex.oks l){i:Nat}(hi:i<l.length):(l[i]'hi).ok:=Ex.oks_mem h (zgm hi)
theorem auD{α:Type}{l:List α}{i:Nat}(hi:i<l.length):l[i]?=some (l[i]'hi):=by simp[hi]
theorem adQ :∀(left:Nat) (e:Ex) (z:Int),z=(left:Nat)->left<=1000->e.ok->PF Tryz.prog 306 [.agg e.lit,(vi (z))] (vi (gG left e))
 |left,e,z,hz,hl,hok=>by
  have hok:=Ex.ok' hok
  have ih:∀(l:Nat) (i:Nat) (hi:i<e.of.length) (z:Int),left=l+1->z=(l:Nat)->PF Tryz.prog 306 [.agg (e.of[i]'hi).lit,(vi (z))] (vi (gG l (e.of[i]'hi))):=λl i hi z hl' hz=>adQ l _ z hz (by omega) (Ex.oks_at hok.2 hi)
  refine pF Tryz.func306 rfl (λst=> ?_)
  (repeat' first|apply wZ;rfl|show Cn _;constructor)
  refine aC (X:={i:Nat//i<=e.of.length/\(left=0->i=0)}) (λi=>(((((St.nil 30 st).pv 1 ((vi (z)))).var 2 62 (e.lit)).pv 5 ((vi (oJ (left-1) e.of i.1)))).pv 6 ((vi ((i.1:Nat)))))) (λi=>e.of.length-i.1) ⟨0,by omega,by omega⟩ ?_ (λi=> ?_)
  ·(repeat' first|show Cn _;constructor|exact rfl)
  obtain ⟨i,hi,h0⟩:=i
  dsimp only
  have h2:=aBP (left-1) e.of i
  rcases Nat.lt_or_ge i e.of.length with hlt|hlt
  ·have h3:=amH (left-1) (auD hlt)
   have h4:=nL (left-1) (e.of[i]'hlt)
   have ih:=λz=>ih (left-1) i hlt z
   (repeat' first|(refine ⟨⟨i+1,by omega,by omega⟩, ?_, ?_⟩)|apply wZ;rfl|show Cn _;constructor|exact rfl|apply cL pk;(iterate 6 rfl);rotate_left;rfl;(intro hw;rfl);(intro hw;apply Ex.rows_at<;>omega);(intro _;rfl);rfl|(apply ih<;>(omega))|show (_:PV)=_;(rcases left with _|left)<;>simp_all [gG,oJ]<;>omega;done|apply wY;rfl|omega|simp only [zql];omega|(intro h;simp at h))
  ·(repeat' first|apply wZ;rfl|show Cn _;constructor|exact rfl|show (_:PV)=_;(rcases left with _|left)<;>simp_all [gG,oJ,ztl];done|intro h;simp at h;omega|(intro h;simp at h))
theorem acI{l:Nat}{e:Ex}(h:eN (l+1) e=false){i:Nat}(hi:i<e.of.length):eN l (e.of[i]'hi)=false:=by
 simp only[eN]at h;cases hd:eN l (e.of[i]'hi)with
 |false=>rfl
 |true=>rw[List.any_eq_true.2 ⟨_,zgm hi,hd⟩]at h;cases h
theorem uP(e:Ex):bG e=(fQ e.k e.n e.v e.of.length&&(decide (e.k=0)||decide (e.k=1)||e.of.all bG)):=by
 cases e;rw[bG,kT];rfl
theorem ahU(m:Int)(e:Ex):dG m e=((!decide (e.k=0)||decide (e.n<m))&&e.of.all (dG m)):=by
 cases e;rw[dG,mD];rfl
theorem anM{α:Type}{l:List α}{p:α->Bool}{i:Nat}(h:i<l.length):(l.drop i).all p=(p (l[i]'h)&&(l.drop (i+1)).all p):=by
 rw[List.drop_eq_getElem_cons h,List.all_cons]
theorem kU :∀(l:Nat) (e:Ex) (z:Int),z=(l:Nat)->l<=1000->eN l e=false->e.ok->PF Tryz.prog 307 [.agg e.lit,(vi (z))] (vb (bG e))
 |0,e,z,_,_,hd,_=>by simp [eN] at hd
 |l+1,e,z,hz,hl,hd,hok=>by
  have hok:=Ex.ok' hok
  have ih:∀(i:Nat) (hi:i<e.of.length) (z:Int),z=(l:Nat)->PF Tryz.prog 307 [.agg (e.of[i]'hi).lit,(vi (z))] (vb (bG (e.of[i]'hi))):=λi hi z hz=>kU l _ z hz (by omega) (acI hd hi) (Ex.oks_at hok.2 hi)
  rw [uP]
  refine pF Tryz.func307 rfl (λst=> ?_)
  (apply wO pk;rfl;exact All.nil;exact All.nil)
  refine acZ rfl (λh0=> ?_) (λh0=> ?_)
  ·(repeat' first|apply wZ;rfl|show Cn _;constructor|exact rfl|show (_:PV)=_;simp_all [fQ,vz];done)
  apply wC pk;rfl;rfl;exact All.nil;exact All.nil
  refine acZ rfl (λh1=> ?_) (λh1=> ?_)
  ·simp at h0 h1
   (repeat' first|apply wZ;rfl|show Cn _;constructor|exact rfl|(apply apK)|show (_:PV)=_;simp_all [fQ,vz];grind;done|apply wY;rfl)
  simp at h0 h1
  by_cases hk:2<=e.k/\e.k<=10
  case neg=>(repeat' first|apply wZ;rfl|show Cn _;constructor|exact rfl|show (_:PV)=_;simp_all [fQ];omega;done|omega|intro h)
  refine aJY 0 ((((St.nil 93 st).pv 1 ((vi (z)))).var 2 62 (e.lit)).pv 5 ((vi (fG e.k)))) rfl ?_ ?_
  ·(repeat' first|(refine Cn.ok (c:= .s _ _) ?_)|apply wZ;rfl|show Cn _;constructor|exact rfl|simp_all [fG];done|omega|intro h)
  (repeat' first|apply wZ;rfl|show Cn _;constructor|exact rfl|(intro h;simp at h))
  ·simp only [fQ,zn h0,zn h1];simp_all [vz,eN];grind
  refine aC (X:={i:Nat//i<=e.of.length/\e.of.all bG=(e.of.drop i).all bG}) (λi=>((((St.nil 93 st).pv 1 ((vi (z)))).var 2 62 (e.lit)).pv 7 ((vi ((i.1:Nat)))))) (λi=>e.of.length-i.1) ⟨0,by omega,by simp⟩ ?_ (λi=> ?_)
  ·(repeat' first|show Cn _;constructor|exact rfl)
  obtain ⟨i,hi,hall⟩:=i
  dsimp only
  rcases Nat.lt_or_ge i e.of.length with hlt|hlt
  ·rw [anM hlt] at hall
   have ih:=λz=>ih i hlt z
   (repeat' first|(refine ⟨⟨i+1,by omega,by simp_all⟩, ?_, ?_⟩)|apply wZ;rfl|show Cn _;constructor|exact rfl|apply cL pk;(iterate 6 rfl);rotate_left;rfl;(intro hw;rfl);(intro hw;apply Ex.rows_at<;>omega);(intro _;rfl);rfl|(apply ih<;>(omega))|show (_:PV)=_;simp_all [fQ,fG];done|apply wY;rfl|omega|simp only [zql];omega|intro h;simp at h;omega|(intro h;simp at h)|intro h)
  ·(repeat' first|apply wZ;rfl|show Cn _;constructor|exact rfl|show (_:PV)=_;simp_all [fQ,fG,vz,List.drop_eq_nil_of_le];done|intro h;simp at h;omega|(intro h;simp at h))
theorem uA (m:Int):∀(l:Nat) (e:Ex) (z:Int),z=(l:Nat)->l<=1000->eN l e=false->e.ok->PF Tryz.prog 247 [.agg e.lit,(vi (m)),(vi (z))] (vb (dG m e))
 |0,e,z,_,_,hd,_=>by simp [eN] at hd
 |l+1,e,z,hz,hl,hd,hok=>by
  have hok:=Ex.ok' hok
  have ih:∀(i:Nat) (hi:i<e.of.length) (z:Int),z=(l:Nat)->PF Tryz.prog 247 [.agg (e.of[i]'hi).lit,(vi (m)),(vi (z))] (vb (dG m (e.of[i]'hi))):=λi hi z hz=>uA m l _ z hz (by omega) (acI hd hi) (Ex.oks_at hok.2 hi)
  rw [ahU]
  refine pF Tryz.func247 rfl (λst=> ?_)
  (repeat' first|apply wZ;rfl|show Cn _;constructor|exact rfl|show (_:PV)=_;simp_all;omega;done|(intro h;simp at h))
  refine aC (X:={i:Nat//i<=e.of.length/\e.of.all (dG m)=(e.of.drop i).all (dG m)}) (λi=>(((((St.nil 40 st).pv 1 ((vi (m)))).pv 2 ((vi (z)))).var 3 62 (e.lit)).pv 7 ((vi ((i.1:Nat)))))) (λi=>e.of.length-i.1) ⟨0,by omega,by simp⟩ ?_ (λi=> ?_)
  ·(repeat' first|show Cn _;constructor|exact rfl)
  obtain ⟨i,hi,hall⟩:=i
  dsimp only
  rcases Nat.lt_or_ge i e.of.length with hlt|hlt
  ·rw [anM hlt] at hall
   have ih:=λz=>ih i hlt z
   (repeat' first|(refine ⟨⟨i+1,by omega,by simp_all⟩, ?_, ?_⟩)|apply wZ;rfl|show Cn _;constructor|exact rfl|apply cL pk;(iterate 6 rfl);rotate_left;rfl;(intro hw;rfl);(intro hw;apply Ex.rows_at<;>omega);(intro _;rfl);rfl|(apply ih<;>(omega))|show (_:PV)=_;simp_all;done|apply wY;rfl|omega|simp only [zql];omega|intro h;simp at h;omega|(intro h;simp at h)|intro h)
  ·(repeat' first|apply wZ;rfl|show Cn _;constructor|exact rfl|show (_:PV)=_;simp_all [List.drop_eq_nil_of_le];omega;done|intro h;simp at h;omega|(intro h;simp at h))
theorem aAn{e:Ex}(a:e.ok):PF Tryz.prog 246 [.agg e.lit] (vi (pI e)):=by
 have d:=adQ 20 e 20 rfl (by omega) a;have c:=kU 20 e 20 rfl (by omega);have f:=acV 20 e;have h4:=nL 20 e;rcases hd:eN 20 e with _|_<;>rw[hd]at f<;>simp at f
 ·have c:=c hd a
  refine pF Tryz.func246 rfl λst=>?_
  repeat' first|apply wZ;rfl|show Cn _;constructor|exact rfl|(first|apply d|apply c)|show(_:PV)=_;simp_all[pI];(try omega);done|apply wY;rfl|omega|intro h;simp at h|intro h
 ·refine pF Tryz.func246 rfl λst=>?_
  repeat' first|apply wZ;rfl|show Cn _;constructor|exact rfl|apply d|show(_:PV)=_;simp_all[pI];(try omega);done|apply wY;rfl|omega|intro h;simp at h
def yR(k:Int)(n:Nat)(a c:Int×Int):Int×Int:=if a.2≠0 then(0,a.2)else if n>1 then(if c.2≠0 then(0,c.2)else if adS k a.1 c.1 then(1,0)else(0,6))else if adS k a.1 0 then(1,0)else(0,6)
theorem ahN{l:List Int}{e:Ex}(hf:bG e=true)(h0:¬e.k=0)(f:¬e.k=1)(h:0<e.of.length)(d:Int×Int):bA l e=yR e.k e.of.length (bA l (e.of[0]'h)) (if j:1<e.of.length then bA l (e.of[1]'(j))else d):=by
 obtain⟨k,n,v,of⟩:=e;rw[uP]at hf;simp only[Ex.k,Ex.n,Ex.v,Ex.of]at*;have hl:of.length=(fG k).toNat/\2<=k/\k<=10:=by simp_all[fQ];omega
 rcases of with _|⟨x,_|⟨y,_|⟨w,of⟩⟩⟩
 ·exact absurd h (Nat.lt_irrefl _)
 ·have hk:k=9\/k=10:=by simp[fG]at hl;omega
  simp only[bA,fW,zn h0,zn f,yR];by_cases hx:(bA l x).2=0<;>simp[hx,uY,adS,nR]<;>rcases hk with rfl|rfl<;>simp<;>grind
 ·have hk:k=2\/k=3\/k=4\/k=5\/k=6\/k=7\/k=8:=by simp[fG]at hl;omega
  show bA l (.mk k n v [x,y])=yR k 2 (bA l x) (bA l y);clear hf h hl;simp only[bA,fW,zn h0,zn f,yR];generalize bA l x=a;generalize bA l y=c;obtain⟨a,g⟩:=a;obtain⟨c,i⟩:=c;by_cases hx:g=0<;>by_cases hy:i=0<;>simp[hx,hy];have m:uY (nR k) 0 [a,c]=adS k a c:=by
   rw[Bool.eq_iff_iff];simp only[uY,adS,nR];rcases hk with rfl|rfl|rfl|rfl|rfl|rfl|rfl<;>simp<;>by_cases ha:a=0<;>simp[ha]<;>omega
  rw[m]
 ·simp[fG]at hl;split at hl<;>omega
theorem atZ{l:List Int}{e:Ex}(h:e.k=0):bA l e=(l.getD e.n.toNat 0,0):=by
 cases e;simp only[Ex.k]at h;rw[bA,zp h];rfl
theorem auH{l:List Int}{e:Ex}(h0:¬e.k=0)(h:e.k=1):bA l e=(e.v.kind,0):=by
 cases e;simp only[Ex.k]at h h0;rw[bA,zn h0,zp h];rfl
theorem aD8{l:List Int}{i:Nat}(h:i<l.length):(gU l)[i]?=some [vi (l[i]'h)]:=yA (by simp[h])
theorem aaB (t:List Int):∀(l:Nat) (e:Ex) (z:Int),z=(l:Nat)->l<=1000->eN l e=false->bG e=true->dG t.length e=true->e.ok->PF Tryz.prog 248 [.agg e.lit, .seq (gU t),(vi (z))] (.tup [(vi ((bA t e).1)),(vi ((bA t e).2))])
 |0,e,z,_,_,hd,_,_,_=>by simp [eN] at hd
 |l+1,e,z,hz,hl,hd,hf,ht,hok=>by
  have hok:=Ex.ok' hok
  have hf':=hf
  have ht':=ht
  rw [uP] at hf'
  rw [ahU] at ht'
  have ih:∀(i:Nat) (hi:i<e.of.length) (z:Int),z=(l:Nat)->¬e.k=0->¬e.k=1->PF Tryz.prog 248 [.agg (e.of[i]'hi).lit, .seq (gU t),(vi (z))] (.tup [(vi ((bA t (e.of[i]'hi)).1)),(vi ((bA t (e.of[i]'hi)).2))]):=λi hi z hz h0 h1=>aaB t l _ z hz (by omega) (acI hd hi) (by simp_all) (by simp_all) (Ex.oks_at hok.2 hi)
  refine pF Tryz.func248 rfl (λst=> ?_)
  by_cases h0:e.k=0
  ·have h2:0<=e.n/\e.n<t.length:=by simp_all [fQ]
   rw [atZ h0]
   have hlt:e.n.toNat<t.length:=by omega
   have hgd:t.getD e.n.toNat 0=t[e.n.toNat]:=by simp [List.getD,hlt]
   have hg:=aD8 hlt
   rw [hgd]
   (repeat' first|apply wZ;rfl|show Cn _;constructor|exact rfl|apply cL pk;(iterate 6 rfl);rotate_left;rfl;(intro hw;exact (Int.toNat_of_nonneg (by omega)).symm);(intro hw;apply hg<;>omega);(intro _;rfl);rfl|omega|intro h)
  by_cases h1:e.k=1
  ·rw [auH h0 h1]
   (repeat' first|apply wZ;rfl|show Cn _;constructor|exact rfl|omega|intro h)
  have h2:e.of.length=(fG e.k).toNat:=by simp_all [fQ];omega
  have h2':e.of.length=1\/e.of.length=2:=by simp only [h2,fG];split<;>simp
  clear h2
  rcases h2' with h2'|h2'
  ·rw [ahN hf h0 h1 (by omega) (0,0),dif_neg (by omega)]
   simp only [yR,h2']
   have ih:=λz hz=>ih 0 (by omega) z hz h0 h1
   (repeat' first|apply wZ;rfl|show Cn _;constructor|exact rfl|apply cL pk;(iterate 6 rfl);rotate_left;rfl;(intro hw;rfl);(intro hw;apply Ex.rows_at<;>omega);(intro _;rfl);rfl|((first|apply ih|apply ahV)<;>(omega))|show (_:PV)=_;simp_all;done|apply wY;rfl|omega|intro h;simp at h;omega|(intro h;simp at h)|intro h)
  ·rw [ahN hf h0 h1 (by omega) (0,0),dif_pos (by omega)]
   simp only [yR,h2']
   have ih1:=λz hz=>ih 0 (by omega) z hz h0 h1
   have ih2:=λz hz=>ih 1 (by omega) z hz h0 h1
   (repeat' first|apply wZ;rfl|show Cn _;constructor|exact rfl|apply cL pk;(iterate 6 rfl);rotate_left;rfl;(intro hw;rfl);(intro hw;apply Ex.rows_at<;>omega);(intro _;rfl);rfl|((first|apply ih1|apply ih2|apply ahV)<;>(omega))|show (_:PV)=_;simp_all;done|apply wY;rfl|omega|intro h;simp at h;omega|(intro h;simp at h)|intro h)
theorem aqD(c:Co):PF Tryz.prog 171 [.agg c.cells] (vi (bS c)):=by
 unfold bS;refine pF Tryz.func171 rfl λst=>?_
 repeat' first|apply wZ;rfl|show Cn _;constructor|exact rfl|show(_:PV)=_;(simp[*];done);done|omega|intro h
theorem atF {e:Ex} (hok:e.ok) {l:List Int} (hl:l.length<2^62):PF Tryz.prog 172 [.agg e.lit, .seq (gU l)] (.tup [(vi ((fL e l).1)),(vi ((fL e l).2))]):=by
 have h1:=aAn hok
 have h2:=λh=>uA ((l.length:Nat):Int) 20 e 20 rfl (by omega) h hok
 have h3:pI e=0->dG l.length e=true->_:=λhm ht=>aaB l 20 e 20 rfl (by omega) (nB hm).1 (nB hm).2 ht hok
 rw [<-sM] at h2
 have h4:= @nB e
 by_cases hm:pI e=0
 ·have h2:=h2 (h4 hm).1
  have h3:=h3 hm
  refine pF Tryz.func172 rfl (λst=> ?_)
  (repeat' first|apply wZ;rfl|show Cn _;constructor|exact rfl|((first|apply h1|apply h2|apply h3)<;>(assumption))|show (_:PV)=_;simp_all [fL];done|apply wY;rfl|omega|(intro h;simp at h)|intro h)
 ·refine pF Tryz.func172 rfl (λst=> ?_)
  (repeat' first|apply wZ;rfl|show Cn _;constructor|exact rfl|(apply h1)|show (_:PV)=_;simp_all [fL];done|apply wY;rfl|omega|intro h)
theorem rright_spec {e:Ex} (hok:e.ok) (cols:List Co) (hl:cols.length<10000000000):PF Tryz.prog 95 [.agg e.lit, .seq (cols.map Co.cells)] (vi (RightR e (cols.map bS))):=by
 have hT:=atF hok (l:=cols.map bS) (by rw [zql];omega)
 have hR:RightR e (cols.map bS)=if (fL e (cols.map bS)).2=0 then (if (fL e (cols.map bS)).1=2 then 6 else 0) else (fL e (cols.map bS)).2:=rfl
 generalize fL e (cols.map bS)=T at*
 generalize RightR e (cols.map bS)=R at*
 unfold gU at hT
 obtain ⟨T1,T2⟩:=T
 dsimp only at*
 refine pF Tryz.func95 rfl (λst=> ?_)
 focus ((repeat' first|apply wZ;rfl|show Cn _;constructor))
 refine vP 5 3 rfl rfl (λid hid=> ?_)
 have hid:st id=none:=hid
 refine aC (X:={x:Nat×Nat//x.1<=cols.length/\st x.2=none}) (λi=>(((((St.nil 34 (upd st i.1.2 (some (.tok 3)))).pv 1 (.seq (cols.map Co.cells))).var 2 62 (e.lit)).pv 5 (.own i.1.2 (((cols.take i.1.1).map bS).map I1))).pv 6 ((vi ((i.1.1:Nat)))))) (λi=>cols.length-i.1.1) ⟨(0,id),by simp,hid⟩ ?_ (λi=> ?_)
 ·(repeat' first|show Cn (.t _ _);exact Cn.t0|show Cn _;constructor|exact rfl)
 obtain ⟨⟨i,id⟩,hi,hid⟩:=i
 simp only at hi hid
 dsimp only
 by_cases hend:cols.length<=i
 ·rw [ztl hend]
  by_cases h0:T2=0<;>by_cases h1:T1=2
  ·rw [zp h0,zp h1] at hR
   subst hR
   (repeat' first|(apply cV;focus ((apply hT);done))|show Cn (.e _ _ _ _);refine .any ?_;((refine ⟨_,_,_,rfl,zwr _,bK ‹_›, ?_,rfl⟩;(rfl)))|apply wZ;rfl|show Cn _;constructor|apply wY;rfl|omega|simp only [zql];omega|(intro h;simp at h)|intro h)
  ·rw [zp h0,zn h1] at hR
   subst hR
   subst h0
   (repeat' first|(apply cV;focus ((apply hT);done))|show Cn (.e _ _ _ _);refine .any ?_;((refine ⟨_,_,_,rfl,zwr _,bK ‹_›, ?_,rfl⟩;(rfl)))|apply wZ;rfl|show Cn _;constructor|apply wY;rfl|omega|simp only [zql];omega|(intro h;simp at h)|intro h)
  ·rw [zn h0] at hR
   subst hR
   (repeat' first|(apply cV;focus ((apply hT);done))|show Cn (.e _ _ _ _);refine .any ?_;((refine ⟨_,_,_,rfl,zwr _,bK ‹_›, ?_,rfl⟩;(rfl)))|apply wZ;rfl|show Cn _;constructor|apply wY;rfl|omega|simp only [zql];omega|(intro h;simp at h)|intro h)
  ·rw [zn h0] at hR
   subst hR
   (repeat' first|(apply cV;focus ((apply hT);done))|show Cn (.e _ _ _ _);refine .any ?_;((refine ⟨_,_,_,rfl,zwr _,bK ‹_›, ?_,rfl⟩;(rfl)))|apply wZ;rfl|show Cn _;constructor|apply wY;rfl|omega|simp only [zql];omega|(intro h;simp at h)|intro h)
 have hil:i<cols.length:=by omega
 have hs:=aqD cols[i]
 have hmap:((cols.take (i+1)).map bS).map I1=((cols.take i).map bS).map I1++[I1 (bS cols[i])]:=by rw [List.take_succ_eq_append_getElem hil,List.map_append,List.map_append];rfl
 have htl:((cols.take i).map bS).length<=i:=by rw [zql];exact List.length_take_le ..
 generalize bS cols[i]=K at*
 (repeat' first|refine ⟨⟨(i+1,id'),by simp only;omega,gX hid'⟩, ?_, ?_⟩;((dsimp only;rw [hmap]))|show Cn (.t _ _);exact .any (bI ‹_›)|apply wZ;rfl|show Cn _;constructor|exact rfl|(apply hs)|show _=_;((simp [I1];done))|(apply apS pk (K) 8;(iterate 8 rfl);exact aA _ _ _;exact λ_=>rfl;exact λ_=>rfl;exact kQ;(omega);(omega);rfl;intro id' hid')|apply wY;rfl|apply wI;rfl|apply gE;omega|omega|simp only [zql];omega|(intro h;simp at h))
end
section
attribute [local irreducible] Ev PWp
set_option maxRecDepth 10000
set_option maxHeartbeats 4000000
end
end Go.Proofs.YtnogfoojjaainaaGreatDoor.X
namespace Go.Proofs.YtnogfoojjaainaaGreatDoor
open Go Go.Abs
section
set_option maxRecDepth 10000
set_option maxHeartbeats 4000000
theorem aGR{m:Su}{g:Int}{rows:List (List Vl)}{i:Nat}(h:i<rows.length):jL m g (rows.take (i+1))=jL m g (rows.take i)+amO m g rows[i]:=by
 unfold jL;rw[List.take_succ_eq_append_getElem h,List.map_append,List.sum_append];simp
end
section
attribute [local irreducible] Ev PWp
set_option maxRecDepth 10000
set_option maxHeartbeats 4000000
variable(t:Tb)(rows:List (List Vl))(b:Bs)
theorem apE(m:Su)(g:Int)(h:TotOK m rows):PF Tryz.prog 52 [.seq (rows.map roC), .agg m.cells,vi g] (vi (jL m g rows)):=by
 have k:=h.len;refine pF Tryz.func52 rfl λst=>?_
 focus(repeat' first|apply wZ;rfl|show Cn _;constructor)
 refine aC (X:={x:Nat//x<=rows.length}) (λi=>((((((St.nil 62 st).pv 0 (.seq (rows.map roC))).pv 2 (vi g)).var 4 74 (m.cells)).pv 7 (vi (jL m g (rows.take i.1)))).pv 8 (vi (i.1:Nat)))) (λi=>rows.length-i.1) ⟨0,by omega⟩ ?_ λi=>?_
 ·repeat' first|show Cn _;constructor|exact rfl
 obtain⟨i,hi⟩:=i;dsimp only;by_cases f:rows.length<=i
 ·rw[ztl f]
  repeat' first|apply wZ;rfl|show Cn _;constructor|exact rfl|simp only[zql];omega|intro h;simp at h
 have c:i<rows.length:=by omega
 obtain⟨c1,c2⟩:=h.cl _ (zgm c);have p:=h.c0;have o:=h.b0;have A:=(h.num _ (zgm c)).1;have j:=sI (m:=m) (g:=g) (rows:=rows.take i) λr w=>(h.num r (List.mem_of_mem_take w)).1;have y:(rows.take i).length<=2000:=by rw[zlt];omega
 have a:=aGR (m:=m) (g:=g) c;have e:m.col=((m.col.toNat:Nat):Int):=by omega
 have d:m.by_=((m.by_.toNat:Nat):Int):=by omega
 have l:m.col.toNat<rows[i].length:=by omega
 have z:m.by_.toNat<rows[i].length:=by omega
 unfold amO at a;rw[getElem!_pos rows[i] m.col.toNat l,getElem!_pos rows[i] m.by_.toNat z]at a;rw[getElem!_pos rows[i] m.col.toNat l]at A;generalize jL m g (rows.take i)=T at*;have t1: -2199023255552000<=T:=by omega
 have t2:T<=2199023255552000:=by omega
 clear j;by_cases hk:rows[i][m.by_.toNat].kind=1/\rows[i][m.by_.toNat].n=g/\rows[i][m.col.toNat].kind=1
 ·rw[zp hk]at a
  obtain⟨q,u,v⟩:=hk
  repeat' first|apply iX;(intro hw;exact(by first|exact e|exact d));(apply gE;omega);rfl|refine⟨⟨i+1,by omega⟩,?_,?_⟩;(dsimp only;rw[a])|apply wZ;rfl|show Cn _;constructor|exact rfl|apply KR.mk;kernel_rfl|apply wI;rfl|apply gE;omega|omega|simp only[zql];omega|intro h;simp at h;omega|intro h;simp at h
 ·rw[zn hk,Int.add_zero]at a
  repeat' first|apply iX;(intro hw;exact(by first|exact e|exact d));(apply gE;omega);rfl|refine⟨⟨i+1,by omega⟩,?_,?_⟩;(dsimp only;rw[a])|apply wZ;rfl|show Cn _;constructor|exact rfl|apply KR.mk;kernel_rfl|apply wI;rfl|apply gE;omega|omega|simp only[zql];omega|intro h;simp at h;omega|intro h;simp at h
end
section
attribute [local irreducible] Ev PWp
set_option maxRecDepth 10000
set_option maxHeartbeats 4000000
theorem alA(s:Sc)(hl:s.length<200000000000000)(hB:∀t∈s,TbB t)(hT:∀t∈s,tM t)(hc:∀t∈s,t.cols.length<10000000000):PF Tryz.prog 51 [.agg (scC s)] (vi (rightC s)):=by
 have B:=wW s hl hB;by_cases h0:¬bT s=0
 ·have e:rightC s=bT s:=by unfold rightC;rw[zn h0]
  rw[e];generalize bT s=R at*;refine pF Tryz.func51 rfl λst=>?_
  repeat' first|apply wZ;rfl|show Cn _;constructor|exact rfl|apply B|apply wY;rfl|omega|intro h
 replace h0:=zdn h0
 have e:rightC s=eE rightX s:=by unfold rightC;rw[zp h0]
 rw[e];rw[h0]at B;clear e h0;refine pF Tryz.func51 rfl λst=>?_
 focus(repeat' first|apply wZ;rfl|show Cn _;constructor|apply B|apply wY;rfl)
 refine aC (X:={x:Nat//x<=s.length/\∀j (h:j<s.length),j<x->rightX s[j]=0}) (λi=>(((St.nil 49 st).var 1 24 (scC s)).pv 4 (vi (i.1:Nat)))) (λi=>s.length-i.1) ⟨0,by omega,by omega⟩ ?_ λi=>?_
 ·repeat' first|show Cn _;constructor|exact rfl
 obtain⟨i,hi,r⟩:=i;dsimp only;by_cases C:s.length<=i
 ·have e:eE rightX s=0:=jS λj hj=>r j hj (by omega)
  repeat' first|apply wZ;rfl|show Cn _;constructor|exact rfl|show(_:PV)=_;(rw[e]);done|simp only[zql];omega|intro h;simp at h
 have a:i<s.length:=by omega
 have hk:=hT _ (zgm a);have v:=hc _ (zgm a);have E:=(hB _ (zgm a)).k;have e:=oM r a;have hu:=oF r a
 focus(repeat' first|apply wZ;rfl|show Cn _;constructor|simp only[zql];omega|intro h;simp at h)
 refine aC (X:={x:Nat//x<=s[i].checks.length/\∀j (h:j<s[i].checks.length),j<x->X.RightR (exOf s[i].checks[j]) (s[i].cols.map bS)=0}) (λy=>((((St.nil 49 st).var 1 24 (scC s)).pv 4 (vi (i:Nat))).pv 5 (vi (y.1:Nat)))) (λy=>s[i].checks.length-y.1) ⟨0,by omega,by omega⟩ ?_ λy=>?_
 ·repeat' first|show Cn _;constructor|exact rfl
 obtain⟨y,hy,l⟩:=y;dsimp only;by_cases z:s[i].checks.length<=y
 ·have D:rightX s[i]=0:=jS λj hj=>l j hj (by omega)
  repeat' first|refine⟨⟨i+1,by omega,hu D⟩,?_,?_⟩|apply wZ;rfl|show Cn _;constructor|exact rfl|apply wI;rfl|apply gE;omega|omega|simp only[zql];omega|intro h;simp at h
 have d:y<s[i].checks.length:=by omega
 obtain⟨A,u⟩:=abU (hk _ (zgm d));have w:=oM (f:=λc=>X.RightR (exOf c) (s[i].cols.map bS)) l d;have o:=oF (f:=λc=>X.RightR (exOf c) (s[i].cols.map bS)) l d;change X.RightR (exOf s[i].checks[y]) (s[i].cols.map bS)≠0->rightX s[i]=X.RightR (exOf s[i].checks[y]) (s[i].cols.map bS)at w;change X.RightR (exOf s[i].checks[y]) (s[i].cols.map bS)=0->_ at o;have q:=X.rright_spec A s[i].cols v;rw[X.Ex.lit_eq]at q;have g:s[i].checks[y]?=some (exOf s[i].checks[y]).cells:=by rw[u,zgg d]
 generalize X.RightR (exOf s[i].checks[y]) (s[i].cols.map bS)=p at*;generalize exOf s[i].checks[y]=x at*;obtain⟨F,G,I,H⟩:=x;by_cases hp:p=0
 ·repeat' first|refine⟨⟨y+1,by omega,o hp⟩,?_,?_⟩|apply wZ;rfl|show Cn _;constructor|exact rfl|apply KR.mk;kernel_rfl|apply cL pk;(iterate 6 rfl);rotate_left;rfl;(intro hw;rfl);(intro hw;apply g<;>omega);(intro _;rfl);rfl|apply q|apply wY;rfl|apply wI;rfl|apply gE;omega|omega|simp only[zql];omega|intro h;simp at h|intro h
 ·have m:eE rightX s=p:=by rw[e (by rw[w hp];exact hp),w hp]
  repeat' first|apply wZ;rfl|show Cn _;constructor|exact rfl|apply KR.mk;kernel_rfl|apply cL pk;(iterate 6 rfl);rotate_left;rfl;(intro hw;rfl);(intro hw;apply g<;>omega);(intro _;rfl);rfl|apply q|show(_:PV)=_;(rw[m]);done|apply wY;rfl|apply wI;rfl|apply gE;omega|omega|intro h;simp at h|intro h
section
variable{n:Nat}{s:Sc}{b:Bs}(hB:CkB n s b)
include hB
theorem CkB.rright :PF Tryz.prog 51 [.agg (scC s)] (vi (rightC s)):=alA s (by have:=hB.len;omega) hB.sb hB.chk hB.col
theorem zV(table c a:Int):PF Tryz.prog 26 [.agg (scC s), .agg (bsC b),vi table,vi c,vi a] (vi (totC s b table c a)):=by
 have i:=hB.rright;have j:=iM hB.bs hB.hn hB.sb hB.len;have p:=hB.len;by_cases d:¬(rightC s=0/\bC T.rightP s b=true/\0<=table/\table<s.length)
 ·have e:totC s b table c a=0:=by
   unfold totC;rw[dif_neg];rintro⟨q,⟨r,u⟩,_⟩;unfold mayC at q;rw[zba,zde]at q;exact d ⟨q.1,q.2,r,u⟩
  rw[e];generalize rightC s=R at*;generalize bC T.rightP s b=A at*;refine pF Tryz.func26 rfl λst=>?_
  repeat' first|apply wZ;rfl|show Cn _;constructor|exact rfl|(first|apply i|apply j)|apply wY;rfl|exfalso;simp[gw]at*;grind|intro h;simp at h
 obtain⟨g,hg,t1,t2⟩:=zdn d;obtain⟨k,rfl⟩:∃k:Nat,table=(k:Int):=⟨table.toNat,by omega⟩;have hk:k<s.length:=by omega
 have f:mayC s b=true:=by unfold mayC;rw[hg,decide_eq_true g];rfl
 rw[g]at i;rw[hg]at j;have l:=acW g;obtain⟨v,w,x,n4,n5⟩:=lH l hk;by_cases hs:¬(0<=c/\c<s[k].sums.length)
 ·have e:totC s b k c a=0:=by
   unfold totC;rw[dif_neg];rintro⟨_,_,q⟩;rw[Int.toNat_natCast,getElem!_pos s k hk]at q;exact hs q
  rw[e];refine pF Tryz.func26 rfl λst=>?_
  repeat' first|apply wZ;rfl|show Cn _;constructor|exact rfl|(first|apply i|apply j)|apply wY;rfl|apply wI;rfl|apply gE;omega|simp only[zql];omega|intro h;simp at h;omega|intro h;simp at h
 replace hs:=zdn hs
 obtain⟨y,rfl⟩:∃y:Nat,c=(y:Int):=⟨c.toNat,by omega⟩;have hy:y<s[k].sums.length:=by omega
 have hT:=vV hg hk (zgm hy);have e:totC s b k y a=jL s[k].sums[y] a (cT bL b k):=by
  unfold totC;rw[dif_pos ⟨f,⟨by omega,by omega⟩,by omega,by rw[Int.toNat_natCast,getElem!_pos s k hk];omega⟩];rw[Int.toNat_natCast,Int.toNat_natCast,getElem!_pos s k hk,getElem!_pos s[k].sums y hy]
 rw[e];have m:=agF hB.bs hB.hn (k:Int);have o:=apE (cT bL b k) s[k].sums[y] a hT;generalize jL s[k].sums[y] a (cT bL b k)=R at*;generalize cT bL b k=rows at*;refine pF Tryz.func26 rfl λst=>?_
 repeat' first|apply wZ;rfl|show Cn _;constructor|exact rfl|apply KR.mk;kernel_rfl|(first|apply i|apply j|apply m|apply o)|apply wY;rfl|apply wI;rfl|apply gE;omega|simp only[zql];omega|intro h;simp at h
end
end
section
set_option maxRecDepth 10000
set_option maxHeartbeats 4000000
def IsMin(o:Option Int)(p:Int->Prop):Prop:=match o with
 |none=>∀g,¬p g
 |some g=>p g/\∀h,p h->g<=h
theorem IsMin.uniq{p:Int->Prop}:∀{o o':Option Int},IsMin o p->IsMin o' p->o=o'
 |none,none,_,_=>rfl
 |none,some g,h,k=>absurd k.1 (h g)
 |some g,none,h,k=>absurd h.1 (k g)
 |some g,some g',h,k=>by have:=h.2 g' k.1;have:=k.2 g h.1;rw[show g=g' by omega]
theorem IsMin.of{p q:Int->Prop}(h:∀g,p g↔q g):∀{o:Option Int},IsMin o p->IsMin o q
 |none,k=>λg hg=>k g ((h g).2 hg)
 |some _,k=>⟨(h _).1 k.1,λx hx=>k.2 x ((h x).2 hx)⟩
def aiI(above:Int)(all:Bool)(o:Option Int):Option Int->Option Int
 |none=>o
 |some g=>if(all=true\/g>above)/\(o=none\/g<o.getD 0)then some g else o
theorem aB5{above:Int}{all:Bool}{o:Option Int}{q:Int->Prop}(h:IsMin o q)(x:Option Int):IsMin (aiI above all o x) (λg=>q g\/(x=some g/\(all=true\/g>above))):=by
 cases x with
 |none=>exact IsMin.of (λg=>by simp) h
 |some g=>
  unfold aiI;dsimp only;by_cases a:all=true\/g>above
  ·cases o with
   |none=>
    rw[zp ⟨a, .inl rfl⟩];refine⟨.inr ⟨rfl,a⟩,λy hy=>?_⟩;rcases hy with hy|⟨hy,_⟩
    ·exact absurd hy (h y)
    ·cases hy;exact Int.le_refl _
   |some w=>
    by_cases c:g<w
    ·rw[zp ⟨a, .inr c⟩]
     refine⟨.inr ⟨rfl,a⟩,λy hy=>?_⟩;rcases hy with hy|⟨hy,_⟩
     ·have:=h.2 y hy;omega
     ·cases hy;exact Int.le_refl _
    ·rw[zn (by rintro⟨_,q|q⟩;cases q;exact c q)]
     refine⟨.inl h.1,λy hy=>?_⟩;rcases hy with hy|⟨hy,_⟩
     ·exact h.2 y hy
     ·cases hy;omega
  ·rw[zn λq=>a q.1]
   exact IsMin.of (λy=>⟨.inl,λhy=>hy.elim id λ⟨e,w⟩=>by cases e;exact absurd w a⟩) h
def gR(L:List Ln)(c above:Int)(all:Bool):Option Int:=L.foldl (λo l=>aiI above all o (ptP l c)) none
theorem aEO{L:List Ln}{c above:Int}{all:Bool}{i:Nat}(h:i<L.length):gR (L.take (i+1)) c above all=aiI above all (gR (L.take i) c above all) (ptP L[i] c):=by
 unfold gR;rw[List.take_succ_eq_append_getElem h,List.foldl_append];rfl
theorem aiF(L:List Ln)(c above:Int)(all:Bool):IsMin (gR L c above all) (λg=>g∈L.filterMap (λl=>ptP l c)/\(all=true\/g>above)):=by
 have key:∀(L:List Ln)(o:Option Int)(q:Int->Prop),IsMin o q->IsMin (L.foldl (λo l=>aiI above all o (ptP l c)) o) (λg=>q g\/(g∈L.filterMap (λl=>ptP l c)/\(all=true\/g>above))):=λL=>by
  induction L with
  |nil=>exactλo q h=>IsMin.of (λg=>by simp) h
  |cons l L ih=>
   intro o q h;refine IsMin.of (λg=>?_) (ih _ _ (aB5 h (ptP l c)));rw[List.filterMap_cons];cases ptP l c with
   |none=>simp
   |some x=>
    simp only[zmc,Option.some.injEq];constructor
    ·rintro((h|⟨e,h⟩)|⟨h,k⟩)
     ·exact .inl h
     ·exact .inr ⟨.inl e.symm,h⟩
     ·exact .inr ⟨.inr h,k⟩
    ·rintro(h|⟨h|h,k⟩)
     ·exact .inl (.inl h)
     ·exact .inl (.inr ⟨h.symm,k⟩)
     ·exact .inr ⟨h,k⟩
 exact IsMin.of (λg=>by simp) (key L none (λ_=>False) λ_ h=>h)
def aiB :Option Int->Option Int->Option Int
 |none,b=>b
 |some x,none=>some x
 |some x,some y=>if x<y then some x else some y
theorem aAI{p q:Int->Prop}:∀{a b:Option Int},IsMin a p->IsMin b q->IsMin (aiB a b) (λg=>p g\/q g)
 |none,none,h,k=>λg hg=>hg.elim (h g) (k g)
 |none,some y,h,k=>⟨.inr k.1,λg hg=>hg.elim (λw=>absurd w (h g)) (k.2 g)⟩
 |some x,none,h,k=>⟨.inl h.1,λg hg=>hg.elim (h.2 g) λw=>absurd w (k g)⟩
 |some x,some y,h,k=>by
  show IsMin (if x<y then some x else some y) _
  by_cases c:x<y
  ·rw[zp c]
   exact⟨.inl h.1,λg hg=>hg.elim (h.2 g) λw=>by have:=k.2 g w;omega⟩
  ·rw[zn c]
   exact⟨.inr k.1,λg hg=>hg.elim (λw=>by have:=h.2 g w;omega) (k.2 g)⟩
theorem aFo(l:List Int):(iU l).Pairwise (· < ·):=by
 have:=sA vO ((eW ltI _).nodup_iff.2 (abS l)) (abP vO (adJ l));exact this.imp fun{a b} h=>of_decide_eq_true h
theorem auU{D:List Int}(hp:D.Pairwise (· < ·))(j:Nat)(above:Int)(all:Bool)(h:all=true/\j=0\/all=false/\0<j/\D[j-1]?=some above):IsMin D[j]? (λg=>g∈D/\(all=true\/g>above)):=by
 have c:∀a b (ha:a<D.length) (hb:b<D.length),a<b->D[a]<D[b]:=λa b ha hb l=>List.pairwise_iff_getElem.1 hp a b ha hb l;have f:∀g∈D,(all=true\/g>above)->∃i,∃hi:i<D.length,j<=i/\D[i]=g:=λg hg hk=>by
  obtain⟨i,hi,rfl⟩:=zgo hg
  refine⟨i,hi,?_,rfl⟩
  rcases h with⟨_,rfl⟩|⟨k,p,d⟩
  ·omega
  ·obtain⟨w,d⟩:=zge.1 d
   rcases hk with q|q
   ·rw[k]at q;cases q
   ·by_cases m:j<=i
    ·exact m
    ·exfalso
     by_cases e:i=j-1
     ·subst e;omega
     ·have:=c i (j-1) hi w (by omega);omega
 by_cases hj:j<D.length
 ·rw[zgg hj]
  refine⟨⟨zgm hj,?_⟩,λg ⟨hg,hk⟩=>?_⟩
  ·rcases h with⟨k,_⟩|⟨k,p,d⟩
   ·exact .inl k
   ·obtain⟨w,d⟩:=zge.1 d
    have:=c (j-1) j w hj (by omega);exact .inr (by omega)
  ·obtain⟨i,hi,o,rfl⟩:=f g hg hk
   by_cases e:i=j
   ·subst e;exact Int.le_refl _
   ·have:=c j i hj hi (by omega);omega
 ·rw[List.getElem?_eq_none (by omega)]
  exactλg ⟨hg,hk⟩=>by
   obtain⟨i,hi,o,_⟩:=f g hg hk
   omega
theorem axW{d e:List Ln}{c:Int}{D:List Int}(f:iU (d.filterMap (λl=>ptP l c)++e.filterMap λl=>ptP l c)=D){above:Int}{all:Bool}{j:Nat}(h:all=true/\j=0\/all=false/\0<j/\D[j-1]?=some above):aiB (gR d c above all) (gR e c above all)=D[j]?:=by
 refine IsMin.uniq (aAI (aiF d c above all) (aiF e c above all)) (IsMin.of (λg=>?_) (auU (by rw[<-f];exact aFo _) j above all h));rw[<-f,aAR,zma];constructor
 ·rintro⟨a|a,b⟩
  ·exact .inl ⟨a,b⟩
  ·exact .inr ⟨a,b⟩
 ·rintro(⟨a,b⟩|⟨a,b⟩)
  ·exact⟨.inl a,b⟩
  ·exact⟨.inr a,b⟩
end
end Go.Proofs.YtnogfoojjaainaaGreatDoor
