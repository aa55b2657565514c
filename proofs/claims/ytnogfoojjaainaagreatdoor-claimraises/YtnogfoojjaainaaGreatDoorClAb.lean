import Derived.Test.YtnogfoojjaainaaGreatDoorClAa
import Derived.Test.YtnogfoojjaainaaGreatDoorAbsSort
import Derived.Test.YtnogfoojjaainaaGreatDoorAbsE
set_option linter.unusedSimpArgs false
set_option linter.unusedVariables false
namespace Go.Proofs.YtnogfoojjaainaaGreatDoor
open Go Go.Abs
section
attribute [local irreducible] Ev PWp
set_option maxRecDepth 10000
set_option maxHeartbeats 4000000
structure Tb where
 name:ByteArray
 cols:List Co
 unique:List Int
 checks:List (List PV)
 foreign:List Fr
 sums:List Su
 deriving Inhabited
def Tb.cells(a:Tb):List PV:=[.val (.string (a.name)), .seq (a.cols.map Co.cells), .seq (a.unique.map I1), .seq a.checks, .seq (a.foreign.map Fr.cells), .seq (a.sums.map Su.cells)]
abbrev Sc :=List Tb
def scC(s:Sc):List PV:=[.seq (s.map Tb.cells)]
theorem aCd(b:FuncId)(caps:List PV)(f:Co->Bool)(l:List Co)(hl:l.length<4611686018427387904)(hf:∀p,PF Tryz.prog b ([.agg p.cells]++caps) (vb (f p))):PF Tryz.prog 287 [.seq (l.map Co.cells), .fn b caps] (vi (cY f l)):=by
 refine pF Tryz.func287 rfl λst=>?_
 repeat' first|apply wZ;rfl|show Cn _;constructor
 refine aC (X:={x:Nat//x<=l.length/\∀j (h:j<x) (c:j<l.length),f l[j]=false}) (λi=>(((((St.nil 19 st).pv 0 (.seq (l.map Co.cells))).pv 1 (.fn b caps)).pv 7 (vi ((l.map Co.cells).length:Nat))).pv 8 (vi (i.1:Nat)))) (λi=>l.length-i.1) ⟨0,by omega,by omega⟩ ?_ λi=>?_
 ·repeat' first|show Cn _;constructor|exact rfl
 obtain⟨i,hi,a⟩:=i;dsimp only
 repeat' first|refine⟨⟨i+1,by omega,λj d c=>by rcases zls.1 d with q|q;exact a j q c;subst q;assumption⟩,?_,?_⟩|apply wZ;rfl|show Cn _;constructor|exact rfl|apply hf|show(_:PV)=_;(first|unfold cY;rw[lN ‹_› ‹_› a];done|unfold cY;rw[mS ‹_› a]);done|apply wY;rfl|apply wI;rfl|apply gE;omega|omega|simp only[zql];omega|intro h;simp at h|intro h
theorem aAD(b:FuncId)(caps:List PV)(f:Su->Bool)(l:List Su)(hl:l.length<4611686018427387904)(hf:∀p,PF Tryz.prog b ([.agg p.cells]++caps) (vb (f p))):PF Tryz.prog 288 [.seq (l.map Su.cells), .fn b caps] (vi (cY f l)):=by
 refine pF Tryz.func288 rfl λst=>?_
 repeat' first|apply wZ;rfl|show Cn _;constructor
 refine aC (X:={x:Nat//x<=l.length/\∀j (h:j<x) (c:j<l.length),f l[j]=false}) (λi=>(((((St.nil 19 st).pv 0 (.seq (l.map Su.cells))).pv 1 (.fn b caps)).pv 7 (vi ((l.map Su.cells).length:Nat))).pv 8 (vi (i.1:Nat)))) (λi=>l.length-i.1) ⟨0,by omega,by omega⟩ ?_ λi=>?_
 ·repeat' first|show Cn _;constructor|exact rfl
 obtain⟨i,hi,a⟩:=i;dsimp only
 repeat' first|refine⟨⟨i+1,by omega,λj d c=>by rcases zls.1 d with q|q;exact a j q c;subst q;assumption⟩,?_,?_⟩|apply wZ;rfl|show Cn _;constructor|exact rfl|apply hf|show(_:PV)=_;(first|unfold cY;rw[lN ‹_› ‹_› a];done|unfold cY;rw[mS ‹_› a]);done|apply wY;rfl|apply wI;rfl|apply gE;omega|omega|simp only[zql];omega|intro h;simp at h|intro h
theorem aA9(b:FuncId)(caps:List PV)(f:Tb->Bool)(l:List Tb)(hl:l.length<4611686018427387904)(hf:∀p,PF Tryz.prog b ([.agg p.cells]++caps) (vb (f p))):PF Tryz.prog 212 [.seq (l.map Tb.cells), .fn b caps] (vi (cY f l)):=by
 refine pF Tryz.func212 rfl λst=>?_
 repeat' first|apply wZ;rfl|show Cn _;constructor
 refine aC (X:={x:Nat//x<=l.length/\∀j (h:j<x) (c:j<l.length),f l[j]=false}) (λi=>(((((St.nil 19 st).pv 0 (.seq (l.map Tb.cells))).pv 1 (.fn b caps)).pv 7 (vi ((l.map Tb.cells).length:Nat))).pv 8 (vi (i.1:Nat)))) (λi=>l.length-i.1) ⟨0,by omega,by omega⟩ ?_ λi=>?_
 ·repeat' first|show Cn _;constructor|exact rfl
 obtain⟨i,hi,a⟩:=i;dsimp only
 repeat' first|refine⟨⟨i+1,by omega,λj d c=>by rcases zls.1 d with q|q;exact a j q c;subst q;assumption⟩,?_,?_⟩|apply wZ;rfl|show Cn _;constructor|exact rfl|apply hf|show(_:PV)=_;(first|unfold cY;rw[lN ‹_› ‹_› a];done|unfold cY;rw[mS ‹_› a]);done|apply wY;rfl|apply wI;rfl|apply gE;omega|omega|simp only[zql];omega|intro h;simp at h|intro h
theorem aBD(a:FuncId)(caps:List PV)(f:Co->Bool)(l:List Co)(hl:l.length<4611686018427387904)(hf:∀p,PF Tryz.prog a ([.agg p.cells]++caps) (vb (f p))):PF Tryz.prog 217 [.seq (l.map Co.cells), .fn a caps] (vb (l.any f)):=by
 have h:=aCd a caps f l hl hf;refine pF Tryz.func217 rfl λst=>?_
 repeat' first|apply wZ;rfl|show Cn _;constructor|exact rfl|apply h|show(_:PV)=_;(rw[rF]);done|apply wY;rfl
theorem aAJ(a:FuncId)(caps:List PV)(f:Su->Bool)(l:List Su)(hl:l.length<4611686018427387904)(hf:∀p,PF Tryz.prog a ([.agg p.cells]++caps) (vb (f p))):PF Tryz.prog 223 [.seq (l.map Su.cells), .fn a caps] (vb (l.any f)):=by
 have h:=aAD a caps f l hl hf;refine pF Tryz.func223 rfl λst=>?_
 repeat' first|apply wZ;rfl|show Cn _;constructor|exact rfl|apply h|show(_:PV)=_;(rw[rF]);done|apply wY;rfl
def dZ(f:Nat->Int)(n:Nat):Int:=orI ((List.range n).map f)
theorem aDU{l:List Int}{i:Nat}(h:i<l.length)(hf:l[i]≠0)(hn:∀j (h:j<i) (b:j<l.length),l[j]=0):orI l=l[i]:=by
 induction l generalizing i with
 |nil=>simp at h
 |cons a l ih=>
  cases i with
  |zero=>simp only[List.getElem_cons_zero]at hf⊢;rw[orI,zn hf]
  |succ i=>
   have h0:=hn 0 (by omega) (by simp);simp only[List.getElem_cons_zero]at h0;rw[orI,zp h0];simp only[List.getElem_cons_succ]at hf⊢;exact ih (by simpa using h) hf λj hj b=>by have:=hn (j+1) (by omega) (by simpa using b);simpa using this
theorem aCD{l:List Int}(hn:∀x∈l,x=0):orI l=0:=by
 induction l with
 |nil=>rfl
 |cons a l ih=>rw[orI,zp (hn a (by simp))];exact ih λx hx=>hn x (by simp[hx])
theorem lP{f:Nat->Int}{n i:Nat}(h:i<n)(hf:f i≠0)(hn:∀j<i,f j=0):dZ f n=f i:=by
 unfold dZ;have:=aDU (l:=(List.range n).map f) (i:=i) (by simpa using h) (by simpa using hf) λj hj a=>by simpa using hn j hj
 simpa using this
theorem lR{f:Nat->Int}{n:Nat}(hn:∀j<n,f j=0):dZ f n=0:=
 aCD λx hx=>by
  obtain⟨j,hj,rfl⟩:=List.mem_map.1 hx
  exact hn j (List.mem_range.1 hj)
theorem jF(b:FuncId)(caps:List PV)(f:Nat->Int)(n:Nat)(hn:n<4611686018427387904)(hf:∀k,k<n->(∀j<k,f j=0)->PF Tryz.prog b ([vi (k:Nat)]++caps) (vi (f k))):PF Tryz.prog 214 [vi (n:Nat), .fn b caps] (vi (dZ f n)):=by
 refine pF Tryz.func214 rfl λst=>?_
 repeat' first|apply wZ;rfl|show Cn _;constructor
 refine aC (X:={x:Nat//x<=n/\∀j<x,f j=0}) (λi=>((((St.nil 18 st).pv 1 (.fn b caps)).pv 7 (vi (n:Nat))).pv 8 (vi (i.1:Nat)))) (λi=>n-i.1) ⟨0,by omega,by omega⟩ ?_ λi=>?_
 ·repeat' first|show Cn _;constructor|exact rfl
 obtain⟨i,hi,a⟩:=i;dsimp only;by_cases d:n<=i
 ·rw[lR (f:=f) (n:=n) λj hj=>a j (by omega)]
  repeat' first|apply wZ;rfl|show Cn _;constructor|exact rfl|omega|intro h;simp at h
 have c:=hf i (by omega) a
 repeat' first|refine⟨⟨i+1,by omega,λj hj=>by rcases zls.1 hj with q|q;exact a j q;subst q;assumption⟩,?_,?_⟩|apply wZ;rfl|show Cn _;constructor|exact rfl|apply c|show(_:PV)=_;(rw[lP (by omega) ‹_› a]);done|apply wY;rfl|omega|simp only[zql];omega|intro h;simp at h|intro h
def gH(c:Co):Bool:=decide (c.kind=0)&&decide (c.type_=1)
def gP(t:Tb)(i:Int):Bool:=decide (i>=1)&&decide (i<t.cols.length)
def fK(t:Tb)(i:Int):Co:=t.cols[i.toNat]!
theorem dY(c:Co):PF Tryz.prog 139 [.agg c.cells] (vb (gH c)):=by
 refine pF Tryz.func139 rfl λst=>?_
 repeat' first|apply wZ;rfl|show Cn _;constructor|exact rfl
theorem vE(t:Tb)(i:Int):PF Tryz.prog 219 [.agg t.cells,vi i] (vb (gP t i)):=by
 refine pF Tryz.func219 rfl λst=>?_
 repeat' first|apply wZ;rfl|show Cn _;constructor|exact rfl|show(_:PV)=_;(rw[zql];rfl);done
def aiT(pre:List Co)(c:Co):Int:=if pY c.name=false\/c.kind<0\/c.kind>4 then 1 else if(pre.any λx=>decide (x.name=c.name))=true then 5 else if(c.type_≠1/\c.type_≠2)\/(¬(c.kind=0\/c.kind=1)/\¬(c.type_=2↔c.kind=4))then 6 else if c.null=true/\¬(c.kind=0\/c.kind=1)then 1 else 0
def tG(t:Tb)(k:Nat):Int:=aiT (t.cols.take k) t.cols[k]!
theorem aDL(x c:Co):PF Tryz.prog 216 [.agg x.cells, .rp c.cells] (vb (decide (x.name=c.name))):=by
 refine pF Tryz.func216 rfl λst=>?_
 repeat' first|apply wZ;rfl|show Cn _;constructor|exact rfl
theorem aHQ(t:Tb)(k:Nat)(hl:t.cols.length<200000000000000)(hk:k<t.cols.length):PF Tryz.prog 215 [vi (k:Nat), .rp t.cells] (vi (tG t k)):=by
 have hn:=aiL t.cols[k].name;have hc:=aBD 216 [.rp t.cols[k].cells] (λx=>decide (x.name=t.cols[k].name)) (t.cols.take k) (by rw[zlt];omega) λp=>aDL p _;have e:tG t k=aiT (t.cols.take k) t.cols[k]:=by unfold tG;rw[getElem!_pos t.cols k hk]
 rw[e];unfold aiT;generalize pY t.cols[k].name=N at*;generalize((t.cols.take k).any λx=>decide (x.name=t.cols[k].name))=A at*;have a:(((t.cols.drop 0).take (k-0)).map Co.cells)=(t.cols.take k).map Co.cells:=by simp
 refine pF Tryz.func215 rfl λst=>?_
 repeat' first|apply wZ;rfl|show Cn _;constructor|exact rfl|(first|apply hn|apply hc)|show(_:PV)=_;(congr 2;grind);done|apply bB 4;rfl;rfl|apply slS pk (f:=Co.cells) (xs:=t.cols) 0 k;(iterate 5 rfl);rotate_left;rfl;(intro _;rfl);(intro _;exact aX);(intro _;exact aL rfl rfl);(intro _;omega);(intro _;omega);rfl;rw[a]|apply wY;rfl|apply wI;rfl|apply gE;omega|intro h;simp at h|intro h
theorem akD(t:Tb)(hl:t.cols.length<200000000000000):PF Tryz.prog 137 [.agg t.cells] (vi (dZ (tG t) t.cols.length)):=by
 have e:(t.cols.map Co.cells).length=t.cols.length:=zql _;have h:=jF 215 [.rp t.cells] (tG t) (t.cols.map Co.cells).length (by omega) λk hk _=>aHQ t k hl (by omega);rw[<-e];refine pF Tryz.func137 rfl λst=>?_
 repeat' first|apply wZ;rfl|show Cn _;constructor|exact rfl|apply h|apply bB 1;rfl;rfl|apply wY;rfl
theorem sF{t:Tb}{i:Int}(h:gP t i=true):∃j:Nat,i=j/\∃h:j<t.cols.length,fK t i=t.cols[j]:=by
 unfold gP at h;simp only[zba,zde]at h;refine⟨i.toNat,by omega,by omega,?_⟩;unfold fK;rw[getElem!_pos t.cols i.toNat (by omega)]
def aeX(h:Bool)(p:Bool)(n:Bool):Int:=if h=false then 4 else if p=true then 1 else if n=false then 6 else 0
def sX(t:Tb)(k:Nat):Int:=aeX (gP t t.unique[k]!) (decide (0<k)&&decide (t.unique[k]!<=t.unique[k-1]!)) (gH (fK t t.unique[k]!))
theorem aF3(t:Tb)(k:Nat)(hl:t.cols.length<200000000000000)(hu:t.unique.length<200000000000000)(hk:k<t.unique.length):PF Tryz.prog 218 [vi (k:Nat), .rp t.cells] (vi (sX t k)):=by
 have hh:=vE t t.unique[k];have e:sX t k=aeX (gP t t.unique[k]) (decide (0<k)&&decide (t.unique[k]<=t.unique[k-1]'(by omega))) (gH (fK t t.unique[k])):=by
  unfold sX;rw[getElem!_pos t.unique k hk,getElem!_pos t.unique (k-1) (by omega)]
 rw[e];unfold aeX;cases hc:gP t t.unique[k]with
 |false=>
  rw[hc]at hh;refine pF Tryz.func218 rfl λst=>?_
  (repeat' first|apply wZ;rfl|show Cn _;constructor|exact rfl|apply hh|apply wY;rfl|apply wI;rfl|apply gE;omega)
 |true=>
  rw[hc]at hh;obtain⟨j,hj,d,b⟩:=sF hc;rw[b];have a:=dY t.cols[j];generalize gH t.cols[j]=N at*;rcases Nat.eq_zero_or_pos k with rfl|c
  ·refine pF Tryz.func218 rfl λst=>?_
   repeat' first|apply iX;(intro hw;exact(by first|rfl|exact hj|exact(show _=((0:Nat):Int)from(kJ hw).elim)));(apply gE;omega);rfl|apply wZ;rfl|show Cn _;constructor|exact rfl|(first|apply hh|apply a)|show(_:PV)=_;(congr 2;grind);done|apply wY;rfl|apply wI;rfl|omega|intro h
  ·obtain⟨m,rfl⟩:∃m,k=m+1:=⟨k-1,by omega⟩
   refine pF Tryz.func218 rfl λst=>?_
   repeat' first|apply iX;(intro hw;exact(by first|rfl|exact hj|exact(show((((m+1:Nat):Int))-1=((m:Nat):Int))from by omega)));(apply gE;omega);rfl|apply wZ;rfl|show Cn _;constructor|exact rfl|(first|apply hh|apply a)|show(_:PV)=_;(congr 2;grind);done|apply wY;rfl|apply wI;rfl|omega|intro h;simp at h|intro h
theorem akU(t:Tb)(hl:t.cols.length<200000000000000)(hu:t.unique.length<200000000000000):PF Tryz.prog 141 [.agg t.cells] (vi (dZ (sX t) t.unique.length)):=by
 have e:(t.unique.map I1).length=t.unique.length:=zql _;have h:=jF 218 [.rp t.cells] (sX t) (t.unique.map I1).length (by omega) λk hk _=>aF3 t k hl hu (by omega);rw[<-e];refine pF Tryz.func141 rfl λst=>?_
 repeat' first|apply wZ;rfl|show Cn _;constructor|exact rfl|apply h|apply bB 1;rfl;rfl|apply wY;rfl
def afT(h:Bool)(b:Bool)(p:Bool)(a:Bool)(n:Bool)(z:Bool):Int:=if h=false\/b=true then 4 else if p=true\/a=true then 1 else if n=false\/z=true then 6 else 0
def uQ(m:Nat)(t:Tb)(k:Nat):Int:=afT (gP t t.foreign[k]!.col) (decide (t.foreign[k]!.table<0)||decide (t.foreign[k]!.table>=m)) (decide (0<k)&&decide (t.foreign[k]!.col<=t.foreign[k-1]!.col)) (decide (t.foreign[k]!.act<0)||decide (t.foreign[k]!.act>2)) (gH (fK t t.foreign[k]!.col)) (decide (t.foreign[k]!.act=2)&& !(fK t t.foreign[k]!.col).null)
theorem aFW(s:Sc)(t:Tb)(k:Nat)(hl:t.cols.length<200000000000000)(hu:t.foreign.length<200000000000000)(hk:k<t.foreign.length):PF Tryz.prog 220 [vi (k:Nat), .rp t.cells, .rp (scC s)] (vi (uQ s.length t k)):=by
 have hh:=vE t t.foreign[k].col;have e:uQ s.length t k=afT (gP t t.foreign[k].col) (decide (t.foreign[k].table<0)||decide (t.foreign[k].table>=s.length)) (decide (0<k)&&decide (t.foreign[k].col<=(t.foreign[k-1]'(by omega)).col)) (decide (t.foreign[k].act<0)||decide (t.foreign[k].act>2)) (gH (fK t t.foreign[k].col)) (decide (t.foreign[k].act=2)&& !(fK t t.foreign[k].col).null):=by
  unfold uQ;rw[getElem!_pos t.foreign k hk,getElem!_pos t.foreign (k-1) (by omega)]
 rw[e];unfold afT;have el:(s.map Tb.cells).length=s.length:=zql _;rw[<-el];cases hc:gP t t.foreign[k].col with
 |false=>
  rw[hc]at hh;refine pF Tryz.func220 rfl λst=>?_
  (repeat' first|apply wZ;rfl|show Cn _;constructor|exact rfl|apply hh|apply wY;rfl|apply wI;rfl|apply gE;omega)
 |true=>
  rw[hc]at hh;obtain⟨j,hj,d,b⟩:=sF hc;rw[b];have a:=dY t.cols[j];generalize gH t.cols[j]=N at*;rcases Nat.eq_zero_or_pos k with rfl|c
  ·refine pF Tryz.func220 rfl λst=>?_
   repeat' first|apply iX;(intro hw;exact(by first|rfl|exact hj|exact(show _=((0:Nat):Int)from(kJ hw).elim)));(apply gE;omega);rfl|apply wZ;rfl|show Cn _;constructor|exact rfl|apply KR.mk;kernel_rfl|(first|apply hh|apply a)|show(_:PV)=_;(congr 2;grind);done|apply wY;rfl|apply wI;rfl|omega|intro h;simp at h
  ·obtain⟨m,rfl⟩:∃m,k=m+1:=⟨k-1,by omega⟩
   refine pF Tryz.func220 rfl λst=>?_
   repeat' first|apply iX;(intro hw;exact(by first|rfl|exact hj|exact(show((((m+1:Nat):Int))-1=((m:Nat):Int))from by omega)));(apply gE;omega);rfl|apply wZ;rfl|show Cn _;constructor|exact rfl|apply KR.mk;kernel_rfl|(first|apply hh|apply a)|show(_:PV)=_;(congr 2;grind);done|apply wY;rfl|apply wI;rfl|omega|intro h;simp at h
theorem agP(s:Sc)(t:Tb)(hl:t.cols.length<200000000000000)(hu:t.foreign.length<200000000000000):PF Tryz.prog 143 [.agg (scC s), .agg t.cells] (vi (dZ (uQ s.length t) t.foreign.length)):=by
 have e:(t.foreign.map Fr.cells).length=t.foreign.length:=zql _;have h:=jF 220 [.rp t.cells, .rp (scC s)] (uQ s.length t) (t.foreign.map Fr.cells).length (by omega) λk hk _=>aFW s t k hl hu (by omega);rw[<-e];refine pF Tryz.func143 rfl λst=>?_
 repeat' first|apply wZ;rfl|show Cn _;constructor|exact rfl|apply h|apply bB 3;rfl;rfl|apply bB 2;rfl;rfl|apply wY;rfl
def afM(h:Bool)(a:Bool)(n:Bool)(p:Bool):Int:=if h=false then 4 else if a=true then 1 else if n=false then 6 else if p=true then 5 else 0
def tE(t:Tb)(k:Nat):Int:=afM (gP t t.sums[k]!.col&&gP t t.sums[k]!.by_) ((decide (t.sums[k]!.col=t.sums[k]!.by_)||decide (t.sums[k]!.max<0))||decide (t.sums[k]!.max>1099511627776)) (gH (fK t t.sums[k]!.col)&&gH (fK t t.sums[k]!.by_)) ((t.sums.take k).any λy=>decide (y.col=t.sums[k]!.col)&&decide (y.by_=t.sums[k]!.by_))
theorem aC2(x c:Su):PF Tryz.prog 222 [.agg x.cells, .rp c.cells] (vb (decide (x.col=c.col)&&decide (x.by_=c.by_))):=by
 refine pF Tryz.func222 rfl λst=>?_
 repeat' first|apply wZ;rfl|show Cn _;constructor|exact rfl
theorem aF2(t:Tb)(k:Nat)(hl:t.cols.length<200000000000000)(hu:t.sums.length<200000000000000)(hk:k<t.sums.length):PF Tryz.prog 221 [vi (k:Nat), .rp t.cells] (vi (tE t k)):=by
 have a:=vE t t.sums[k].col;have b:=vE t t.sums[k].by_;have hc:=aAJ 222 [.rp t.sums[k].cells] (λy=>decide (y.col=t.sums[k].col)&&decide (y.by_=t.sums[k].by_)) (t.sums.take k) (by rw[zlt];omega) λp=>aC2 p _;have e:tE t k=afM (gP t t.sums[k].col&&gP t t.sums[k].by_) ((decide (t.sums[k].col=t.sums[k].by_)||decide (t.sums[k].max<0))||decide (t.sums[k].max>1099511627776)) (gH (fK t t.sums[k].col)&&gH (fK t t.sums[k].by_)) ((t.sums.take k).any λy=>decide (y.col=t.sums[k].col)&&decide (y.by_=t.sums[k].by_)):=by
  unfold tE;rw[getElem!_pos t.sums k hk]
 have m:(((t.sums.drop 0).take (k-0)).map Su.cells)=(t.sums.take k).map Su.cells:=by simp
 rw[e];unfold afM;generalize((t.sums.take k).any λy=>decide (y.col=t.sums[k].col)&&decide (y.by_=t.sums[k].by_))=A at*;cases c1:gP t t.sums[k].col with
 |false=>
  rw[c1]at a;refine pF Tryz.func221 rfl λst=>?_
  (repeat' first|apply wZ;rfl|show Cn _;constructor|exact rfl|(first|apply a|apply b)|apply bB 4;rfl;rfl|apply wY;rfl|apply wI;rfl|apply gE;omega)
 |true=>
 cases c2:gP t t.sums[k].by_ with
 |false=>
  rw[c1]at a;rw[c2]at b;refine pF Tryz.func221 rfl λst=>?_
  (repeat' first|apply wZ;rfl|show Cn _;constructor|exact rfl|(first|apply a|apply b)|apply bB 4;rfl;rfl|apply wY;rfl|apply wI;rfl|apply gE;omega)
 |true=>
  rw[c1]at a;rw[c2]at b;obtain⟨j,hj,o,d⟩:=sF c1;obtain⟨i,hi,n,c⟩:=sF c2;rw[d,c];have g:=dY t.cols[j];have l:=dY t.cols[i];generalize gH t.cols[j]=N at*;generalize gH t.cols[i]=M at*;refine pF Tryz.func221 rfl λst=>?_
  repeat' first|apply iX;(intro hw;exact(by first|rfl|exact hj|exact hi));(apply gE;omega);rfl|apply wZ;rfl|show Cn _;constructor|exact rfl|(first|apply a|apply b|apply g|apply l|apply hc)|show(_:PV)=_;(congr 2;grind);done|apply bB 4;rfl;rfl|apply slS pk (f:=Su.cells) (xs:=t.sums) 0 k;(iterate 5 rfl);rotate_left;rfl;(intro _;rfl);(intro _;exact aX);(intro _;exact aL rfl rfl);(intro _;omega);(intro _;omega);rfl;rw[m]|apply wY;rfl|apply wI;rfl|intro h;simp at h|intro h
theorem aAW(t:Tb)(hl:t.cols.length<200000000000000)(hu:t.sums.length<200000000000000):PF Tryz.prog 145 [.agg t.cells] (vi (dZ (tE t) t.sums.length)):=by
 have e:(t.sums.map Su.cells).length=t.sums.length:=zql _;have h:=jF 221 [.rp t.cells] (tE t) (t.sums.map Su.cells).length (by omega) λk hk _=>aF2 t k hl hu (by omega);rw[<-e];refine pF Tryz.func145 rfl λst=>?_
 repeat' first|apply wZ;rfl|show Cn _;constructor|exact rfl|apply h|apply bB 1;rfl;rfl|apply wY;rfl
theorem aBN(t:Tb)(n:ByteArray):PF Tryz.prog 213 [.agg t.cells, .rp [vs n]] (vb (decide (t.name=n))):=by
 refine pF Tryz.func213 rfl λst=>?_
 repeat' first|apply wZ;rfl|show Cn _;constructor|exact rfl
def aAL(s:Sc)(n:ByteArray):Int:=cY (λt:Tb=>decide (t.name=n)) s
theorem avQ(s:Sc)(n:ByteArray)(hl:s.length<200000000000000):PF Tryz.prog 134 [.agg (scC s),vs n] (.tup [vi (max (aAL s n) 0),vb (decide (aAL s n>=0))]):=by
 have h:=aA9 213 [.rp [vs n]] (λt=>decide (t.name=n)) s (by omega) λp=>aBN p n;change PF _ _ _ (vi (aAL s n))at h;generalize aAL s n=R at*;refine pF Tryz.func134 rfl λst=>?_
 repeat' first|apply wZ;rfl|show Cn _;constructor|exact rfl|apply h|apply bB 3;rfl;rfl|apply wY;rfl
def asN(s:Sc)(k:Nat):Bool:=(s.take k).any λt=>decide (t.name=s[k]!.name)
theorem aGO{α:Type}{f:α->Bool}{l:List α}{k:Nat}(hk:k<l.length)(hf:f l[k]=true):decide (max (cY f l) 0<k)=(l.take k).any f:=by
 unfold cY;cases h:l.findIdx? f with
 |none=>rw[List.findIdx?_eq_none_iff.1 h _ (zgm hk)]at hf;cases hf
 |some j=>
  obtain⟨hj,a,hn⟩:=List.findIdx?_eq_some_iff_getElem.1 h;rw[Bool.eq_iff_iff,List.any_eq_true,zde];show max ((j:Nat):Int) 0<k↔_;constructor
  ·intro q
   exact⟨l[j],List.mem_take_iff_getElem.2 ⟨j,by omega,rfl⟩,a⟩
  ·rintro⟨x,hx,b⟩
   obtain⟨i,hi,rfl⟩:=List.mem_take_iff_getElem.1 hx;rcases Nat.lt_or_ge i j with q|q
   ·exact absurd b (by simpa using hn i q)
   ·omega
def lk0(s:Sc)(k:Nat):Int:=if pY s[k]!.name=false then 1 else if asN s k=true then 5 else 0
def lk1(t:Tb):Int:=if t.cols.length<1\/t.cols.length>16\/t.checks.length>16\/t.unique.length>16\/t.foreign.length>16\/t.sums.length>16 then 2 else 0
def lk2(t:Tb):Int:=dZ (tG t) t.cols.length
def lk3(t:Tb):Int:=if gH t.cols[0]! =false\/t.cols[0]!.null=true then 6 else 0
def lk4(t:Tb):Int:=dZ (sX t) t.unique.length
def lk5(m:Nat)(t:Tb):Int:=dZ (uQ m t) t.foreign.length
def lk6(t:Tb):Int:=dZ (tE t) t.sums.length
def lks(s:Sc)(k:Nat):List Int:=[lk0 s k,lk1 s[k]!,lk2 s[k]!,lk3 s[k]!,lk4 s[k]!,lk5 s.length s[k]!,lk6 s[k]!]
def tD(s:Sc)(k:Nat):Int:=orI (lks s k)
def bT(s:Sc):Int:=if s.length<1\/s.length>16 then 2 else dZ (tD s) s.length
structure TbB (t:Tb):Prop where
 c:t.cols.length<200000000000000
 u:t.unique.length<200000000000000
 k:t.checks.length<200000000000000
 f:t.foreign.length<200000000000000
 s:t.sums.length<200000000000000
theorem aDX(s:Sc)(k:Nat)(hl:s.length<200000000000000)(hk:k<s.length):PF Tryz.prog 132 [.agg (scC s),vi (k:Nat)] (vi (lk0 s k)):=by
 have hn:=aiL s[k].name;have ht:=avQ s s[k].name hl;have hd:=aGO (f:=λt:Tb=>decide (t.name=s[k].name)) hk (decide_eq_true rfl);change decide (max (aAL s s[k].name) 0<(k:Nat))=_ at hd;have e:lk0 s k=if pY s[k].name=false then 1 else if((s.take k).any λt=>decide (t.name=s[k].name))=true then 5 else 0:=by unfold lk0 asN;rw[getElem!_pos s k hk]
 rw[e,<-hd];generalize pY s[k].name=N at*;generalize aAL s s[k].name=R at*;refine pF Tryz.func132 rfl λst=>?_
 repeat' first|apply wZ;rfl|show Cn _;constructor|exact rfl|apply KR.mk;kernel_rfl|(first|apply hn|apply ht)|show(_:PV)=_;(congr 2;grind);done|apply wY;rfl|apply wI;rfl|apply gE;omega|intro h;simp at h|intro h
theorem aEH(s:Sc)(k:Nat)(hk:k<s.length)(a:TbB s[k]):PF Tryz.prog 135 [.agg (scC s),vi (k:Nat)] (vi (lk1 s[k]!)):=by
 rw[getElem!_pos s k hk];obtain⟨b1,b2,b,c,d⟩:=a;unfold lk1;refine pF Tryz.func135 rfl λst=>?_
 repeat' first|apply wZ;rfl|show Cn _;constructor|exact rfl|show(_:PV)=_;(first|rw[zp (by omega)];done|rw[zn (by omega)];done);done|apply aLx;(iterate 6 rfl);rotate_left;rfl;rfl|apply wI;rfl|apply gE;omega|intro h;simp at h
theorem aCS(s:Sc)(k:Nat)(hk:k<s.length)(a:TbB s[k]):PF Tryz.prog 136 [.agg (scC s),vi (k:Nat)] (vi (lk2 s[k]!)):=by
 rw[getElem!_pos s k hk];have h:=akD s[k] a.c;change PF _ _ _ (vi (lk2 s[k]))at h;refine pF Tryz.func136 rfl λst=>?_
 repeat' first|apply wZ;rfl|show Cn _;constructor|exact rfl|apply h|apply wY;rfl|apply wI;rfl|apply gE;omega
theorem aEf(s:Sc)(k:Nat)(hk:k<s.length)(hc:0<s[k].cols.length):PF Tryz.prog 138 [.agg (scC s),vi (k:Nat)] (vi (lk3 s[k]!)):=by
 rw[getElem!_pos s k hk];unfold lk3;rw[getElem!_pos s[k].cols 0 hc];have h:=dY s[k].cols[0];generalize gH s[k].cols[0]=N at*;refine pF Tryz.func138 rfl λst=>?_
 repeat' first|apply wZ;rfl|show Cn _;constructor|exact rfl|apply h|show(_:PV)=_;(congr 2;grind);done|apply wY;rfl|apply wI;rfl|apply gE;omega|intro h;simp at h
theorem aEZ(s:Sc)(k:Nat)(hk:k<s.length)(a:TbB s[k]):PF Tryz.prog 140 [.agg (scC s),vi (k:Nat)] (vi (lk4 s[k]!)):=by
 rw[getElem!_pos s k hk];have h:=akU s[k] a.c a.u;change PF _ _ _ (vi (lk4 s[k]))at h;refine pF Tryz.func140 rfl λst=>?_
 repeat' first|apply wZ;rfl|show Cn _;constructor|exact rfl|apply h|apply wY;rfl|apply wI;rfl|apply gE;omega
theorem aEK(s:Sc)(k:Nat)(hk:k<s.length)(a:TbB s[k]):PF Tryz.prog 142 [.agg (scC s),vi (k:Nat)] (vi (lk5 s.length s[k]!)):=by
 rw[getElem!_pos s k hk];have h:=agP s s[k] a.c a.f;change PF _ _ _ (vi (lk5 s.length s[k]))at h;refine pF Tryz.func142 rfl λst=>?_
 repeat' first|apply wZ;rfl|show Cn _;constructor|exact rfl|apply KR.mk;kernel_rfl|apply h|apply wY;rfl|apply wI;rfl|apply gE;omega
theorem aCO(s:Sc)(k:Nat)(hk:k<s.length)(a:TbB s[k]):PF Tryz.prog 144 [.agg (scC s),vi (k:Nat)] (vi (lk6 s[k]!)):=by
 rw[getElem!_pos s k hk];have h:=aAW s[k] a.c a.s;change PF _ _ _ (vi (lk6 s[k]))at h;refine pF Tryz.func144 rfl λst=>?_
 repeat' first|apply wZ;rfl|show Cn _;constructor|exact rfl|apply h|apply wY;rfl|apply wI;rfl|apply gE;omega
def looksF :List FuncId:=[132,135,136,138,140,142,144]
theorem asL :PF Tryz.prog 75 [] (.seq (looksF.map λf=>[.fn f []])):=by
 refine pF Tryz.func75 rfl λst=>?_
 repeat' first|apply wZ;rfl|show Cn _;constructor|exact rfl
theorem ayG(s:Sc)(k:Nat):(lks s k).length=7:=rfl
theorem aCb(s:Sc)(k y:Nat)(hl:s.length<200000000000000)(hk:k<s.length)(a:TbB s[k])(hy:y<7)(hz:∀j (h:j<y),(lks s k)[j]'(by rw[ayG];omega)=0):PF Tryz.prog (looksF[y]'hy) [.agg (scC s),vi (k:Nat)] (vi ((lks s k)[y]'hy)):=by
 rcases(show y=0\/y=1\/y=2\/y=3\/y=4\/y=5\/y=6 by omega)with rfl|rfl|rfl|rfl|rfl|rfl|rfl
 ·exact aDX s k hl hk
 ·exact aEH s k hk a
 ·exact aCS s k hk a
 ·have b:lk1 s[k]! =0:=hz 1 (by omega)
  rw[getElem!_pos s k hk]at b;have:0<s[k].cols.length:=by
   unfold lk1 at b;split at b
   ·omega
   ·omega
  exact aEf s k hk this
 ·exact aEZ s k hk a
 ·exact aEK s k hk a
 ·exact aCO s k hk a
theorem zR (s:Sc) (hl:s.length<200000000000000) (hB:∀t∈s,TbB t):PF Tryz.prog 42 [.agg (scC s)] (vi (bT s)):=by
 have hlk:=asL
 unfold bT
 by_cases h16:s.length<1\/s.length>16
 ·rw [zp h16]
  refine pF Tryz.func42 rfl (λst=> ?_)
  (repeat' first|(refine ahL (λ_ _ h=>h) ?_)|apply wZ;rfl|show Cn _;constructor|exact rfl|intro h;simp at h;omega|(intro h;simp at h))
 rw [zn h16]
 refine pF Tryz.func42 rfl (λst=> ?_)
 (repeat' first|(refine ahL (λ_ _ h=>h) ?_)|(refine aBF ?_)|apply wZ;rfl|show Cn _;constructor|intro h;simp at h;omega|(intro h;simp at h))
 refine aC (X:={x:Nat//x<=s.length/\∀j<x,tD s j=0}) (λi=>(((((St.nil 39 st).var 1 24 ((scC s))).pv 3 ((vi (0)))).pv 19 ((vi (((s.map Tb.cells).length:Nat))))).pv 20 ((vi ((i.1:Nat)))))) (λi=>s.length-i.1) ⟨0,by omega,by omega⟩ ?_ (λi=> ?_)
 ·(repeat' first|show Cn _;constructor|exact rfl)
 obtain ⟨i,hi,hI⟩:=i
 dsimp only
 by_cases hend:s.length<=i
 ·rw [lR (f:=tD s) (n:=s.length) λj hj=>hI j (by omega)]
  (repeat' first|apply wZ;rfl|show Cn _;constructor|exact rfl|simp only [zql];omega|(intro h;simp at h))
 have hil:i<s.length:=by omega
 have hBi:=hB s[i] (zgm hil)
 (repeat' first|apply wZ;rfl|show Cn _;constructor|(apply hlk)|apply wY;rfl|simp only [zql];omega|(intro h;simp at h))
 refine aC (X:={x:Nat//x<=7/\∀j (h:j<x) (h7:j<7),(lks s i)[j]'h7=0}) (λy=>(((((((((St.nil 39 st).var 1 24 ((scC s))).pv 3 ((vi (0)))).pv 4 ((vi ((i:Nat))))).pv 19 ((vi (((s.map Tb.cells).length:Nat))))).pv 20 ((vi ((i:Nat))))).pv 23 (.seq (looksF.map λf=>[.fn f []]))).pv 24 ((vi ((7:Nat))))).pv 25 ((vi ((y.1:Nat)))))) (λy=>7-y.1) ⟨0,by omega,by omega⟩ ?_ (λy=> ?_)
 ·(repeat' first|show Cn _;constructor|exact rfl)
 obtain ⟨y,hy,hyI⟩:=y
 dsimp only
 by_cases hend2:7<=y
 ·have e:tD s i=0:=by
   unfold tD
   refine aCD λx hx=> ?_
   obtain ⟨j,hj,rfl⟩:=zgo hx
   exact hyI j (by rw [ayG] at hj;omega) hj
  (repeat' first|(refine ⟨⟨i+1,by omega,λj hj=>by rcases zls.1 hj with q|q;exact hI j q;subst q;exact e⟩, ?_, ?_⟩)|apply wZ;rfl|show Cn _;constructor|exact rfl|omega|simp only [zql];omega|(intro h;simp at h))
 have hy7:y<7:=by omega
 have hc:=aCb s i y hl hil hBi hy7 λj hj=>hyI j hj (by omega)
 have hF:(lks s i)[y]'hy7≠0->dZ (tD s) s.length=(lks s i)[y]'hy7:=λh=>by
  have e:tD s i=(lks s i)[y]'hy7:=aDU (l:=lks s i) hy7 h λj hj h2=>hyI j hj h2
  rw [lP hil (by rw [e];exact h) hI,e]
 have hS:(lks s i)[y]'hy7=0->∀j (h:j<y+1) (h7:j<7),(lks s i)[j]'h7=0:=λh j hj h7=>by
  rcases zls.1 hj with q|q
  ·exact hyI j q h7
  ·subst q;exact h
 generalize (lks s i)[y]'hy7=R at*
 have hrow:(looksF.map λf=>[PV.fn f []])[y]?=some [.fn (looksF[y]'hy7) []]:=axQ (f:=λf=>[PV.fn f []]) (l:=looksF) hy7
 generalize (looksF[y]'hy7)=F at*
 (repeat' first|(refine ⟨⟨y+1,by omega,hS ‹_›⟩, ?_, ?_⟩)|apply wZ;rfl|show Cn _;constructor|exact rfl|apply cL pk;(iterate 6 rfl);rotate_left;rfl;(intro hw;rfl);(intro hw;apply (λ_=>hrow)<;>omega);(intro _;rfl);rfl|(apply hc)|show (_:PV)=_;(rw [hF ‹_›]);done|show _=_;((simp only [show R=0 from by assumption]))|apply wY;rfl|omega|simp only [zql];omega|(intro h;simp at h)|intro h)
theorem aiQ(zs:List Int){st:aD}{id n:Nat}(b:st id=some (.arr 3 (zs.map I1)))(hn:zs.length=n)(a:n<4611686018427387904):
  PC Tryz.prog 22 [.vec id 1 0 n] st λ_ S=>S=upd st id (some (.arr 3 ((zs.mergeSort λx y=>decide (x<=y)).map I1))):=
 aDR (P:=Tryz.prog) aLq (by kernel_rfl) (by kernel_rfl) b hn a
theorem cG{st:aD}{id a:Nat}{o:AObj}(h:upd st id (some o) a=none):st a=none:=by
 by_cases e:a=id
 ·subst e;rw[aA]at h;cases h
 ·rwa[aB e]at h
theorem kQ :Tryz.prog.bytesOf 3=8:=by kernel_rfl
theorem asX(l:List Dt)(st:aD)(hl:l.length<1000000000000):PC Tryz.prog 205 [.seq (l.map Dt.cells)] st (LR 69 2 st (l.map Dt.cells)):=by
 refine pC Tryz.func205 rfl ?_
 repeat' first|show Cn (.r _ _ _);refine .rr ?_;(first|exact .inr ⟨rfl,hb h,zsr _⟩|exact .inl ⟨c,by rw[zql],a,aA _ _ _,bU a⟩);done|apply wZ;rfl|show Cn _;constructor|apply ap0 pk (f:=Dt.cells) l 16;(iterate 10 rfl);exactλ_=>rfl;exactλ_=>rfl;exact ayR;(omega);(omega);rfl;intro c a|apply aDN pk;(iterate 6 rfl);intro b hb|intro h
theorem ahY(l:List Dt)(st:aD)(hl:l.length<1000000000000):PC Tryz.prog 205 [.seq (l.map Dt.cells)] st λp S=>∃id,p= .vec id 2 0 l.length/\st id=none/\S=upd st id (some (.arr 69 (l.map Dt.cells))):=
 yZ (aeE (asX l st hl)) λp st' ⟨id,a,b,c⟩=>⟨p,st',zwr _,zsr _,id,by rw[a,zql],b,c⟩
def cH(xs:List Dt)(i:Nat)(a:List Dt):List Dt:=xs.take i++a++xs.drop i
theorem apW(xs:List Dt)(i:Nat)(a:List Dt):(cH xs i a).map Dt.cells=(xs.map Dt.cells).take i++a.map Dt.cells++(xs.map Dt.cells).drop i:=by
 unfold cH;rw[List.map_append,List.map_append,List.map_take,List.map_drop]
theorem rV{xs:List Dt}{i:Nat}{a:List Dt}(hi:i<=xs.length):(cH xs i a).length=xs.length+a.length:=by
 unfold cH;simp only[zla,zlt,zld];omega
def aD4(st:aD)(id:Nat)(zs:List Dt)(r:PV)(S:aD):Prop:=∃a,r= .vec a 2 0 zs.length/\upd st id none a=none/\S=upd (upd st id none) a (some (.arr 69 (zs.map Dt.cells)))
theorem aoO(xs g:List Dt)(i id n:Nat)(st:aD)(N:st id=some (.arr 69 (xs.map Dt.cells)))(hn:xs.length=n)(hi:i<=n)(hy:g≠[])(hl:n+g.length<1000000000000):PC Tryz.prog 204 [.vec id 2 0 n,vi (i:Nat), .seq (g.map Dt.cells)] st (aD4 st id (cH xs i g)):=by
 obtain⟨m,hm⟩:∃m,g.length=m:=⟨_,rfl⟩;have t:(g.map Dt.cells).length=m:=(zql _).trans hm;have U:0<m:=by rw[<-hm];exact List.length_pos_iff.2 hy
 rw[hm]at hl;have v:(cH xs i g).length=n+m:=by rw[rV (by omega),hn,hm]
 have F:=apW xs i g;have Q:=ayR;refine pC Tryz.func204 rfl ?_;by_cases M:i=n
 ·subst M
  have hz:cH xs i g=xs++g:=by unfold cH;rw[ztl (by omega),List.drop_of_length_le (by omega),List.append_nil]
  repeat' first|show Cn (.r _ _ _);refine .rr ?_;(exact⟨P,(by rw[v,hm]),kH E,(by rw[hz];rfl)⟩);done|apply wZ;rfl|show Cn _;constructor|apply apV pk (f:=Dt.cells) g 16;(iterate 9 rfl);(assumption);(omega);exactλ_=>rfl;exactλ_=>rfl;exact Q;(omega);(omega);rfl;intro P E|apply azI pk i i;(iterate 4 rfl);rotate_left;rfl;(intro _;exact aL rfl rfl);(intro _;exact aX);(intro _;omega);(intro _;omega);rfl|omega|intro h;simp at h
 have T:i<n:=by omega
 have s:(xs.map Dt.cells).length=n:=(zql _).trans hn;have x:∀r∈xs.map Dt.cells,r.all PV.one=true:=λr q=>by obtain⟨a,_,rfl⟩:=List.mem_map.1 q;rfl
 have y:∀r∈xs.map Dt.cells,r.length=2:=λr q=>by obtain⟨a,_,rfl⟩:=List.mem_map.1 q;rfl
 have B:∀r∈g.map Dt.cells,r.all PV.one=true:=λr q=>by obtain⟨a,_,rfl⟩:=List.mem_map.1 q;rfl
 have p:∀r∈g.map Dt.cells,r.length=2:=λr q=>by obtain⟨a,_,rfl⟩:=List.mem_map.1 q;rfl
 have hj:∀k,(xs.map Dt.cells++aT k 2).length=n+k:=λk=>by rw[zla,s];unfold aT;rw[List.length_replicate]
 generalize R:xs.map Dt.cells=X at*;generalize S:g.map Dt.cells=Y at*;have I:Y≠[]:=λe=>by rw[e]at t;simp at t;omega
 obtain⟨Z,W,yr,H⟩:∃c cs G,Y=(c::cs)::G:=by
  cases A:Y with
  |nil=>exact absurd A I
  |cons a b=>
   cases ha:a with
   |nil=>have:=p a (by rw[A];simp);rw[ha]at this;cases this
   |cons c cs=>exact⟨c,cs,b,rfl⟩
 refine vH 0 m (id:=id) (rows:=X) rfl N xG s (by omega) (by omega) (λk o hk d=>?_) λo d=>?_
 ·have d:st o=none:=d
  have O:(X++aT k 2).take i=X.take i:=List.take_append_of_le_length (by omega);have L:(X.take i++aT (n+m-i) 2).length=n+m:=by rw[zla,zlt];unfold aT;rw[List.length_replicate];omega
  have K:(aQ (X.take i++aT (n+m-i) 2) i Y).length=n+m:=by rw[dM (by omega),L]
  have u:aQ (aQ (X.take i++aT (n+m-i) 2) i Y) (i+m) (X.drop i)=(cH xs i g).map Dt.cells:=by rw[F];rw[<-s];exact vR t (by omega)
  repeat' first|refine Cn.any ⟨_,_,upd (upd st id none) id2 (some (.arr 69 ((cH xs i g).map Dt.cells))),rfl,zwr _,oO (by rw[u]) d,id2,(by rw[v];congr 1;omega),mQ l,rfl⟩|apply wD pk [8] [];kernel_rfl;rfl;rfl|apply wZ;rfl|show Cn _;constructor|refine amT pk (rows:=X++aT k 2) rfl rfl rfl rfl (.inr (aA _ _ _)) (by rw[hj];omega) rfl λc C D=>?_;have J:=D (aA _ _ _);rw[hj]at J|apply aaM pk (j:=i) (rows:=X++aT k 2);(iterate 4 rfl);rotate_left;rfl;rfl;exact .inr (aA _ _ _);(rw[hj];omega);exact aL rfl rfl;(rw[hj];omega)|refine apZ pk (kq:= .i64) (kn:= .i64) (i:=i) (m:=n+m-i) (sz:=2) (rows:=X++aT k 2) 16 rfl (congrArg (λz=>some (PV.val (.int .i64 z))) (show _=((n+m-i:Nat):Int)from by omega)) rfl (by kernel_rfl) rfl rfl rfl rfl (aA _ _ _) (by rw[hj];omega) (by rw[hj];omega) (by rw[hj];omega) Q (by omega) (by omega) (by omega) rfl λid2 l=>?_;rw[O];have V:o≠id2:=(λe=>by rw[<-e]at l;have l:=(aA _ _ _).symm.trans l;cases l)|apply eM pk (i) (n+m-i);(iterate 4 rfl);rotate_left;rfl;(intro _;exact⟨_,aL rfl rfl,by omega⟩);(intro _;exact⟨_,aX,by omega⟩);(intro _;omega);(intro _;omega);rfl|apply eM pk (i+m) (n-i);(iterate 4 rfl);rotate_left;rfl;(intro _;exact⟨_,aL rfl (show _=((i+m:Nat):Int)from by omega),by omega⟩);(intro _;exact⟨_,aX,by omega⟩);(intro _;omega);(intro _;omega);rfl|apply eM pk (i) (n-i);(iterate 4 rfl);rotate_left;rfl;(intro _;exact⟨_,aL rfl rfl,by omega⟩);(intro _;exact⟨_,aX,by omega⟩);(intro _;omega);(intro _;omega);rfl|refine kR pk (e:=69) (sz:=2) (rows:=X.take i++aT (n+m-i) 2) (new:=Y) (m:=Y.length) (n:=Y.length) (len:=n+m-i) rfl rfl rfl rfl rfl (aA _ _ _) (by omega) (rS aS rfl rfl rfl p B) rfl p (by omega) (by omega) rfl ?_|refine kR pk (e:=69) (sz:=2) (rows:=aQ (X.take i++aT (n+m-i) 2) i Y) (new:=X.drop i) (m:=n-i) (n:=n-i) (len:=n-i) rfl rfl rfl rfl rfl (aA _ _ _) (by omega) (mP (k:=k) rfl (.inr ((aB ‹_›).trans ((aB ‹_›).trans (aA _ _ _)))) s (by omega) xG x (by omega) (by omega)) (by rw[zld];omega) (λr q=>y r (List.mem_of_mem_drop q)) (by omega) (by omega) rfl ?_|omega|intro h;simp at h|intro h
 ·have d:st o=none:=d
  have K:(aQ (X++aT m 2) (i+m) (X.drop i)).length=n+m:=by rw[dM (by rw[zld,hj];omega),hj]
  have u:aQ (aQ (X++aT m 2) (i+m) (X.drop i)) i Y=(cH xs i g).map Dt.cells:=by rw[F];exact wS t (by omega)
  repeat' first|refine Cn.any ⟨_,_,upd (upd st id none) o (some (.arr 69 ((cH xs i g).map Dt.cells))),rfl,zwr _,oN (by rw[u]),o,(by rw[v]),kH d,rfl⟩|apply wD pk [8] [];kernel_rfl;rfl;rfl|apply wZ;rfl|show Cn _;constructor|apply eM pk (i) (n-i);(iterate 4 rfl);rotate_left;rfl;(intro _;exact⟨_,aL rfl rfl,by omega⟩);(intro _;exact⟨_,aX,by omega⟩);(intro _;omega);(intro _;omega);rfl|apply eM pk (i) (n+m-i);(iterate 4 rfl);rotate_left;rfl;(intro _;exact⟨_,aL rfl rfl,by omega⟩);(intro _;exact⟨_,aX,by omega⟩);(intro _;omega);(intro _;omega);rfl|apply eM pk (i+m) (n-i);(iterate 4 rfl);rotate_left;rfl;(intro _;exact⟨_,aL rfl (show _=((i+m:Nat):Int)from by omega),by omega⟩);(intro _;exact⟨_,aX,by omega⟩);(intro _;omega);(intro _;omega);rfl|refine amT pk (rows:=X++aT m 2) rfl rfl rfl rfl (.inl (aA _ _ _)) (by rw[hj];omega) rfl λc C D=>?_;rw[hj]at C|apply aaM pk (j:=n+m) (rows:=X++aT m 2);(iterate 4 rfl);rotate_left;rfl;rfl;exact .inl (aA _ _ _);(rw[hj];omega);exact aL rfl (show _=((n+m:Nat):Int)from by omega);(rw[hj];omega)|refine ovA pk (w:=true) (tS:=104) (tR:=4) (off:=i+m) (len:=n-i) (e:=69) (sz:=2) (rows:=X++aT m 2) rfl rfl Tryz.func271 (by kernel_rfl) (by kernel_rfl) (by kernel_rfl) (by kernel_rfl) rfl rfl rfl H rfl (.inl (aA _ _ _)) (by rw[hj];omega) xG (by omega) ?_ rfl rfl ?_;rotate_left|refine kR pk (e:=69) (sz:=2) (rows:=X++aT m 2) (new:=X.drop i) (m:=n+m-i) (n:=n-i) (len:=n-i) rfl rfl rfl rfl rfl (aA _ _ _) (by rw[hj];omega) (mP (k:=m) rfl (.inl (aA _ _ _)) s (by omega) xG x (by omega) (by omega)) (by rw[zld];omega) (λr q=>y r (List.mem_of_mem_drop q)) (by omega) (by omega) rfl ?_|refine kR pk (e:=69) (sz:=2) (rows:=aQ (X++aT m 2) (i+m) (X.drop i)) (new:=Y) (m:=Y.length) (n:=Y.length) (len:=n+m-i) rfl rfl rfl rfl rfl (aA _ _ _) (by omega) (rS aS rfl rfl rfl p B) rfl p (by omega) (by omega) rfl ?_|omega|intro h;simp at h|intro h
theorem aHq(xs a:List Dt)(i id n:Nat)(z:Int)(st:aD)(b:st id=some (.arr 69 (xs.map Dt.cells)))(hn:xs.length=n)(hz:z=((i:Nat):Int))(hi:i<=n)(hy:a≠[])(hl:n+a.length<1000000000000):PC Tryz.prog 204 [.vec id 2 0 n,vi z, .seq (a.map Dt.cells)] st (aD4 st id (cH xs i a)):=by
 subst hz;exact aoO xs a i id n st b hn hi hy hl
theorem iO{st:aD}{id id2:Nat}{o:Option AObj}(a:st id=none)(h:upd (upd st id o) id none id2=none):st id2=none:=by
 by_cases e:id2=id
 ·rw[e];exact a
 ·rwa[aB e,aB e]at h
theorem kX{st:aD}{id id2:Nat}{o b:Option AObj}(c:st id=none):StSub (upd st id2 b) (upd (upd (upd st id o) id none) id2 b):=λj=>by
 by_cases e:j=id2
 ·subst e;right;rw[aA,aA]
 ·rw[aB e,aB e]
  by_cases a:j=id
  ·subst a;left;exact c
  ·right;rw[aB a,aB a]
theorem amW(x d:Dt):PF Tryz.prog 203 [.agg x.cells, .rp d.cells] (vb (aW x d)):=by
 refine pF Tryz.func203 rfl λst=>?_
 repeat' first|apply wZ;rfl|show Cn _;constructor|exact rfl|apply aoI x d|show(_:PV)=_;(rw[<-awZ]);done|apply wY;rfl
def gC(l:List Dt)(d:Dt):Nat:=(l.findIdx? λx=>aW x d).getD l.length
theorem arO(l:List Dt)(d:Dt):gC l d<=l.length:=by
 unfold gC;cases h:l.findIdx? λx=>aW x d with
 |none=>exact Nat.le_refl _
 |some k=>exact Nat.le_of_lt (List.findIdx?_eq_some_iff_getElem.1 h).1
def dD(a:Ln)(d:Dt):Ln:=if d∈a.by_ then a else{a with by_:=cH a.by_ (gC a.by_ d) [d]}
theorem aFp(a:Ln)(d:Dt)(st:aD)(hl:a.by_.length<100000000000):PC Tryz.prog 123 [.agg a.cells, .agg d.cells] st λr S=>(r= .agg a.cells/\S=st/\d∈a.by_)\/(d∉a.by_/\∃id,r= .agg [vi a.key, .seq (a.cells_.map Cl.cells), .vec id 2 0 (cH a.by_ (gC a.by_ d) [d]).length]/\st id=none/\S=upd st id (some (.arr 69 ((cH a.by_ (gC a.by_ d) [d]).map Dt.cells)))):=by
 have hc:=agG a.by_ d (by omega);have hi:=aAV 203 [.rp d.cells] (λx=>aW x d) a.by_ (by omega) λx=>amW x d;have f:(a.by_.any λy=>decide (d=y))=decide (d∈a.by_):=by
  rw[Bool.eq_iff_iff,List.any_eq_true,zde];constructor
  ·rintro⟨y,hy,e⟩;rw[of_decide_eq_true e];exact hy
  ·exactλh=>⟨d,h,decide_eq_true rfl⟩
 rw[f]at hc;by_cases hd:d∈a.by_
 ·rw[decide_eq_true hd]at hc
  refine pC Tryz.func123 rfl ?_
  repeat' first|apply Cn.cf;focus((apply hc);done)|show Cn (.r _ _ _);refine .rr ?_;(exact .inl ⟨rfl,rfl,hd⟩);done|apply wZ;rfl|show Cn _;constructor|apply wY;rfl
 rw[decide_eq_false hd]at hc;obtain⟨k,hk⟩:∃k,gC a.by_ d=k:=⟨_,rfl⟩;have c:=arO a.by_ d;rw[hk]at c⊢;have g:(cH a.by_ k [d]).length=a.by_.length+1:=rV c;rcases Nat.lt_or_ge k a.by_.length with l|i
 ·have b:cY (λx=>aW x d) a.by_=((k:Nat):Int):=by
   unfold cY;unfold gC at hk;cases h:a.by_.findIdx? λx=>aW x d with
   |none=>rw[h]at hk;simp at hk;omega
   |some j=>rw[h]at hk;simp at hk;simp[hk]
  rw[b]at hi;refine pC Tryz.func123 rfl ?_
  repeat' first|exact Cn.any ⟨_,_,upd st id2 (some (.arr 69 ((cH a.by_ k [d]).map Dt.cells))),rfl,zwr _,kX hid, .inr ⟨hd,id2,rfl,iO hid hid2,rfl⟩⟩|apply wDO pk [0,1,3,4,5,2,6,7,8] [2,6] [] [5,6] [];rfl;rfl;kernel_rfl;rfl;rfl|apply Cn.cf;focus(((first|apply hc|apply hi));done)|apply cP;rfl;(apply(ahY a.by_ _ (by omega)));rintro _ st' (⟨id,rfl,hid,rfl⟩)|apply cP;rfl;(apply(aoO a.by_ [d] k id a.by_.length _ (aA _ _ _) rfl (by omega) (by simp) (by simp;omega)));rintro _ st' (⟨id2,rfl,hid2,rfl⟩)|apply wZ;rfl|show Cn _;constructor|apply bB 3;rfl;rfl|apply wY;rfl
 ·obtain rfl:k=a.by_.length:=by omega
  have b:cY (λx=>aW x d) a.by_= -1:=by
   unfold cY;unfold gC at hk;cases h:a.by_.findIdx? λx=>aW x d with
   |none=>rfl
   |some j=>
    have:=(List.findIdx?_eq_some_iff_getElem.1 h).1;rw[h]at hk;simp at hk;omega
  rw[b]at hi;refine pC Tryz.func123 rfl ?_
  repeat' first|exact Cn.any ⟨_,_,upd st id2 (some (.arr 69 ((cH a.by_ a.by_.length [d]).map Dt.cells))),rfl,zwr _,kX hid, .inr ⟨hd,id2,rfl,iO hid hid2,rfl⟩⟩|apply wDO pk [0,1,3,4,5,2,6,7,8] [2,6] [] [5,6] [];rfl;rfl;kernel_rfl;rfl;rfl|apply Cn.cf;focus(((first|apply hc|apply hi));done)|apply cP;rfl;(apply(ahY a.by_ _ (by omega)));rintro _ st' (⟨id,rfl,hid,rfl⟩)|apply cP;rfl;(apply(aHq a.by_ [d] a.by_.length id a.by_.length _ _ (aA _ _ _) rfl (by simp) (by omega) (by simp) (by simp;omega)));rintro _ st' (⟨id2,rfl,hid2,rfl⟩)|apply wZ;rfl|show Cn _;constructor|apply bB 3;rfl;rfl|apply wY;rfl
theorem adU(a:Ln)(d:Dt)(hl:a.by_.length<100000000000):PF Tryz.prog 123 [.agg a.cells, .agg d.cells] (.agg (dD a d).cells):=λst=>
 fD (sz:=2) (aFp a d st hl) λp st' h=>by
  rcases h with⟨rfl,rfl,hd⟩|⟨hd,id,rfl,b,rfl⟩
  ·exact .inr ⟨_,_,zwr _,zsr _,by rw[dD,zp hd],rfl⟩
  ·refine .inl ⟨id,69,(cH a.by_ (gC a.by_ d) [d]).map Dt.cells,_,st,aA _ _ _,xG, .agg (.cons .refl (.cons .refl (.cons ?_ .nil))),bU b,by rw[dD,zn hd];rfl,rfl⟩
   have e:((cH a.by_ (gC a.by_ d) [d]).map Dt.cells).length=(cH a.by_ (gC a.by_ d) [d]).length:=zql _;rw[<-e];exact .all
theorem asD(l:List Ln)(st:aD)(hl:l.length<1000000000000):PC Tryz.prog 71 [.seq (l.map Ln.cells)] st (LR 106 3 st (l.map Ln.cells)):=by
 refine pC Tryz.func71 rfl ?_
 repeat' first|show Cn (.r _ _ _);refine .rr ?_;(first|exact .inr ⟨rfl,hb h,zsr _⟩|exact .inl ⟨c,by rw[zql],a,aA _ _ _,bU a⟩);done|apply wZ;rfl|show Cn _;constructor|apply ap0 pk (f:=Ln.cells) l 56;(iterate 10 rfl);exactλ_=>rfl;exactλ_=>rfl;exact ajW;(omega);(omega);rfl;intro c a|apply aDN pk;(iterate 6 rfl);intro b hb|intro h
theorem ahZ(l:List Ln)(st:aD)(hl:l.length<1000000000000):PC Tryz.prog 71 [.seq (l.map Ln.cells)] st λp S=>∃id,p= .vec id 3 0 l.length/\st id=none/\S=upd st id (some (.arr 106 (l.map Ln.cells))):=
 yZ (aeE (asD l st hl)) λp st' ⟨id,a,b,c⟩=>⟨p,st',zwr _,zsr _,id,by rw[a,zql],b,c⟩
theorem arY(l:List Da)(st:aD)(hl:l.length<1000000000000):PC Tryz.prog 131 [.seq (l.map Da.cells)] st (LR 101 1 st (l.map Da.cells)):=by
 refine pC Tryz.func131 rfl ?_
 repeat' first|show Cn (.r _ _ _);refine .rr ?_;(first|exact .inr ⟨rfl,hb h,zsr _⟩|exact .inl ⟨c,by rw[zql],a,aA _ _ _,bU a⟩);done|apply wZ;rfl|show Cn _;constructor|apply ap0 pk (f:=Da.cells) l 24;(iterate 10 rfl);exactλ_=>rfl;exactλ_=>rfl;exact ajV;(omega);(omega);rfl;intro c a|apply aDN pk;(iterate 6 rfl);intro b hb|intro h
theorem aCc(l:List Da)(st:aD)(hl:l.length<1000000000000):PC Tryz.prog 131 [.seq (l.map Da.cells)] st λp S=>∃id,p= .vec id 1 0 l.length/\st id=none/\S=upd st id (some (.arr 101 (l.map Da.cells))):=
 yZ (aeE (arY l st hl)) λp st' ⟨id,a,b,c⟩=>⟨p,st',zwr _,zsr _,id,by rw[a,zql],b,c⟩
def eD(xs:List Ln)(i:Nat)(a:List Ln):List Ln:=xs.take i++a++xs.drop i
theorem apH(xs:List Ln)(i:Nat)(a:List Ln):(eD xs i a).map Ln.cells=(xs.map Ln.cells).take i++a.map Ln.cells++(xs.map Ln.cells).drop i:=by
 unfold eD;rw[List.map_append,List.map_append,List.map_take,List.map_drop]
theorem aaA{xs:List Ln}{i:Nat}{a:List Ln}(hi:i<=xs.length):(eD xs i a).length=xs.length+a.length:=by
 unfold eD;simp only[zla,zlt,zld];omega
def aJP(st:aD)(id:Nat)(zs:List Ln)(r:PV)(S:aD):Prop:=∃a,r= .vec a 3 0 zs.length/\upd st id none a=none/\S=upd (upd st id none) a (some (.arr 106 (zs.map Ln.cells)))
theorem aDj(xs g:List Ln)(i id n:Nat)(st:aD)(N:st id=some (.arr 106 (xs.map Ln.cells)))(hn:xs.length=n)(hi:i<=n)(hy:g≠[])(hl:n+g.length<1000000000000):PC Tryz.prog 73 [.vec id 3 0 n,vi (i:Nat), .seq (g.map Ln.cells)] st (aJP st id (eD xs i g)):=by
 obtain⟨m,hm⟩:∃m,g.length=m:=⟨_,rfl⟩;have t:(g.map Ln.cells).length=m:=(zql _).trans hm;have U:0<m:=by rw[<-hm];exact List.length_pos_iff.2 hy
 rw[hm]at hl;have v:(eD xs i g).length=n+m:=by rw[aaA (by omega),hn,hm]
 have F:=apH xs i g;have Q:=ajW;refine pC Tryz.func73 rfl ?_;by_cases M:i=n
 ·subst M
  have hz:eD xs i g=xs++g:=by unfold eD;rw[ztl (by omega),List.drop_of_length_le (by omega),List.append_nil]
  repeat' first|show Cn (.r _ _ _);refine .rr ?_;(exact⟨P,(by rw[v,hm]),kH E,(by rw[hz];rfl)⟩);done|apply wZ;rfl|show Cn _;constructor|apply apV pk (f:=Ln.cells) g 56;(iterate 9 rfl);(assumption);(omega);exactλ_=>rfl;exactλ_=>rfl;exact Q;(omega);(omega);rfl;intro P E|apply azI pk i i;(iterate 4 rfl);rotate_left;rfl;(intro _;exact aL rfl rfl);(intro _;exact aX);(intro _;omega);(intro _;omega);rfl|omega|intro h;simp at h
 have T:i<n:=by omega
 have s:(xs.map Ln.cells).length=n:=(zql _).trans hn;have x:∀r∈xs.map Ln.cells,r.all PV.one=true:=λr q=>by obtain⟨a,_,rfl⟩:=List.mem_map.1 q;rfl
 have y:∀r∈xs.map Ln.cells,r.length=3:=λr q=>by obtain⟨a,_,rfl⟩:=List.mem_map.1 q;rfl
 have B:∀r∈g.map Ln.cells,r.all PV.one=true:=λr q=>by obtain⟨a,_,rfl⟩:=List.mem_map.1 q;rfl
 have p:∀r∈g.map Ln.cells,r.length=3:=λr q=>by obtain⟨a,_,rfl⟩:=List.mem_map.1 q;rfl
 have hj:∀k,(xs.map Ln.cells++aT k 3).length=n+k:=λk=>by rw[zla,s];unfold aT;rw[List.length_replicate]
 generalize R:xs.map Ln.cells=X at*;generalize S:g.map Ln.cells=Y at*;have I:Y≠[]:=λe=>by rw[e]at t;simp at t;omega
 obtain⟨Z,W,yr,H⟩:∃c cs G,Y=(c::cs)::G:=by
  cases A:Y with
  |nil=>exact absurd A I
  |cons a b=>
   cases ha:a with
   |nil=>have:=p a (by rw[A];simp);rw[ha]at this;cases this
   |cons c cs=>exact⟨c,cs,b,rfl⟩
 refine vH 0 m (id:=id) (rows:=X) rfl N sC s (by omega) (by omega) (λk o hk d=>?_) λo d=>?_
 ·have d:st o=none:=d
  have O:(X++aT k 3).take i=X.take i:=List.take_append_of_le_length (by omega);have L:(X.take i++aT (n+m-i) 3).length=n+m:=by rw[zla,zlt];unfold aT;rw[List.length_replicate];omega
  have K:(aQ (X.take i++aT (n+m-i) 3) i Y).length=n+m:=by rw[dM (by omega),L]
  have u:aQ (aQ (X.take i++aT (n+m-i) 3) i Y) (i+m) (X.drop i)=(eD xs i g).map Ln.cells:=by rw[F];rw[<-s];exact vR t (by omega)
  repeat' first|refine Cn.any ⟨_,_,upd (upd st id none) id2 (some (.arr 106 ((eD xs i g).map Ln.cells))),rfl,zwr _,oO (by rw[u]) d,id2,(by rw[v];congr 1;omega),mQ l,rfl⟩|apply wD pk [8] [];kernel_rfl;rfl;rfl|apply wZ;rfl|show Cn _;constructor|refine amT pk (rows:=X++aT k 3) rfl rfl rfl rfl (.inr (aA _ _ _)) (by rw[hj];omega) rfl λc C D=>?_;have J:=D (aA _ _ _);rw[hj]at J|apply aaM pk (j:=i) (rows:=X++aT k 3);(iterate 4 rfl);rotate_left;rfl;rfl;exact .inr (aA _ _ _);(rw[hj];omega);exact aL rfl rfl;(rw[hj];omega)|refine apZ pk (kq:= .i64) (kn:= .i64) (i:=i) (m:=n+m-i) (sz:=3) (rows:=X++aT k 3) 56 rfl (congrArg (λz=>some (PV.val (.int .i64 z))) (show _=((n+m-i:Nat):Int)from by omega)) rfl (by kernel_rfl) rfl rfl rfl rfl (aA _ _ _) (by rw[hj];omega) (by rw[hj];omega) (by rw[hj];omega) Q (by omega) (by omega) (by omega) rfl λid2 l=>?_;rw[O];have V:o≠id2:=(λe=>by rw[<-e]at l;have l:=(aA _ _ _).symm.trans l;cases l)|apply eM pk (i) (n+m-i);(iterate 4 rfl);rotate_left;rfl;(intro _;exact⟨_,aL rfl rfl,by omega⟩);(intro _;exact⟨_,aX,by omega⟩);(intro _;omega);(intro _;omega);rfl|apply eM pk (i+m) (n-i);(iterate 4 rfl);rotate_left;rfl;(intro _;exact⟨_,aL rfl (show _=((i+m:Nat):Int)from by omega),by omega⟩);(intro _;exact⟨_,aX,by omega⟩);(intro _;omega);(intro _;omega);rfl|apply eM pk (i) (n-i);(iterate 4 rfl);rotate_left;rfl;(intro _;exact⟨_,aL rfl rfl,by omega⟩);(intro _;exact⟨_,aX,by omega⟩);(intro _;omega);(intro _;omega);rfl|refine kR pk (e:=106) (sz:=3) (rows:=X.take i++aT (n+m-i) 3) (new:=Y) (m:=Y.length) (n:=Y.length) (len:=n+m-i) rfl rfl rfl rfl rfl (aA _ _ _) (by omega) (rS aS rfl rfl rfl p B) rfl p (by omega) (by omega) rfl ?_|refine kR pk (e:=106) (sz:=3) (rows:=aQ (X.take i++aT (n+m-i) 3) i Y) (new:=X.drop i) (m:=n-i) (n:=n-i) (len:=n-i) rfl rfl rfl rfl rfl (aA _ _ _) (by omega) (mP (k:=k) rfl (.inr ((aB ‹_›).trans ((aB ‹_›).trans (aA _ _ _)))) s (by omega) sC x (by omega) (by omega)) (by rw[zld];omega) (λr q=>y r (List.mem_of_mem_drop q)) (by omega) (by omega) rfl ?_|omega|intro h;simp at h|intro h
 ·have d:st o=none:=d
  have K:(aQ (X++aT m 3) (i+m) (X.drop i)).length=n+m:=by rw[dM (by rw[zld,hj];omega),hj]
  have u:aQ (aQ (X++aT m 3) (i+m) (X.drop i)) i Y=(eD xs i g).map Ln.cells:=by rw[F];exact wS t (by omega)
  repeat' first|refine Cn.any ⟨_,_,upd (upd st id none) o (some (.arr 106 ((eD xs i g).map Ln.cells))),rfl,zwr _,oN (by rw[u]),o,(by rw[v]),kH d,rfl⟩|apply wD pk [8] [];kernel_rfl;rfl;rfl|apply wZ;rfl|show Cn _;constructor|apply eM pk (i) (n-i);(iterate 4 rfl);rotate_left;rfl;(intro _;exact⟨_,aL rfl rfl,by omega⟩);(intro _;exact⟨_,aX,by omega⟩);(intro _;omega);(intro _;omega);rfl|apply eM pk (i) (n+m-i);(iterate 4 rfl);rotate_left;rfl;(intro _;exact⟨_,aL rfl rfl,by omega⟩);(intro _;exact⟨_,aX,by omega⟩);(intro _;omega);(intro _;omega);rfl|apply eM pk (i+m) (n-i);(iterate 4 rfl);rotate_left;rfl;(intro _;exact⟨_,aL rfl (show _=((i+m:Nat):Int)from by omega),by omega⟩);(intro _;exact⟨_,aX,by omega⟩);(intro _;omega);(intro _;omega);rfl|refine amT pk (rows:=X++aT m 3) rfl rfl rfl rfl (.inl (aA _ _ _)) (by rw[hj];omega) rfl λc C D=>?_;rw[hj]at C|apply aaM pk (j:=n+m) (rows:=X++aT m 3);(iterate 4 rfl);rotate_left;rfl;rfl;exact .inl (aA _ _ _);(rw[hj];omega);exact aL rfl (show _=((n+m:Nat):Int)from by omega);(rw[hj];omega)|refine ovA pk (w:=true) (tS:=99) (tR:=4) (off:=i+m) (len:=n-i) (e:=106) (sz:=3) (rows:=X++aT m 3) rfl rfl Tryz.func129 (by kernel_rfl) (by kernel_rfl) (by kernel_rfl) (by kernel_rfl) rfl rfl rfl H rfl (.inl (aA _ _ _)) (by rw[hj];omega) sC (by omega) ?_ rfl rfl ?_;rotate_left|refine kR pk (e:=106) (sz:=3) (rows:=X++aT m 3) (new:=X.drop i) (m:=n+m-i) (n:=n-i) (len:=n-i) rfl rfl rfl rfl rfl (aA _ _ _) (by rw[hj];omega) (mP (k:=m) rfl (.inl (aA _ _ _)) s (by omega) sC x (by omega) (by omega)) (by rw[zld];omega) (λr q=>y r (List.mem_of_mem_drop q)) (by omega) (by omega) rfl ?_|refine kR pk (e:=106) (sz:=3) (rows:=aQ (X++aT m 3) (i+m) (X.drop i)) (new:=Y) (m:=Y.length) (n:=Y.length) (len:=n+m-i) rfl rfl rfl rfl rfl (aA _ _ _) (by omega) (rS aS rfl rfl rfl p B) rfl p (by omega) (by omega) rfl ?_|omega|intro h;simp at h|intro h
abbrev Bs :=List Da
def bsC(b:Bs):List PV:=[.seq (b.map Da.cells)]
def okT(b:Bs)(k:Int):Bool:=decide (0<=k)&&decide (k<b.length)
def aF(b:Bs)(k:Int):List Ln:=if okT b k then(b[k.toNat]!).lines else[]
theorem ayP(b:Bs)(k:Int)(h:okT b k=false):PF Tryz.prog 69 [.agg (bsC b),vi k] (.tup [.agg [.seq [], .seq [],vi 0],vb false]):=by
 unfold okT at h;simp only[Bool.and_eq_false_iff,decide_eq_false_iff_not]at h;refine pF Tryz.func69 rfl λst=>?_
 repeat' first|show Cn (.e _ _ _ _);refine .any ?_;(refine⟨_,_,_,rfl,zwf _,zsr _,?_,rfl⟩;(rfl))|apply wZ;rfl|show Cn _;constructor|intro h;simp at h;omega|intro h;simp at h
theorem aeN(b:Bs)(k:Nat)(h:k<b.length):PF Tryz.prog 69 [.agg (bsC b),vi (k:Nat)] (.tup [.agg [.seq (b[k].lines.map Ln.cells), .seq (b.map Da.cells),vi (k:Nat)],vb true]):=by
 refine pF Tryz.func69 rfl λst=>?_
 repeat' first|apply wZ;rfl|show Cn _;constructor|exact rfl|apply KR.mk;kernel_rfl|apply wI;rfl|apply gE;omega|simp only[zql];omega|intro h;simp at h
theorem aDC(x:Ln)(k:Int):PF Tryz.prog 127 [.agg x.cells, .rp [vi k]] (vb (decide (x.key=k))):=by
 refine pF Tryz.func127 rfl λst=>?_
 repeat' first|apply wZ;rfl|show Cn _;constructor|exact rfl
theorem aFy(x:Ln)(k:Int):PF Tryz.prog 128 [.agg x.cells, .rp [vi k]] (vb (decide (x.key>k))):=by
 refine pF Tryz.func128 rfl λst=>?_
 repeat' first|apply wZ;rfl|show Cn _;constructor|exact rfl
def atP(l:List Ln)(k:Int):Int×Bool:=
 if cY (λx=>decide (x.key=k)) l>=0 then(cY (λx=>decide (x.key=k)) l,true)
 else if cY (λx=>decide (x.key>k)) l>=0 then(cY (λx=>decide (x.key>k)) l,false)else(l.length,false)
theorem alH(l:List Ln)(k:Int)(hl:l.length<1000000000000):PF Tryz.prog 72 [.seq (l.map Ln.cells),vi k] (.tup [vi ((atP l k).1),vb ((atP l k).2)]):=by
 have a:=ahW 127 [.rp [vi k]] (λx=>decide (x.key=k)) l (by omega) λx=>aDC x k;have b:=ahW 128 [.rp [vi k]] (λx=>decide (x.key>k)) l (by omega) λx=>aFy x k;unfold atP;generalize cY (λx=>decide (x.key=k)) l=A at*;generalize cY (λx=>decide (x.key>k)) l=B at*;refine pF Tryz.func72 rfl λst=>?_
 repeat' first|apply wZ;rfl|show Cn _;constructor|exact rfl|(first|apply a|apply b)|show(_:PV)=_;(first|rw[zp (by omega)];done|rw[zn (by omega),zp (by omega)];done|rw[zn (by omega),zn (by omega)];simp);done|apply bB 3;rfl;rfl|apply wY;rfl|intro h;simp at h
theorem aAU{st:aD}{id:Nat}{o:Option AObj}{a b:AObj}(h:b=a):StSub (upd st id (some a)) (upd (upd st id o) id (some b)):=λj=>by
 subst h
 right
 by_cases e:j=id
 ·subst e;rw[aA,aA]
 ·simp only[aB e]
theorem aFO(b:Bs)(a c:List Ln)(k:Nat)(st:aD)(hk:k<b.length)(hl:b.length<100000000000):PC Tryz.prog 74 [.agg [.seq (c.map Ln.cells), .seq (b.map Da.cells),vi (k:Nat)], .seq (a.map Ln.cells)] st λr S=>∃id,r= .agg [.vec id 1 0 b.length]/\st id=none/\S=upd st id (some (.arr 101 ((b.set k ⟨a⟩).map Da.cells))):=by
 refine pC Tryz.func74 rfl ?_
 repeat' first|refine Cn.any ⟨_,_,upd st id (some (.arr 101 ((b.set k ⟨a⟩).map Da.cells))),rfl,zwr _,?_,id,rfl,hid,rfl⟩;exact aAU (by simp)|apply cP;rfl;(apply(aCc b _ (by omega)));rintro _ st' (⟨id,rfl,hid,rfl⟩)|apply wZ;rfl|show Cn _;constructor|apply ixA pk;(iterate 5 rfl);rotate_left;rfl;(intro hw;(exact(show _=((k:Nat):Int)from by omega)));(intro hw;(omega));rfl;(exact Nat.zero_add _)|apply stA pk Da.elem;rfl;rfl;rfl;(exact aA _ _ _);(omega);rfl|apply wY;rfl
theorem aAP(b:Bs)(a c:List Ln)(k:Nat)(hk:k<b.length)(hl:b.length<100000000000):PF Tryz.prog 74 [.agg [.seq (c.map Ln.cells), .seq (b.map Da.cells),vi (k:Nat)], .seq (a.map Ln.cells)] (.agg (bsC (b.set k ⟨a⟩))):=λst=>
 fD (sz:=1) (aFO b a c k st hk hl) λp st' h=>by
  obtain⟨id,rfl,d,rfl⟩:=h
  refine .inl ⟨id,101,(b.set k ⟨a⟩).map Da.cells,_,st,aA _ _ _,akB, .agg (.cons ?_ .nil),bU d,rfl,rfl⟩
  have e:((b.set k ⟨a⟩).map Da.cells).length=b.length:=by simp
  rw[<-e];exact .all
theorem aCA(b:Bs)(a d:List Ln)(k id n:Nat)(st:aD)(c:st id=some (.arr 106 (a.map Ln.cells)))(hn:a.length=n)(hk:k<b.length)(hl:b.length<100000000000):PC Tryz.prog 74 [.agg [.seq (d.map Ln.cells), .seq (b.map Da.cells),vi (k:Nat)], .vec id 3 0 n] st λr S=>r= .agg (bsC (b.set k ⟨a⟩))/\S=upd st id none:=
 PC.freeze2 c sC ((zql _).trans hn) (aAP b a d k hk hl _)
theorem adB{α:Type}(f:α->Bool)(l:List α):(∃j:Nat,j<l.length/\cY f l=j)\/cY f l= -1:=by
 unfold cY;cases h:l.findIdx? f with
 |none=>exact .inr rfl
 |some j=>exact .inl ⟨j,(List.findIdx?_eq_some_iff_getElem.1 h).1,rfl⟩
theorem amM(l:List Ln)(k:Int):∃j:Nat,j<=l.length/\(atP l k).1=j/\((atP l k).2=true->j<l.length):=by
 unfold atP;rcases adB (λx:Ln=>decide (x.key=k)) l with⟨j,hj,e⟩|e
 ·rw[zp (by omega)];exact⟨j,by omega,e,λ_=>hj⟩
 ·rw[zn (by omega)]
  rcases adB (λx:Ln=>decide (x.key>k)) l with⟨j,hj,e⟩|e
  ·rw[zp (by omega)];exact⟨j,by omega,e,λh=>by cases h⟩
  ·rw[zn (by omega)];exact⟨l.length,Nat.le_refl _,rfl,λh=>by cases h⟩
def qN(l:List Ln)(a:Ln):List Ln:=if(atP l a.key).2 then l.set (atP l a.key).1.toNat a else eD l (atP l a.key).1.toNat [a]
def vM(b:Bs)(k:Int)(a:Ln):Bs:=if okT b k then b.set k.toNat ⟨qN (aF b k) a⟩else b
theorem acH(b:Bs)(k:Int)(a:Ln)(hl:b.length<100000000000)(e:∀d∈b,d.lines.length<100000000000):PF Tryz.prog 40 [.agg (bsC b),vi k, .agg a.cells] (.agg (bsC (vM b k a))):=by
 unfold vM;cases c:okT b k with
 |false=>
  have ho:=ayP b k c;rw[zn (by simp)];refine pF Tryz.func40 rfl λst=>?_
  (repeat' first|apply wZ;rfl|show Cn _;constructor|exact rfl|apply ho|apply wY;rfl)
 |true=>
  obtain⟨q,rfl,hq⟩:∃q:Nat,k=q/\q<b.length:=by
   unfold okT at c;simp only[zba,zde]at c;exact⟨k.toNat,by omega,by omega⟩
  have ho:=aeN b q hq;have m:=e b[q] (zgm hq);have f:aF b q=b[q].lines:=by unfold aF;rw[zp c];simp[hq]
  rw[zp rfl,f,Int.toNat_natCast];generalize i:b[q].lines=L at*;have ha:=alH L a.key (by omega);obtain⟨j,hj,g,h⟩:=amM L a.key;unfold qN;rw[g]at ha⊢;rw[Int.toNat_natCast];cases hf:(atP L a.key).2 with
  |true=>
   have l:=h hf;rw[hf]at ha;rw[zp rfl];refine pF Tryz.func40 rfl λst=>?_
   (repeat' first|exact Cn.any ⟨_,_,st,rfl,zwr _,aR (aR (aR (zsr _) hid) hid) hid,(by rw[show(L.toArray.setIfInBounds j a).toList=L.set j a from by simp];rfl),rfl⟩|apply Cn.cf;focus(((first|apply ho|apply ha));done)|apply cP;rfl;(apply(ahZ L _ (by omega)));rintro _ st' (⟨id,rfl,hid,rfl⟩)|apply cP;rfl;(apply(aCA b ((L.toArray.setIfInBounds j a).toList) L q id L.length _ (aA _ _ _) (by simp) hq hl));(rintro _ st' ⟨rfl,rfl⟩)|apply wZ;rfl|show Cn _;constructor|apply ixA pk;(iterate 5 rfl);rotate_left;rfl;(intro hw;(exact(show _=((j:Nat):Int)from by omega)));(intro hw;(omega));rfl;(exact Nat.zero_add _)|apply stA pk Ln.elem;rfl;rfl;rfl;(exact aA _ _ _);(omega);rfl|apply wY;rfl)
  |false=>
   rw[hf]at ha;rw[zn (by simp)];refine pF Tryz.func40 rfl λst=>?_
   repeat' first|exact Cn.any ⟨_,_,st,rfl,zwr _,aR (aR (aR (aR (zsr _) hid) hid) (iO hid hid2)) (iO hid hid2),rfl,rfl⟩|apply Cn.cf;focus(((first|apply ho|apply ha));done)|apply cP;rfl;(apply(ahZ L _ (by omega)));rintro _ st' (⟨id,rfl,hid,rfl⟩)|apply cP;rfl;(apply(aDj L [a] j id L.length _ (aA _ _ _) rfl hj (by simp) (by simp;omega)));rintro _ st' (⟨id2,rfl,hid2,rfl⟩)|apply cP;rfl;(apply aCA b (eD L j [a]) L q id2 (eD L j [a]).length _ (aA _ _ _) rfl hq hl);(rintro _ st' ⟨rfl,rfl⟩)|apply wZ;rfl|show Cn _;constructor|apply wY;rfl
theorem aIE(k:Int):atP [] k=(0,false):=rfl
theorem afL(b:Bs)(k:Int):PF Tryz.prog 93 [.agg (bsC b),vi k] (.seq ((aF b k).map Ln.cells)):=by
 cases a:okT b k with
 |false=>
  have e:aF b k=[]:=by unfold aF;rw[a];rfl
  rw[e];unfold okT at a;simp only[Bool.and_eq_false_iff,decide_eq_false_iff_not]at a;refine pF Tryz.func93 rfl λst=>?_
  (repeat' first|show Cn (.e _ _ _ _);refine .any ?_;(first|refine⟨_,_,_,rfl,zwr _,zsr _,?_,rfl⟩;(first|rfl)|refine⟨_,_,_,rfl,zwr _,bK ‹_›,?_,rfl⟩;(first|rfl)|refine⟨_,_,_,rfl,zwf _,zsr _,?_,rfl⟩;(first|rfl)|refine⟨_,_,_,rfl,zwf _,bK ‹_›,?_,rfl⟩;(first|rfl)|refine⟨_,_,_,rfl,zwr _,zsr _,?_,rfl⟩|refine⟨_,_,_,rfl,zwf _,bK ‹_›,?_,rfl⟩)|show Cn (.r _ _ _);refine .any ?_;(first|refine⟨_,_,_,rfl,zwr _,zsr _,?_,rfl⟩;(first|rfl)|refine⟨_,_,_,rfl,zwr _,bK ‹_›,?_,rfl⟩;(first|rfl)|refine⟨_,_,_,rfl,zwf _,zsr _,?_,rfl⟩;(first|rfl)|refine⟨_,_,_,rfl,zwf _,bK ‹_›,?_,rfl⟩;(first|rfl)|refine⟨_,_,_,rfl,zwr _,zsr _,?_,rfl⟩|refine⟨_,_,_,rfl,zwf _,bK ‹_›,?_,rfl⟩)|apply wZ;rfl|show Cn _;constructor|exact rfl|apply KR.mk;kernel_rfl|omega|intros;omega|simp only[zql];omega|intros;simp only[zql];omega|intros;simp only;omega|intro h;omega|intro h;simp at h;done|intro h;simp at h;omega|intro h;simp at h|intro h)
 |true=>
  obtain⟨q,rfl,hq⟩:∃q:Nat,k=q/\q<b.length:=by
   unfold okT at a;simp only[zba,zde]at a;exact⟨k.toNat,by omega,by omega⟩
  have c:aF b q=b[q].lines:=by unfold aF;rw[zp a];simp[hq]
  rw[c];refine pF Tryz.func93 rfl λst=>?_
  repeat' first|show Cn (.r _ _ _);refine .any ⟨_,_,_,rfl,zwr _,zsr _,?_,rfl⟩;try rfl|apply wZ;rfl|show Cn _;constructor|exact rfl|apply KR.mk;kernel_rfl|apply wI;rfl|apply gE;omega|apply gE;show 0<_;omega|apply gE;show 1<_;omega|omega|intros;omega|simp only[zql];omega|intros;simp only[zql];omega|intros;simp only;omega|intro h;omega|intro h;simp at h;done|intro h;simp at h;omega|intro h;simp at h|intro h
def mT(c:Cl):Bool:=decide (c.parts.length<=40)&&decide (c.val.s.size<=400)
def fR(a:Ln):Bool:=a.cells_.all mT&&(decide (a.cells_.length<=20)&&decide (a.by_.length<=60))
theorem afV(a:Ln)(hl:a.cells_.length<4611686018427387904):PF Tryz.prog 38 [.agg a.cells] (vb (fR a)):=by
 refine pF Tryz.func38 rfl λst=>?_
 repeat' first|apply wZ;rfl|show Cn _;constructor
 refine aC (X:={x:Nat//x<=a.cells_.length/\∀j (h:j<x) (b:j<a.cells_.length),mT a.cells_[j]=true}) (λi=>(((St.nil 40 st).var 1 106 (a.cells)).pv 3 (vi (i.1:Nat)))) (λi=>a.cells_.length-i.1) ⟨0,by omega,λ_ h=>absurd h (Nat.not_lt_zero _)⟩ ?_ λi=>?_
 ·repeat' first|show Cn _;constructor|exact rfl
 obtain⟨i,hi,f⟩:=i;dsimp only;by_cases k:a.cells_.length<=i
 ·have e:a.cells_.all mT=true:=zal.2 λc hc=>by
   obtain⟨j,hj,rfl⟩:=zgo hc;exact f j (by omega) hj
  unfold fR;rw[e,Bool.true_and];have l:(decide (((a.cells_.map Cl.cells).length:Int)<=20)&&decide (((a.by_.map Dt.cells).length:Int)<=60))=(decide (a.cells_.length<=20)&&decide (a.by_.length<=60)):=by
   rw[Bool.eq_iff_iff];simp only[zba,zde,zql];omega
  repeat' first|apply wZ;rfl|show Cn _;constructor|exact rfl|show(_:PV)=_;(rw[l]);done|simp only[zql];omega|intro h;simp at h
 have b:i<a.cells_.length:=by omega
 have d:mT a.cells_[i]=false->fR a=false:=λh=>by
  unfold fR
  have:a.cells_.all mT=false:=by
   rw[<-Bool.not_eq_true,zal];intro q;rw[q _ (zgm b)]at h;cases h
  rw[this];rfl
 have g:mT a.cells_[i]=true->∀j (h:j<i+1) (b:j<a.cells_.length),mT a.cells_[j]=true:=λh j hj b=>by
  rcases zls.1 hj with q|q
  ·exact f j q b
  ·subst q;exact h
 unfold mT at d g
 repeat' first|refine⟨⟨i+1,by omega,g (by simp;omega)⟩,?_,?_⟩|apply wZ;rfl|show Cn _;constructor|exact rfl|show(_:PV)=_;(rw[d (by simp;omega)]);done|apply wI;rfl|apply gE;omega|omega|simp only[zql];omega|intro h;simp at h
def cB(l:List Ln)(k:Int):Option Ln:=l.find? λx=>decide (x.key=k)
def aJ4 :Option Ln->PV
 |some x=> .tup [.agg x.cells,vb true]
 |none=> .tup [.agg Ln.zero.cells,vb false]
theorem ayV{α:Type}{f:α->Bool}{l:List α}{i:Nat}(h:i<l.length)(hf:f l[i]=true)(hn:∀j (h:j<i) (h2:j<l.length),f l[j]=false):l.find? f=some l[i]:=
 List.find?_eq_some_iff_getElem.2 ⟨hf,i,h,rfl,λj hj=>by rw[hn j hj (by omega)];rfl⟩
theorem auD(l:List Ln)(k:Int):(∃j:Nat,∃h:j<l.length,atP l k=(((j:Nat):Int),true)/\cB l k=some l[j])\/((atP l k).2=false/\cB l k=none):=by
 unfold atP cB;cases h:l.findIdx? λx:Ln=>decide (x.key=k)with
 |some j=>
  left;obtain⟨hj,hf,hn⟩:=List.findIdx?_eq_some_iff_getElem.1 h;refine⟨j,hj,?_,ayV hj hf λq hq a=>by simpa using hn q hq⟩;have e:cY (λx:Ln=>decide (x.key=k)) l=j:=by unfold cY;rw[h]
  rw[e,zp (by omega)]
 |none=>
  right;have e:cY (λx:Ln=>decide (x.key=k)) l= -1:=by unfold cY;rw[h]
  rw[e,zn (by omega)];refine⟨by split<;>rfl,List.find?_eq_none.2 λx hx=>by rw[List.findIdx?_eq_none_iff.1 h x hx];simp⟩
theorem xA(b:Bs)(k key:Int)(g:∀d∈b,d.lines.length<100000000000):PF Tryz.prog 55 [.agg (bsC b),vi k,vi key] (aJ4 (cB (aF b k) key)):=by
 cases a:okT b k with
 |false=>
  have ho:=ayP b k a;have ha:=alH [] key (by simp);rw[aIE]at ha;have e:aF b k=[]:=by unfold aF;rw[a];rfl
  rw[e,show cB [] key=none from rfl];refine pF Tryz.func55 rfl λst=>?_
  (repeat' first|show Cn (.e _ _ _ _);refine .any ?_;(refine⟨_,_,_,rfl,zwf _,zsr _,?_,rfl⟩;(rfl))|apply wZ;rfl|show Cn _;constructor|(first|apply ho|apply ha)|apply wY;rfl)
 |true=>
  obtain⟨q,rfl,hq⟩:∃q:Nat,k=q/\q<b.length:=by
   unfold okT at a;simp only[zba,zde]at a;exact⟨k.toNat,by omega,by omega⟩
  have ho:=aeN b q hq;have l:=g b[q] (zgm hq);have h:aF b q=b[q].lines:=by unfold aF;rw[zp a];simp[hq]
  rw[h];generalize i:b[q].lines=L at*;have ha:=alH L key (by omega);rcases auD L key with⟨j,hj,c,f⟩|⟨c,f⟩
  ·rw[c]at ha
   rw[f];refine pF Tryz.func55 rfl λst=>?_
   repeat' first|apply wZ;rfl|show Cn _;constructor|exact rfl|(first|apply ho|apply ha)|apply wY;rfl|apply wI;rfl|apply gE;omega
  ·rw[c]at ha
   rw[f];refine pF Tryz.func55 rfl λst=>?_
   repeat' first|show Cn (.e _ _ _ _);refine .any ?_;(refine⟨_,_,_,rfl,zwf _,zsr _,?_,rfl⟩;(rfl))|apply wZ;rfl|show Cn _;constructor|(first|apply ho|apply ha)|apply wY;rfl
end
section
attribute [local irreducible] Ev PWp
set_option maxRecDepth 10000
set_option maxHeartbeats 4000000
def agN(f:Nat->Bool)(n:Nat):Bool:=(List.range n).all f
theorem abQ{f:Nat->Bool}{n k:Nat}(h:k<n)(hf:f k=false):agN f n=false:=by
 unfold agN;rw[<-Bool.not_eq_true,zal];exactλq=>by rw[q k (List.mem_range.2 h)]at hf;cases hf
theorem rC{f:Nat->Bool}{n:Nat}(hf:∀k<n,f k=true):agN f n=true:=by
 unfold agN;rw[zal];exactλk h=>hf k (List.mem_range.1 h)
theorem nQ{f:Nat->Bool}{n:Nat}:agN f n=true↔∀k<n,f k=true:=by
 unfold agN;rw[zal];exact⟨λh k hk=>h k (List.mem_range.2 hk),λh k hk=>h k (List.mem_range.1 hk)⟩
theorem aHd{f:Nat->Bool}{i:Nat}(a:∀j<i,f j=true)(h:f i=true):∀j<i+1,f j=true:=λj hj=>by
 rcases zls.1 hj with q|q
 ·exact a j q
 ·subst q;exact h
theorem qD{f:Nat->Bool}{i:Nat}{p:Prop}(a:∀j<i,f j=true)(e:f i=true↔p)(h:p):∀j<i+1,f j=true:=aHd a (e.2 h)
theorem aaR{f:Nat->Bool}{i:Nat}{p R:Prop}(h:f i=false->R)(e:f i=true↔p)(hp:¬p):R:=h (by rw[<-Bool.not_eq_true];exactλq=>hp (e.1 q))
theorem aDW{α β:Type}[Inhabited α]{f:α->β}{l:List α}{i:Nat}(h:i<l.length):(l.map f)[i]?=some (f l[i]!):=by
 rw[getElem!_pos l i h,List.getElem?_map,zgg h];rfl
variable(tx:Cl->Int)
def aGM(c:Cl):Prop:=c.parts.length<1000000000000/\(c.kind=4->PF Tryz.prog 150 [.agg c.cells] (vi (tx c)))
def iR(c:Cl):Bool:=if c.kind=0 then cE c.val&&decide (c.parts.length=0)else if c.kind=1 then jA c else if c.kind=2 then decide (bV c=0)else if c.kind=3 then gQ c else if c.kind=4 then decide (tx c=0)else false
theorem aAN(c:Cl)(h:aGM tx c):PF Tryz.prog 76 [.agg c.cells] (vb (iR tx c)):=by
 obtain⟨hl,ht⟩:=h;have a:=anU c (by omega);have d:=amV c (by omega);have hv:=kE c.val;have b:=mO c;unfold iR;generalize cE c.val=A at*;generalize jA c=B at*;generalize bV c=C at*;generalize gQ c=D at*;generalize tx c=E at*;refine pF Tryz.func76 rfl λst=>?_
 repeat' first|apply wZ;rfl|show Cn _;constructor|exact rfl|(first|apply hv|apply a|apply b|apply d|apply ht ‹_›)|show(_:PV)=_;(simp[*];done);done|apply wY;rfl|intro h
def uU(l:List Dt)(k:Nat):Bool:=dU l[k]! &&(decide (k=0)||aW l[k]! l[k-1]!)
def mH(l:List Dt):Bool:=agN (uU l) l.length
def qC(t:Tb)(l:Ln)(k:Nat):Bool:=decide (l.cells_[k]!.kind=t.cols[k]!.kind)&&iR tx l.cells_[k]!
def qB(t:Tb)(l:Ln):Bool:=decide (0<=l.key/\l.key<1073741824/\l.cells_.length=t.cols.length)&&decide (l.cells_[0]!.val=⟨1,l.key,e0⟩)
def iT(t:Tb)(l:Ln):Bool:=qB t l&&(agN (qC tx t l) l.cells_.length&&mH l.by_)
theorem akZ{t:Tb}{l:Ln}(h:qB t l=false):iT tx t l=false:=by unfold iT;rw[h];rfl
theorem azQ{t:Tb}{l:Ln}{k:Nat}(h:k<l.cells_.length)(hf:qC tx t l k=false):iT tx t l=false:=by unfold iT;rw[abQ h hf];simp
theorem aFa{t:Tb}{l:Ln}{k:Nat}(h:k<l.by_.length)(hf:uU l.by_ k=false):iT tx t l=false:=by unfold iT mH;rw[abQ h hf];simp
theorem aDT{t:Tb}{l:Ln}(h:qB t l=true)(hc:∀k<l.cells_.length,qC tx t l k=true)(hd:∀k<l.by_.length,uU l.by_ k=true):iT tx t l=true:=by
 unfold iT mH;rw[h,rC hc,rC hd];rfl
theorem aBs(t:Tb)(l:Ln)(ht:0<t.cols.length)(hl:l.cells_.length<1000000000000/\l.by_.length<1000000000000)(hp:∀c∈l.cells_,aGM tx c):PF Tryz.prog 43 [.agg t.cells, .agg l.cells] (vb (iT tx t l)):=by
 by_cases h0:¬((0<=l.key/\l.key<1073741824)/\l.cells_.length=t.cols.length)
 ·rw[akZ tx (by unfold qB;rw[decide_eq_false λh=>h0 ⟨⟨h.1,h.2.1⟩,h.2.2⟩];rfl)]
  refine pF Tryz.func43 rfl λst=>?_
  repeat' first|apply wZ;rfl|show Cn _;constructor|exact rfl|apply KR.mk;kernel_rfl|apply cL pk;(iterate 6 rfl);rotate_left;rfl;(intro hw;rfl);(intro hw;apply aDW<;>first|omega|exfalso;simp[gw]at hw;omega);(intro _;rfl);rfl|intro h;simp at h;omega|intro h;simp at h
 obtain⟨⟨a,p⟩,q⟩:=zdn h0;have hh:¬l.cells_[0].val=⟨1,l.key,e0⟩->qB t l=false:=λh=>by unfold qB;rw[getElem!_pos l.cells_ 0 (by omega),decide_eq_false h];simp
 rw[Vl.ext_iff]at hh;have hy:l.cells_[0].val=⟨1,l.key,e0⟩->qB t l=true:=λh=>by unfold qB;rw[getElem!_pos l.cells_ 0 (by omega),decide_eq_true h,decide_eq_true ⟨a,p,q⟩];rfl
 rw[Vl.ext_iff]at hy;refine pF Tryz.func43 rfl λst=>?_
 repeat' first|apply wZ;rfl|show Cn _;constructor|exact rfl|apply KR.mk;kernel_rfl|show(_:PV)=_;(rw[akZ tx (hh (by grind))];done);done|apply wI;rfl|apply gE;show 0<_;omega|intro h;simp at h
 have m:qB t l=true:=hy (by grind);refine aC (X:={x:Nat//x<=l.cells_.length/\∀j<x,qC tx t l j=true}) (λi=>((((((St.nil 102 st).var 2 57 (t.cells)).var 3 106 (l.cells)).pv 38 (.seq (l.cells_.map Cl.cells))).pv 39 (vi ((l.cells_.map Cl.cells).length:Nat))).pv 40 (vi (i.1:Nat)))) (λi=>l.cells_.length-i.1) ⟨0,by omega,by omega⟩ ?_ λi=>?_
 ·repeat' first|show Cn _;constructor|exact rfl
 obtain⟨i,hi,n⟩:=i;dsimp only;by_cases o:l.cells_.length<=i
 ·repeat' first|apply wZ;rfl|show Cn _;constructor|simp only[zql];omega|intro h;simp at h
  refine aC (X:={x:Nat//x<=l.by_.length/\∀j<x,uU l.by_ j=true}) (λy=>(((((St.nil 102 st).var 3 106 (l.cells)).pv 61 (.seq (l.by_.map Dt.cells))).pv 62 (vi ((l.by_.map Dt.cells).length:Nat))).pv 63 (vi (y.1:Nat)))) (λy=>l.by_.length-y.1) ⟨0,by omega,by omega⟩ ?_ λy=>?_
  ·repeat' first|show Cn _;constructor|exact rfl
  obtain⟨y,hy,b⟩:=y;dsimp only;by_cases g:l.by_.length<=y;have e:=aDT tx m (λk hk=>n k (by omega)) λk hk=>b k (by omega);rotate_left;have a:y<l.by_.length:=by omega
  have e:=Iff.refl (uU l.by_ y=true);by_cases h0:y=0;subst h0
  conv at e=>rhs;simp only[uU,dU,getElem!_pos l.by_ 0 a,zba,zde,decide_true,Bool.true_or,and_true]
  have f:=aaR (aFa tx (t:=t) a) e;have d:=qD b e;rotate_left;obtain⟨k,rfl⟩:∃k,y=k+1:=⟨y-1,by omega⟩;have hd:=aoI l.by_[k] l.by_[k+1];have hb:=axR l.by_[k] l.by_[k+1]
  conv at e=>rhs;simp only[uU,dU,getElem!_pos l.by_ (k+1) a,show k+1-1=k from rfl,getElem!_pos l.by_ k (by omega),zba,zde,Bool.or_eq_true,h0,false_or]
  have f:=aaR (aFa tx (t:=t) a) e;have d:=qD b e;rotate_left
  all_goals (repeat' first|apply iX;(intro hw;exact(show _=((0:Nat):Int)from by exact(kJ hw).elim));(apply gE;omega);rfl|apply iX;(intro hw;exact(show((((k+1:Nat):Int))-1=((k:Nat):Int))from by omega));(apply gE;omega);rfl|apply cW;focus(intro _;(apply(show PF Tryz.prog 77 [_,_] (vi 0)from by rename_i hh;exact(kJ hh).elim));done)|((first|refine⟨⟨1,by omega,d (by grind)⟩,?_,by simp only;omega⟩|refine⟨⟨k+2,by omega,d (by grind)⟩,?_,by simp only;omega⟩);focus((repeat' first|show Cn _;constructor|exact rfl);done))|apply wZ;rfl|show Cn _;constructor|exact rfl|apply KR.mk;kernel_rfl|apply hd|show(_:PV)=_;(first|(rw[e]);done|(rw[f (by grind)];done);done);done|apply wY;rfl|apply wI;rfl|apply gE;omega|omega|simp only[zql];omega|intro h;simp at h)
 have a:i<l.cells_.length:=by omega
 have hc:=aAN tx l.cells_[i] (hp _ (zgm a));have e:=Iff.refl (qC tx t l i=true)
 conv at e=>rhs;simp only[qC,getElem!_pos l.cells_ i a,getElem!_pos t.cols i (show i<t.cols.length by omega),zba,zde]
 have f:=aaR (azQ tx (t:=t) a) e;have d:=qD n e
 repeat' first|refine⟨⟨i+1,by omega,d (by grind)⟩,?_,?_⟩|apply wZ;rfl|show Cn _;constructor|exact rfl|apply KR.mk;kernel_rfl|apply hc|show(_:PV)=_;(rw[f (by grind)]);done|apply wY;rfl|apply wI;rfl|apply gE;omega|omega|simp only[zql];omega|intro h;simp at h
end
section
attribute [local irreducible] Ev PWp
set_option maxRecDepth 10000
set_option maxHeartbeats 4000000
theorem xP :∀{l:List Int},orI l=0->∀x∈l,x=0
 |[],_,_,h=>by cases h
 |a::l,h,x,hx=>by
  rw[orI]at h
  split at h
  ·rename_i e
   rcases zmc.1 hx with rfl|q
   ·exact e
   ·exact xP h x q
  ·rename_i e;exact absurd h e
theorem oR{f:Nat->Int}{n:Nat}(h:dZ f n=0){k:Nat}(hk:k<n):f k=0:=
 xP h _ (List.mem_map.2 ⟨k,List.mem_range.2 hk,rfl⟩)
theorem fU{s:Sc}(h:bT s=0){k:Nat}(hk:k<s.length):∀x∈lks s k,x=0:=by
 unfold bT at h;split at h
 ·cases h
 ·exact xP (oR h hk)
theorem aaW{s:Sc}(h:bT s=0){k:Nat}(hk:k<s.length):0<s[k].cols.length:=by
 have:=fU h hk (lk1 s[k]!) (by simp[lks]);rw[getElem!_pos s k hk]at this;unfold lk1 at this;split at this
 ·cases this
 ·omega
variable(tx:Cl->Int)
def aLo(l:Ln):Prop:=(l.cells_.length<1000000000000/\l.by_.length<1000000000000)/\∀c∈l.cells_,aGM tx c
def aKe(d:Da):Prop:=d.lines.length<1000000000000/\∀l∈d.lines,aLo tx l
def lnR(t:Tb)(L:List Ln)(i:Nat):Bool:=iT tx t L[i]! &&(decide (i=0)||decide (L[i-1]!.key<L[i]!.key))
def tI(t:Tb)(L:List Ln):Bool:=decide (L.length<=2000)&&agN (lnR tx t L) L.length
def wR(s:Sc)(b:Bs)(k:Nat):Bool:=tI tx s[k]! b[k]!.lines
def bC(s:Sc)(b:Bs):Bool:=decide (bT s=0/\b.length=s.length)&&agN (wR tx s b) b.length
theorem azX{s:Sc}{b:Bs}(h:¬(bT s=0/\b.length=s.length)):bC tx s b=false:=by unfold bC;rw[decide_eq_false h];rfl
theorem azA{s:Sc}{b:Bs}{k:Nat}(h:k<b.length)(hf:wR tx s b k=false):bC tx s b=false:=by unfold bC;rw[abQ h hf];simp
theorem anR{s:Sc}{b:Bs}(h:bT s=0/\b.length=s.length)(hf:∀k<b.length,wR tx s b k=true):bC tx s b=true:=by unfold bC;rw[rC hf,decide_eq_true h];rfl
theorem avI(s:Sc)(b:Bs)(hl:s.length<1000000000000)(D:∀t∈s,TbB t)(hb:b.length<1000000000000)(hd:∀d∈b,aKe tx d):PF Tryz.prog 19 [.agg (scC s), .agg (bsC b)] (vb (bC tx s b)):=by
 have hs:=zR s (by omega) D;by_cases h0:¬(bT s=0/\b.length=s.length)
 ·rw[azX tx h0]
  generalize bT s=R at*;refine pF Tryz.func19 rfl λst=>?_
  repeat' first|apply wZ;rfl|show Cn _;constructor|exact rfl|apply hs|apply wY;rfl|intro h;simp at h;omega|intro h;simp at h
 replace h0:=zdn h0
 obtain⟨n,C⟩:=h0;rw[n]at hs;refine pF Tryz.func19 rfl λst=>?_
 repeat' first|apply wZ;rfl|show Cn _;constructor|apply hs|apply wY;rfl|simp only[zql];omega|intro h;simp at h
 refine aC (X:={x:Nat//x<=b.length/\∀j<x,wR tx s b j=true}) (λi=>(((((St.nil 67 st).var 2 24 (scC s)).pv 22 (.seq (b.map Da.cells))).pv 23 (vi ((b.map Da.cells).length:Nat))).pv 24 (vi (i.1:Nat)))) (λi=>b.length-i.1) ⟨0,by omega,by omega⟩ ?_ λi=>?_
 ·repeat' first|show Cn _;constructor|exact rfl
 obtain⟨i,hi,z⟩:=i;dsimp only;by_cases A:b.length<=i;have e:=anR tx ⟨n,C⟩ λk hk=>z k (by omega);rotate_left;have g:i<b.length:=by omega
 have m:i<s.length:=by omega
 have r:=aaW n m;obtain⟨H,B⟩:=hd _ (zgm g);have e:=Iff.refl (wR tx s b i=true)
 conv at e=>rhs;simp only[wR,tI,getElem!_pos s i m,getElem!_pos b i g,zba,zde,nQ]
 have w:=aaR (azA tx (s:=s) g) e;have E:=qD z e;by_cases o:¬b[i].lines.length<=2000;have p:=w λq=>o q.1;rotate_left
 all_goals (repeat' first|apply wZ;rfl|show Cn _;constructor|exact rfl|show(_:PV)=_;(first|(rw[e]);done|(rw[p]);done);done|apply wI;rfl|apply gE;omega|simp only[zql];omega|intro h;simp at h)
 focus(repeat'(fail))
 refine aC (X:={x:Nat//x<=b[i].lines.length/\∀j<x,lnR tx s[i] b[i].lines j=true}) (λy=>((((((((((St.nil 67 st).var 2 24 (scC s)).pv 5 (vi (i:Nat))).var 6 101 (b[i].cells)).pv 22 (.seq (b.map Da.cells))).pv 23 (vi ((b.map Da.cells).length:Nat))).pv 24 (vi (i:Nat))).pv 34 (.seq (b[i].lines.map Ln.cells))).pv 35 (vi ((b[i].lines.map Ln.cells).length:Nat))).pv 36 (vi (y.1:Nat)))) (λy=>b[i].lines.length-y.1) ⟨0,by omega,by omega⟩ ?_ λy=>?_
 ·repeat' first|show Cn _;constructor|exact rfl
 obtain⟨y,hy,l⟩:=y;dsimp only;by_cases u:b[i].lines.length<=y;rotate_left;have a:y<b[i].lines.length:=by omega
 obtain⟨F,G⟩:=B _ (zgm a);have v:=aBs tx s[i] b[i].lines[y] r F G;have e:=Iff.refl (lnR tx s[i] b[i].lines y=true);have c:=λh:¬lnR tx s[i] b[i].lines y=true=>w λq=>h (q.2 y a);by_cases h0:y=0;subst h0
 conv at e=>rhs;simp only[lnR,getElem!_pos b[i].lines 0 a,decide_true,Bool.true_or,Bool.and_true]
 have f:=qD l e;rw[e]at c;rotate_left;obtain⟨k,rfl⟩:∃k,y=k+1:=⟨y-1,by omega⟩
 conv at e=>rhs;simp only[lnR,getElem!_pos b[i].lines (k+1) a,show k+1-1=k from rfl,getElem!_pos b[i].lines k (by omega),zba,zde,Bool.or_eq_true,h0,false_or]
 have f:=qD l e;rw[e]at c;rotate_left
 all_goals (repeat' first|apply iX;(intro hw;exact(show _=((0:Nat):Int)from by exact(kJ hw).elim));(apply gE;omega);rfl|apply iX;(intro hw;exact(show((((k+1:Nat):Int))-1=((k:Nat):Int))from by omega));(apply gE;omega);rfl|((first|refine⟨⟨i+1,by omega,E ⟨by omega,λk hk=>l k (by omega)⟩⟩,?_,by simp only;omega⟩|refine⟨⟨1,by omega,f (by grind)⟩,?_,by simp only;omega⟩|refine⟨⟨k+2,by omega,f (by grind)⟩,?_,by simp only;omega⟩);focus((repeat' first|show Cn _;constructor|exact rfl);done))|apply wZ;rfl|show Cn _;constructor|exact rfl|apply KR.mk;kernel_rfl|apply v|show(_:PV)=_;(rw[c (by grind)]);done|apply wY;rfl|apply wI;rfl|apply gE;omega|omega|simp only[zql];omega|intro h;simp at h)
end
end Go.Proofs.YtnogfoojjaainaaGreatDoor
