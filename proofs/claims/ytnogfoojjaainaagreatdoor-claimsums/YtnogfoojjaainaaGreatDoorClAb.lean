import Derived.Test.YtnogfoojjaainaaGreatDoorClAa
import Derived.Test.YtnogfoojjaainaaGreatDoorAbsSort
import Derived.Test.YtnogfoojjaainaaGreatDoorAbsE
set_option linter.unusedSimpArgs false
set_option linter.unusedVariables false
namespace Go.Proofs.YtnogfoojjaainaaGreatDoor
open Go Go.Abs
section
attribute [local irreducible] Ev PWp
set_option maxRecDepth 10000
set_option maxHeartbeats 4000000
structure Tb where
 name:ByteArray
 cols:List Co
 unique:List Int
 checks:List (List PV)
 foreign:List Fr
 sums:List Su
 deriving Inhabited
def Tb.cells (a:Tb):List PV:=[.val (.string (a.name)), .seq (a.cols.map Co.cells), .seq (a.unique.map I1), .seq a.checks, .seq (a.foreign.map Fr.cells), .seq (a.sums.map Su.cells)]
abbrev Sc :=List Tb
def scC (s:Sc):List PV:=[.seq (s.map Tb.cells)]
theorem aBZ (b:FuncId) (caps:List PV) (f:Co->Bool) (l:List Co) (hl:l.length<4611686018427387904) (hf:∀p,PF Tryz.prog b ([.agg p.cells]++caps) (vb (f p))):PF Tryz.prog 287 [.seq (l.map Co.cells), .fn b caps] (vi (cX f l)):=by
 refine pF Tryz.func287 rfl (λst=> ?_)
 (repeat' first|apply wZ;rfl|show Cn _;constructor)
 refine aC (X:={x:Nat//x<=l.length/\∀j (h:j<x) (c:j<l.length),f l[j]=false}) (λi=>(((((St.nil 19 st).pv 0 (.seq (l.map Co.cells))).pv 1 (.fn b caps)).pv 7 ((vi ((((l.map Co.cells)).length:Nat))))).pv 8 ((vi ((i.1:Nat)))))) (λi=>l.length-i.1) ⟨0,by omega,by omega⟩ ?_ (λi=> ?_)
 ·(repeat' first|show Cn _;constructor|exact rfl)
 obtain ⟨i,hi,a⟩:=i;dsimp only
 (repeat' first|(refine ⟨⟨i+1,by omega,λj d c=>by rcases zls.1 d with q|q;exact a j q c;subst q;assumption⟩, ?_, ?_⟩)|apply wZ;rfl|show Cn _;constructor|exact rfl|(apply hf)|show (_:PV)=_;(first|unfold cX;rw [lJ ‹_› ‹_› a];done|unfold cX;rw [mQ ‹_› a]);done|apply wY;rfl|apply wI;rfl|apply gE;omega|omega|simp only [zql];omega|(intro h;simp at h)|intro h)
theorem aAr (b:FuncId) (caps:List PV) (f:Su->Bool) (l:List Su) (hl:l.length<4611686018427387904) (hf:∀p,PF Tryz.prog b ([.agg p.cells]++caps) (vb (f p))):PF Tryz.prog 288 [.seq (l.map Su.cells), .fn b caps] (vi (cX f l)):=by
 refine pF Tryz.func288 rfl (λst=> ?_)
 (repeat' first|apply wZ;rfl|show Cn _;constructor)
 refine aC (X:={x:Nat//x<=l.length/\∀j (h:j<x) (c:j<l.length),f l[j]=false}) (λi=>(((((St.nil 19 st).pv 0 (.seq (l.map Su.cells))).pv 1 (.fn b caps)).pv 7 ((vi ((((l.map Su.cells)).length:Nat))))).pv 8 ((vi ((i.1:Nat)))))) (λi=>l.length-i.1) ⟨0,by omega,by omega⟩ ?_ (λi=> ?_)
 ·(repeat' first|show Cn _;constructor|exact rfl)
 obtain ⟨i,hi,a⟩:=i;dsimp only
 (repeat' first|(refine ⟨⟨i+1,by omega,λj d c=>by rcases zls.1 d with q|q;exact a j q c;subst q;assumption⟩, ?_, ?_⟩)|apply wZ;rfl|show Cn _;constructor|exact rfl|(apply hf)|show (_:PV)=_;(first|unfold cX;rw [lJ ‹_› ‹_› a];done|unfold cX;rw [mQ ‹_› a]);done|apply wY;rfl|apply wI;rfl|apply gE;omega|omega|simp only [zql];omega|(intro h;simp at h)|intro h)
theorem aAX (b:FuncId) (caps:List PV) (f:Tb->Bool) (l:List Tb) (hl:l.length<4611686018427387904) (hf:∀p,PF Tryz.prog b ([.agg p.cells]++caps) (vb (f p))):PF Tryz.prog 212 [.seq (l.map Tb.cells), .fn b caps] (vi (cX f l)):=by
 refine pF Tryz.func212 rfl (λst=> ?_)
 (repeat' first|apply wZ;rfl|show Cn _;constructor)
 refine aC (X:={x:Nat//x<=l.length/\∀j (h:j<x) (c:j<l.length),f l[j]=false}) (λi=>(((((St.nil 19 st).pv 0 (.seq (l.map Tb.cells))).pv 1 (.fn b caps)).pv 7 ((vi ((((l.map Tb.cells)).length:Nat))))).pv 8 ((vi ((i.1:Nat)))))) (λi=>l.length-i.1) ⟨0,by omega,by omega⟩ ?_ (λi=> ?_)
 ·(repeat' first|show Cn _;constructor|exact rfl)
 obtain ⟨i,hi,a⟩:=i;dsimp only
 (repeat' first|(refine ⟨⟨i+1,by omega,λj d c=>by rcases zls.1 d with q|q;exact a j q c;subst q;assumption⟩, ?_, ?_⟩)|apply wZ;rfl|show Cn _;constructor|exact rfl|(apply hf)|show (_:PV)=_;(first|unfold cX;rw [lJ ‹_› ‹_› a];done|unfold cX;rw [mQ ‹_› a]);done|apply wY;rfl|apply wI;rfl|apply gE;omega|omega|simp only [zql];omega|(intro h;simp at h)|intro h)
theorem aBq (a:FuncId) (caps:List PV) (f:Co->Bool) (l:List Co) (hl:l.length<4611686018427387904) (hf:∀p,PF Tryz.prog a ([.agg p.cells]++caps) (vb (f p))):PF Tryz.prog 217 [.seq (l.map Co.cells), .fn a caps] (vb (l.any f)):=by
 have h:=aBZ a caps f l hl hf;refine pF Tryz.func217 rfl (λst=> ?_)
 (repeat' first|apply wZ;rfl|show Cn _;constructor|exact rfl|(apply h)|show (_:PV)=_;(rw [qY]);done|apply wY;rfl)
theorem aAx (a:FuncId) (caps:List PV) (f:Su->Bool) (l:List Su) (hl:l.length<4611686018427387904) (hf:∀p,PF Tryz.prog a ([.agg p.cells]++caps) (vb (f p))):PF Tryz.prog 223 [.seq (l.map Su.cells), .fn a caps] (vb (l.any f)):=by
 have h:=aAr a caps f l hl hf;refine pF Tryz.func223 rfl (λst=> ?_)
 (repeat' first|apply wZ;rfl|show Cn _;constructor|exact rfl|(apply h)|show (_:PV)=_;(rw [qY]);done|apply wY;rfl)
def dY (f:Nat->Int) (n:Nat):Int:=orI ((List.range n).map f)
theorem aDK {l:List Int} {i:Nat} (h:i<l.length) (hf:l[i]≠0) (hn:∀j (h:j<i) (b:j<l.length),l[j]=0):orI l=l[i]:=by
 induction l generalizing i with
 |nil=>simp at h
 |cons a l ih=>
  cases i with
  |zero=>simp only [List.getElem_cons_zero] at hf⊢;rw [orI,zn hf]
  |succ i=>
   have h0:=hn 0 (by omega) (by simp);simp only [List.getElem_cons_zero] at h0;rw [orI,zp h0];simp only [List.getElem_cons_succ] at hf⊢;exact ih (by simpa using h) hf λj hj b=>by have:=hn (j+1) (by omega) (by simpa using b);simpa using this
theorem aCp {l:List Int} (hn:∀x∈l,x=0):orI l=0:=by
 induction l with
 |nil=>rfl
 |cons a l ih=>rw [orI,zp (hn a (by simp))];exact ih λx hx=>hn x (by simp [hx])
theorem lL {f:Nat->Int} {n i:Nat} (h:i<n) (hf:f i≠0) (hn:∀j<i,f j=0):dY f n=f i:=by
 unfold dY;have:=aDK (l:=(List.range n).map f) (i:=i) (by simpa using h) (by simpa using hf) (λj hj a=>by simpa using hn j hj)
 simpa using this
theorem lN {f:Nat->Int} {n:Nat} (hn:∀j<n,f j=0):dY f n=0:=
 aCp λx hx=>by
  obtain ⟨j,hj,rfl⟩:=List.mem_map.1 hx
  exact hn j (List.mem_range.1 hj)
theorem jC (b:FuncId) (caps:List PV) (f:Nat->Int) (n:Nat) (hn:n<4611686018427387904) (hf:∀k,k<n->(∀j<k,f j=0)->PF Tryz.prog b ([(vi ((k:Nat)))]++caps) (vi (f k))):PF Tryz.prog 214 [(vi ((n:Nat))), .fn b caps] (vi (dY f n)):=by
 refine pF Tryz.func214 rfl (λst=> ?_)
 (repeat' first|apply wZ;rfl|show Cn _;constructor)
 refine aC (X:={x:Nat//x<=n/\∀j<x,f j=0}) (λi=>((((St.nil 18 st).pv 1 (.fn b caps)).pv 7 ((vi ((n:Nat))))).pv 8 ((vi ((i.1:Nat)))))) (λi=>n-i.1) ⟨0,by omega,by omega⟩ ?_ (λi=> ?_)
 ·(repeat' first|show Cn _;constructor|exact rfl)
 obtain ⟨i,hi,a⟩:=i;dsimp only;by_cases d:n<=i
 ·rw [lN (f:=f) (n:=n) λj hj=>a j (by omega)]
  (repeat' first|apply wZ;rfl|show Cn _;constructor|exact rfl|omega|(intro h;simp at h))
 have c:=hf i (by omega) a
 (repeat' first|(refine ⟨⟨i+1,by omega,λj hj=>by rcases zls.1 hj with q|q;exact a j q;subst q;assumption⟩, ?_, ?_⟩)|apply wZ;rfl|show Cn _;constructor|exact rfl|(apply c)|show (_:PV)=_;(rw [lL (by omega) ‹_› a]);done|apply wY;rfl|omega|simp only [zql];omega|(intro h;simp at h)|intro h)
def gD (c:Co):Bool:=decide (c.kind=0)&&decide (c.type_=1)
def gO (t:Tb) (i:Int):Bool:=decide (i>=1)&&decide (i<t.cols.length)
def fK (t:Tb) (i:Int):Co:=t.cols[i.toNat]!
theorem dX (c:Co):PF Tryz.prog 139 [.agg c.cells] (vb (gD c)):=by
 refine pF Tryz.func139 rfl (λst=> ?_)
 (repeat' first|apply wZ;rfl|show Cn _;constructor|exact rfl)
theorem uX (t:Tb) (i:Int):PF Tryz.prog 219 [.agg t.cells,(vi (i))] (vb (gO t i)):=by
 refine pF Tryz.func219 rfl (λst=> ?_)
 (repeat' first|apply wZ;rfl|show Cn _;constructor|exact rfl|show (_:PV)=_;(rw [zql];rfl);done)
def aiQ (pre:List Co) (c:Co):Int:=if pS c.name=false\/c.kind<0\/c.kind>4 then 1 else if (pre.any λx=>decide (x.name=c.name))=true then 5 else if (c.type_≠1/\c.type_≠2)\/(¬(c.kind=0\/c.kind=1)/\¬(c.type_=2↔c.kind=4)) then 6 else if c.null=true/\¬(c.kind=0\/c.kind=1) then 1 else 0
def sX (t:Tb) (k:Nat):Int:=aiQ (t.cols.take k) t.cols[k]!
theorem aDB (x c:Co):PF Tryz.prog 216 [.agg x.cells, .rp c.cells] (vb (decide (x.name=c.name))):=by
 refine pF Tryz.func216 rfl (λst=> ?_)
 (repeat' first|apply wZ;rfl|show Cn _;constructor|exact rfl)
theorem aHD (t:Tb) (k:Nat) (hl:t.cols.length<200000000000000) (hk:k<t.cols.length):PF Tryz.prog 215 [(vi ((k:Nat))), .rp t.cells] (vi (sX t k)):=by
 have hn:=aiH t.cols[k].name;have hc:=aBq 216 [.rp t.cols[k].cells] (λx=>decide (x.name=t.cols[k].name)) (t.cols.take k) (by rw [zlt];omega) λp=>aDB p _;have e:sX t k=aiQ (t.cols.take k) t.cols[k]:=by unfold sX;rw [getElem!_pos t.cols k hk]
 rw [e];unfold aiQ;generalize pS t.cols[k].name=N at*;generalize ((t.cols.take k).any λx=>decide (x.name=t.cols[k].name))=A at*;have a:(((t.cols.drop 0).take (k-0)).map Co.cells)=(t.cols.take k).map Co.cells:=by simp
 refine pF Tryz.func215 rfl (λst=> ?_)
 (repeat' first|apply wZ;rfl|show Cn _;constructor|exact rfl|((first|apply hn|apply hc))|show (_:PV)=_;(congr 2;grind);done|apply bB 4;rfl;rfl|apply slS pk (f:=Co.cells) (xs:=t.cols) 0 k;(iterate 5 rfl);rotate_left;rfl;(intro _;rfl);(intro _;exact aX);(intro _;exact aL rfl rfl);(intro _;omega);(intro _;omega);rfl;rw [a]|apply wY;rfl|apply wI;rfl|apply gE;omega|(intro h;simp at h)|intro h)
theorem akA (t:Tb) (hl:t.cols.length<200000000000000):PF Tryz.prog 137 [.agg t.cells] (vi (dY (sX t) t.cols.length)):=by
 have e:(t.cols.map Co.cells).length=t.cols.length:=zql _;have h:=jC 215 [.rp t.cells] (sX t) (t.cols.map Co.cells).length (by omega) λk hk _=>aHD t k hl (by omega);rw [<-e];refine pF Tryz.func137 rfl (λst=> ?_)
 (repeat' first|apply wZ;rfl|show Cn _;constructor|exact rfl|(apply h)|apply bB 1;rfl;rfl|apply wY;rfl)
theorem rX {t:Tb} {i:Int} (h:gO t i=true):∃j:Nat,i=j/\∃h:j<t.cols.length,fK t i=t.cols[j]:=by
 unfold gO at h;simp only [zba,zde] at h;refine ⟨i.toNat,by omega,by omega, ?_⟩;unfold fK;rw [getElem!_pos t.cols i.toNat (by omega)]
def aeR (h:Bool) (p:Bool) (n:Bool):Int:=if h=false then 4 else if p=true then 1 else if n=false then 6 else 0
def sQ (t:Tb) (k:Nat):Int:=aeR (gO t t.unique[k]!) (decide (0<k)&&decide (t.unique[k]!<=t.unique[k-1]!)) (gD (fK t t.unique[k]!))
theorem aFS (t:Tb) (k:Nat) (hl:t.cols.length<200000000000000) (hu:t.unique.length<200000000000000) (hk:k<t.unique.length):PF Tryz.prog 218 [(vi ((k:Nat))), .rp t.cells] (vi (sQ t k)):=by
 have hh:=uX t t.unique[k];have e:sQ t k=aeR (gO t t.unique[k]) (decide (0<k)&&decide (t.unique[k]<=t.unique[k-1]'(by omega))) (gD (fK t t.unique[k])):=by
  unfold sQ;rw [getElem!_pos t.unique k hk,getElem!_pos t.unique (k-1) (by omega)]
 rw [e];unfold aeR;cases hc:gO t t.unique[k] with
 |false=>
  rw [hc] at hh;refine pF Tryz.func218 rfl (λst=> ?_)
  (repeat' first|apply wZ;rfl|show Cn _;constructor|exact rfl|(apply hh)|apply wY;rfl|apply wI;rfl|apply gE;omega)
 |true=>
  rw [hc] at hh;obtain ⟨j,hj,d,b⟩:=rX hc;rw [b];have a:=dX t.cols[j];generalize gD t.cols[j]=N at*;rcases Nat.eq_zero_or_pos k with rfl|c
  ·refine pF Tryz.func218 rfl (λst=> ?_)
   (repeat' first|apply iX;(intro hw;exact (by first|rfl|exact hj|exact (show _=((0:Nat):Int) from (kF hw).elim)));(apply gE;omega);rfl|apply wZ;rfl|show Cn _;constructor|exact rfl|((first|apply hh|apply a))|show (_:PV)=_;(congr 2;grind);done|apply wY;rfl|apply wI;rfl|omega|intro h)
  ·obtain ⟨m,rfl⟩:∃m,k=m+1:=⟨k-1,by omega⟩
   refine pF Tryz.func218 rfl (λst=> ?_)
   (repeat' first|apply iX;(intro hw;exact (by first|rfl|exact hj|exact (show ((((m+1:Nat):Int))-1=((m:Nat):Int)) from by omega)));(apply gE;omega);rfl|apply wZ;rfl|show Cn _;constructor|exact rfl|((first|apply hh|apply a))|show (_:PV)=_;(congr 2;grind);done|apply wY;rfl|apply wI;rfl|omega|(intro h;simp at h)|intro h)
theorem akR (t:Tb) (hl:t.cols.length<200000000000000) (hu:t.unique.length<200000000000000):PF Tryz.prog 141 [.agg t.cells] (vi (dY (sQ t) t.unique.length)):=by
 have e:(t.unique.map I1).length=t.unique.length:=zql _;have h:=jC 218 [.rp t.cells] (sQ t) (t.unique.map I1).length (by omega) λk hk _=>aFS t k hl hu (by omega);rw [<-e];refine pF Tryz.func141 rfl (λst=> ?_)
 (repeat' first|apply wZ;rfl|show Cn _;constructor|exact rfl|(apply h)|apply bB 1;rfl;rfl|apply wY;rfl)
def afO (h:Bool) (b:Bool) (p:Bool) (a:Bool) (n:Bool) (z:Bool):Int:=if h=false\/b=true then 4 else if p=true\/a=true then 1 else if n=false\/z=true then 6 else 0
def uI (m:Nat) (t:Tb) (k:Nat):Int:=afO (gO t t.foreign[k]!.col) (decide (t.foreign[k]!.table<0)||decide (t.foreign[k]!.table>=m)) (decide (0<k)&&decide (t.foreign[k]!.col<=t.foreign[k-1]!.col)) (decide (t.foreign[k]!.act<0)||decide (t.foreign[k]!.act>2)) (gD (fK t t.foreign[k]!.col)) (decide (t.foreign[k]!.act=2)&& !(fK t t.foreign[k]!.col).null)
theorem aFL (s:Sc) (t:Tb) (k:Nat) (hl:t.cols.length<200000000000000) (hu:t.foreign.length<200000000000000) (hk:k<t.foreign.length):PF Tryz.prog 220 [(vi ((k:Nat))), .rp t.cells, .rp (scC s)] (vi (uI s.length t k)):=by
 have hh:=uX t t.foreign[k].col;have e:uI s.length t k=afO (gO t t.foreign[k].col) (decide (t.foreign[k].table<0)||decide (t.foreign[k].table>=s.length)) (decide (0<k)&&decide (t.foreign[k].col<=(t.foreign[k-1]'(by omega)).col)) (decide (t.foreign[k].act<0)||decide (t.foreign[k].act>2)) (gD (fK t t.foreign[k].col)) (decide (t.foreign[k].act=2)&& !(fK t t.foreign[k].col).null):=by
  unfold uI;rw [getElem!_pos t.foreign k hk,getElem!_pos t.foreign (k-1) (by omega)]
 rw [e];unfold afO;have el:(s.map Tb.cells).length=s.length:=zql _;rw [<-el];cases hc:gO t t.foreign[k].col with
 |false=>
  rw [hc] at hh;refine pF Tryz.func220 rfl (λst=> ?_)
  (repeat' first|apply wZ;rfl|show Cn _;constructor|exact rfl|(apply hh)|apply wY;rfl|apply wI;rfl|apply gE;omega)
 |true=>
  rw [hc] at hh;obtain ⟨j,hj,d,b⟩:=rX hc;rw [b];have a:=dX t.cols[j];generalize gD t.cols[j]=N at*;rcases Nat.eq_zero_or_pos k with rfl|c
  ·refine pF Tryz.func220 rfl (λst=> ?_)
   (repeat' first|apply iX;(intro hw;exact (by first|rfl|exact hj|exact (show _=((0:Nat):Int) from (kF hw).elim)));(apply gE;omega);rfl|apply wZ;rfl|show Cn _;constructor|exact rfl|apply KR.mk;kernel_rfl|((first|apply hh|apply a))|show (_:PV)=_;(congr 2;grind);done|apply wY;rfl|apply wI;rfl|omega|(intro h;simp at h))
  ·obtain ⟨m,rfl⟩:∃m,k=m+1:=⟨k-1,by omega⟩
   refine pF Tryz.func220 rfl (λst=> ?_)
   (repeat' first|apply iX;(intro hw;exact (by first|rfl|exact hj|exact (show ((((m+1:Nat):Int))-1=((m:Nat):Int)) from by omega)));(apply gE;omega);rfl|apply wZ;rfl|show Cn _;constructor|exact rfl|apply KR.mk;kernel_rfl|((first|apply hh|apply a))|show (_:PV)=_;(congr 2;grind);done|apply wY;rfl|apply wI;rfl|omega|(intro h;simp at h))
theorem agK (s:Sc) (t:Tb) (hl:t.cols.length<200000000000000) (hu:t.foreign.length<200000000000000):PF Tryz.prog 143 [.agg (scC s), .agg t.cells] (vi (dY (uI s.length t) t.foreign.length)):=by
 have e:(t.foreign.map Fr.cells).length=t.foreign.length:=zql _;have h:=jC 220 [.rp t.cells, .rp (scC s)] (uI s.length t) (t.foreign.map Fr.cells).length (by omega) λk hk _=>aFL s t k hl hu (by omega);rw [<-e];refine pF Tryz.func143 rfl (λst=> ?_)
 (repeat' first|apply wZ;rfl|show Cn _;constructor|exact rfl|(apply h)|apply bB 3;rfl;rfl|apply bB 2;rfl;rfl|apply wY;rfl)
def afG (h:Bool) (a:Bool) (n:Bool) (p:Bool):Int:=if h=false then 4 else if a=true then 1 else if n=false then 6 else if p=true then 5 else 0
def sV (t:Tb) (k:Nat):Int:=afG (gO t t.sums[k]!.col&&gO t t.sums[k]!.by_) ((decide (t.sums[k]!.col=t.sums[k]!.by_)||decide (t.sums[k]!.max<0))||decide (t.sums[k]!.max>1099511627776)) (gD (fK t t.sums[k]!.col)&&gD (fK t t.sums[k]!.by_)) ((t.sums.take k).any λy=>decide (y.col=t.sums[k]!.col)&&decide (y.by_=t.sums[k]!.by_))
theorem aCP (x c:Su):PF Tryz.prog 222 [.agg x.cells, .rp c.cells] (vb (decide (x.col=c.col)&&decide (x.by_=c.by_))):=by
 refine pF Tryz.func222 rfl (λst=> ?_)
 (repeat' first|apply wZ;rfl|show Cn _;constructor|exact rfl)
theorem aFR (t:Tb) (k:Nat) (hl:t.cols.length<200000000000000) (hu:t.sums.length<200000000000000) (hk:k<t.sums.length):PF Tryz.prog 221 [(vi ((k:Nat))), .rp t.cells] (vi (sV t k)):=by
 have a:=uX t t.sums[k].col;have b:=uX t t.sums[k].by_;have hc:=aAx 222 [.rp t.sums[k].cells] (λy=>decide (y.col=t.sums[k].col)&&decide (y.by_=t.sums[k].by_)) (t.sums.take k) (by rw [zlt];omega) λp=>aCP p _;have e:sV t k=afG (gO t t.sums[k].col&&gO t t.sums[k].by_) ((decide (t.sums[k].col=t.sums[k].by_)||decide (t.sums[k].max<0))||decide (t.sums[k].max>1099511627776)) (gD (fK t t.sums[k].col)&&gD (fK t t.sums[k].by_)) ((t.sums.take k).any λy=>decide (y.col=t.sums[k].col)&&decide (y.by_=t.sums[k].by_)):=by
  unfold sV;rw [getElem!_pos t.sums k hk]
 have m:(((t.sums.drop 0).take (k-0)).map Su.cells)=(t.sums.take k).map Su.cells:=by simp
 rw [e];unfold afG;generalize ((t.sums.take k).any λy=>decide (y.col=t.sums[k].col)&&decide (y.by_=t.sums[k].by_))=A at*;cases c1:gO t t.sums[k].col with
 |false=>
  rw [c1] at a;refine pF Tryz.func221 rfl (λst=> ?_)
  (repeat' first|apply wZ;rfl|show Cn _;constructor|exact rfl|((first|apply a|apply b))|apply bB 4;rfl;rfl|apply wY;rfl|apply wI;rfl|apply gE;omega)
 |true=>
 cases c2:gO t t.sums[k].by_ with
 |false=>
  rw [c1] at a;rw [c2] at b;refine pF Tryz.func221 rfl (λst=> ?_)
  (repeat' first|apply wZ;rfl|show Cn _;constructor|exact rfl|((first|apply a|apply b))|apply bB 4;rfl;rfl|apply wY;rfl|apply wI;rfl|apply gE;omega)
 |true=>
  rw [c1] at a;rw [c2] at b;obtain ⟨j,hj,o,d⟩:=rX c1;obtain ⟨i,hi,n,c⟩:=rX c2;rw [d,c];have g:=dX t.cols[j];have l:=dX t.cols[i];generalize gD t.cols[j]=N at*;generalize gD t.cols[i]=M at*;refine pF Tryz.func221 rfl (λst=> ?_)
  (repeat' first|apply iX;(intro hw;exact (by first|rfl|exact hj|exact hi));(apply gE;omega);rfl|apply wZ;rfl|show Cn _;constructor|exact rfl|((first|apply a|apply b|apply g|apply l|apply hc))|show (_:PV)=_;(congr 2;grind);done|apply bB 4;rfl;rfl|apply slS pk (f:=Su.cells) (xs:=t.sums) 0 k;(iterate 5 rfl);rotate_left;rfl;(intro _;rfl);(intro _;exact aX);(intro _;exact aL rfl rfl);(intro _;omega);(intro _;omega);rfl;rw [m]|apply wY;rfl|apply wI;rfl|(intro h;simp at h)|intro h)
theorem aAK (t:Tb) (hl:t.cols.length<200000000000000) (hu:t.sums.length<200000000000000):PF Tryz.prog 145 [.agg t.cells] (vi (dY (sV t) t.sums.length)):=by
 have e:(t.sums.map Su.cells).length=t.sums.length:=zql _;have h:=jC 221 [.rp t.cells] (sV t) (t.sums.map Su.cells).length (by omega) λk hk _=>aFR t k hl hu (by omega);rw [<-e];refine pF Tryz.func145 rfl (λst=> ?_)
 (repeat' first|apply wZ;rfl|show Cn _;constructor|exact rfl|(apply h)|apply bB 1;rfl;rfl|apply wY;rfl)
theorem aBA (t:Tb) (n:ByteArray):PF Tryz.prog 213 [.agg t.cells, .rp [(vs (n))]] (vb (decide (t.name=n))):=by
 refine pF Tryz.func213 rfl (λst=> ?_)
 (repeat' first|apply wZ;rfl|show Cn _;constructor|exact rfl)
def aAz (s:Sc) (n:ByteArray):Int:=cX (λt:Tb=>decide (t.name=n)) s
theorem avG (s:Sc) (n:ByteArray) (hl:s.length<200000000000000):PF Tryz.prog 134 [.agg (scC s),(vs (n))] (.tup [(vi (max (aAz s n) 0)),(vb (decide (aAz s n>=0)))]):=by
 have h:=aAX 213 [.rp [(vs (n))]] (λt=>decide (t.name=n)) s (by omega) λp=>aBA p n;change PF _ _ _ (vi (aAz s n)) at h;generalize aAz s n=R at*;refine pF Tryz.func134 rfl (λst=> ?_)
 (repeat' first|apply wZ;rfl|show Cn _;constructor|exact rfl|(apply h)|apply bB 3;rfl;rfl|apply wY;rfl)
def asE (s:Sc) (k:Nat):Bool:=(s.take k).any λt=>decide (t.name=s[k]!.name)
theorem aGC {α:Type} {f:α->Bool} {l:List α} {k:Nat} (hk:k<l.length) (hf:f l[k]=true):decide (max (cX f l) 0<k)=(l.take k).any f:=by
 unfold cX;cases h:l.findIdx? f with
 |none=>rw [List.findIdx?_eq_none_iff.1 h _ (zgm hk)] at hf;cases hf
 |some j=>
  obtain ⟨hj,a,hn⟩:=List.findIdx?_eq_some_iff_getElem.1 h;rw [Bool.eq_iff_iff,List.any_eq_true,zde];show max ((j:Nat):Int) 0<k↔_;constructor
  ·intro q
   exact ⟨l[j],List.mem_take_iff_getElem.2 ⟨j,by omega,rfl⟩,a⟩
  ·rintro ⟨x,hx,b⟩
   obtain ⟨i,hi,rfl⟩:=List.mem_take_iff_getElem.1 hx;rcases Nat.lt_or_ge i j with q|q
   ·exact absurd b (by simpa using hn i q)
   ·omega
def lk0 (s:Sc) (k:Nat):Int:=if pS s[k]!.name=false then 1 else if asE s k=true then 5 else 0
def lk1 (t:Tb):Int:=if t.cols.length<1\/t.cols.length>16\/t.checks.length>16\/t.unique.length>16\/t.foreign.length>16\/t.sums.length>16 then 2 else 0
def lk2 (t:Tb):Int:=dY (sX t) t.cols.length
def lk3 (t:Tb):Int:=if gD t.cols[0]! =false\/t.cols[0]!.null=true then 6 else 0
def lk4 (t:Tb):Int:=dY (sQ t) t.unique.length
def lk5 (m:Nat) (t:Tb):Int:=dY (uI m t) t.foreign.length
def lk6 (t:Tb):Int:=dY (sV t) t.sums.length
def lks (s:Sc) (k:Nat):List Int:=[lk0 s k,lk1 s[k]!,lk2 s[k]!,lk3 s[k]!,lk4 s[k]!,lk5 s.length s[k]!,lk6 s[k]!]
def sU (s:Sc) (k:Nat):Int:=orI (lks s k)
def bS (s:Sc):Int:=if s.length<1\/s.length>16 then 2 else dY (sU s) s.length
structure TbB (t:Tb):Prop where
 c:t.cols.length<200000000000000
 u:t.unique.length<200000000000000
 k:t.checks.length<200000000000000
 f:t.foreign.length<200000000000000
 s:t.sums.length<200000000000000
theorem aDN (s:Sc) (k:Nat) (hl:s.length<200000000000000) (hk:k<s.length):PF Tryz.prog 132 [.agg (scC s),(vi ((k:Nat)))] (vi (lk0 s k)):=by
 have hn:=aiH s[k].name;have ht:=avG s s[k].name hl;have hd:=aGC (f:=λt:Tb=>decide (t.name=s[k].name)) hk (decide_eq_true rfl);change decide (max (aAz s s[k].name) 0<(k:Nat))=_ at hd;have e:lk0 s k=if pS s[k].name=false then 1 else if ((s.take k).any λt=>decide (t.name=s[k].name))=true then 5 else 0:=by unfold lk0 asE;rw [getElem!_pos s k hk]
 rw [e,<-hd];generalize pS s[k].name=N at*;generalize aAz s s[k].name=R at*;refine pF Tryz.func132 rfl (λst=> ?_)
 (repeat' first|apply wZ;rfl|show Cn _;constructor|exact rfl|apply KR.mk;kernel_rfl|((first|apply hn|apply ht))|show (_:PV)=_;(congr 2;grind);done|apply wY;rfl|apply wI;rfl|apply gE;omega|(intro h;simp at h)|intro h)
theorem aEw (s:Sc) (k:Nat) (hk:k<s.length) (a:TbB s[k]):PF Tryz.prog 135 [.agg (scC s),(vi ((k:Nat)))] (vi (lk1 s[k]!)):=by
 rw [getElem!_pos s k hk];obtain ⟨b1,b2,b,c,d⟩:=a;unfold lk1;refine pF Tryz.func135 rfl (λst=> ?_)
 (repeat' first|apply wZ;rfl|show Cn _;constructor|exact rfl|show (_:PV)=_;(first|rw [zp (by omega)];done|rw [zn (by omega)];done);done|apply aLa;(iterate 6 rfl);rotate_left;rfl;rfl|apply wI;rfl|apply gE;omega|(intro h;simp at h))
theorem aCF (s:Sc) (k:Nat) (hk:k<s.length) (a:TbB s[k]):PF Tryz.prog 136 [.agg (scC s),(vi ((k:Nat)))] (vi (lk2 s[k]!)):=by
 rw [getElem!_pos s k hk];have h:=akA s[k] a.c;change PF _ _ _ (vi (lk2 s[k])) at h;refine pF Tryz.func136 rfl (λst=> ?_)
 (repeat' first|apply wZ;rfl|show Cn _;constructor|exact rfl|(apply h)|apply wY;rfl|apply wI;rfl|apply gE;omega)
theorem aD5 (s:Sc) (k:Nat) (hk:k<s.length) (hc:0<s[k].cols.length):PF Tryz.prog 138 [.agg (scC s),(vi ((k:Nat)))] (vi (lk3 s[k]!)):=by
 rw [getElem!_pos s k hk];unfold lk3;rw [getElem!_pos s[k].cols 0 hc];have h:=dX s[k].cols[0];generalize gD s[k].cols[0]=N at*;refine pF Tryz.func138 rfl (λst=> ?_)
 (repeat' first|apply wZ;rfl|show Cn _;constructor|exact rfl|(apply h)|show (_:PV)=_;(congr 2;grind);done|apply wY;rfl|apply wI;rfl|apply gE;omega|(intro h;simp at h))
theorem aEP (s:Sc) (k:Nat) (hk:k<s.length) (a:TbB s[k]):PF Tryz.prog 140 [.agg (scC s),(vi ((k:Nat)))] (vi (lk4 s[k]!)):=by
 rw [getElem!_pos s k hk];have h:=akR s[k] a.c a.u;change PF _ _ _ (vi (lk4 s[k])) at h;refine pF Tryz.func140 rfl (λst=> ?_)
 (repeat' first|apply wZ;rfl|show Cn _;constructor|exact rfl|(apply h)|apply wY;rfl|apply wI;rfl|apply gE;omega)
theorem aEz (s:Sc) (k:Nat) (hk:k<s.length) (a:TbB s[k]):PF Tryz.prog 142 [.agg (scC s),(vi ((k:Nat)))] (vi (lk5 s.length s[k]!)):=by
 rw [getElem!_pos s k hk];have h:=agK s s[k] a.c a.f;change PF _ _ _ (vi (lk5 s.length s[k])) at h;refine pF Tryz.func142 rfl (λst=> ?_)
 (repeat' first|apply wZ;rfl|show Cn _;constructor|exact rfl|apply KR.mk;kernel_rfl|(apply h)|apply wY;rfl|apply wI;rfl|apply gE;omega)
theorem aCA (s:Sc) (k:Nat) (hk:k<s.length) (a:TbB s[k]):PF Tryz.prog 144 [.agg (scC s),(vi ((k:Nat)))] (vi (lk6 s[k]!)):=by
 rw [getElem!_pos s k hk];have h:=aAK s[k] a.c a.s;change PF _ _ _ (vi (lk6 s[k])) at h;refine pF Tryz.func144 rfl (λst=> ?_)
 (repeat' first|apply wZ;rfl|show Cn _;constructor|exact rfl|(apply h)|apply wY;rfl|apply wI;rfl|apply gE;omega)
def looksF :List FuncId:=[132,135,136,138,140,142,144]
theorem asC :PF Tryz.prog 75 [] (.seq (looksF.map λf=>[.fn f []])):=by
 refine pF Tryz.func75 rfl (λst=> ?_)
 (repeat' first|apply wZ;rfl|show Cn _;constructor|exact rfl)
theorem axU (s:Sc) (k:Nat):(lks s k).length=7:=rfl
theorem aBX (s:Sc) (k y:Nat) (hl:s.length<200000000000000) (hk:k<s.length) (a:TbB s[k]) (hy:y<7) (hz:∀j (h:j<y),(lks s k)[j]'(by rw [axU];omega)=0):PF Tryz.prog (looksF[y]'hy) [.agg (scC s),(vi ((k:Nat)))] (vi ((lks s k)[y]'hy)):=by
 rcases (show y=0\/y=1\/y=2\/y=3\/y=4\/y=5\/y=6 by omega) with rfl|rfl|rfl|rfl|rfl|rfl|rfl
 ·exact aDN s k hl hk
 ·exact aEw s k hk a
 ·exact aCF s k hk a
 ·have b:lk1 s[k]! =0:=hz 1 (by omega)
  rw [getElem!_pos s k hk] at b;have:0<s[k].cols.length:=by
   unfold lk1 at b;split at b
   ·omega
   ·omega
  exact aD5 s k hk this
 ·exact aEP s k hk a
 ·exact aEz s k hk a
 ·exact aCA s k hk a
theorem zK (s:Sc) (hl:s.length<200000000000000) (hB:∀t∈s,TbB t):PF Tryz.prog 42 [.agg (scC s)] (vi (bS s)):=by
 have hlk:=asC
 unfold bS
 by_cases h16:s.length<1\/s.length>16
 ·rw [zp h16]
  refine pF Tryz.func42 rfl (λst=> ?_)
  (repeat' first|(refine ahF (λ_ _ h=>h) ?_)|apply wZ;rfl|show Cn _;constructor|exact rfl|intro h;simp at h;omega|(intro h;simp at h))
 rw [zn h16]
 refine pF Tryz.func42 rfl (λst=> ?_)
 (repeat' first|(refine ahF (λ_ _ h=>h) ?_)|(refine aBs ?_)|apply wZ;rfl|show Cn _;constructor|intro h;simp at h;omega|(intro h;simp at h))
 refine aC (X:={x:Nat//x<=s.length/\∀j<x,sU s j=0}) (λi=>(((((St.nil 39 st).var 1 24 ((scC s))).pv 3 ((vi (0)))).pv 19 ((vi (((s.map Tb.cells).length:Nat))))).pv 20 ((vi ((i.1:Nat)))))) (λi=>s.length-i.1) ⟨0,by omega,by omega⟩ ?_ (λi=> ?_)
 ·(repeat' first|show Cn _;constructor|exact rfl)
 obtain ⟨i,hi,hI⟩:=i
 dsimp only
 by_cases hend:s.length<=i
 ·rw [lN (f:=sU s) (n:=s.length) λj hj=>hI j (by omega)]
  (repeat' first|apply wZ;rfl|show Cn _;constructor|exact rfl|simp only [zql];omega|(intro h;simp at h))
 have hil:i<s.length:=by omega
 have hBi:=hB s[i] (zgm hil)
 (repeat' first|apply wZ;rfl|show Cn _;constructor|(apply hlk)|apply wY;rfl|simp only [zql];omega|(intro h;simp at h))
 refine aC (X:={x:Nat//x<=7/\∀j (h:j<x) (h7:j<7),(lks s i)[j]'h7=0}) (λy=>(((((((((St.nil 39 st).var 1 24 ((scC s))).pv 3 ((vi (0)))).pv 4 ((vi ((i:Nat))))).pv 19 ((vi (((s.map Tb.cells).length:Nat))))).pv 20 ((vi ((i:Nat))))).pv 23 (.seq (looksF.map λf=>[.fn f []]))).pv 24 ((vi ((7:Nat))))).pv 25 ((vi ((y.1:Nat)))))) (λy=>7-y.1) ⟨0,by omega,by omega⟩ ?_ (λy=> ?_)
 ·(repeat' first|show Cn _;constructor|exact rfl)
 obtain ⟨y,hy,hyI⟩:=y
 dsimp only
 by_cases hend2:7<=y
 ·have e:sU s i=0:=by
   unfold sU
   refine aCp λx hx=> ?_
   obtain ⟨j,hj,rfl⟩:=zgo hx
   exact hyI j (by rw [axU] at hj;omega) hj
  (repeat' first|(refine ⟨⟨i+1,by omega,λj hj=>by rcases zls.1 hj with q|q;exact hI j q;subst q;exact e⟩, ?_, ?_⟩)|apply wZ;rfl|show Cn _;constructor|exact rfl|omega|simp only [zql];omega|(intro h;simp at h))
 have hy7:y<7:=by omega
 have hc:=aBX s i y hl hil hBi hy7 λj hj=>hyI j hj (by omega)
 have hF:(lks s i)[y]'hy7≠0->dY (sU s) s.length=(lks s i)[y]'hy7:=λh=>by
  have e:sU s i=(lks s i)[y]'hy7:=aDK (l:=lks s i) hy7 h λj hj h2=>hyI j hj h2
  rw [lL hil (by rw [e];exact h) hI,e]
 have hS:(lks s i)[y]'hy7=0->∀j (h:j<y+1) (h7:j<7),(lks s i)[j]'h7=0:=λh j hj h7=>by
  rcases zls.1 hj with q|q
  ·exact hyI j q h7
  ·subst q;exact h
 generalize (lks s i)[y]'hy7=R at*
 have hrow:(looksF.map λf=>[PV.fn f []])[y]?=some [.fn (looksF[y]'hy7) []]:=axE (f:=λf=>[PV.fn f []]) (l:=looksF) hy7
 generalize (looksF[y]'hy7)=F at*
 (repeat' first|(refine ⟨⟨y+1,by omega,hS ‹_›⟩, ?_, ?_⟩)|apply wZ;rfl|show Cn _;constructor|exact rfl|apply cO pk;(iterate 6 rfl);rotate_left;rfl;(intro hw;rfl);(intro hw;apply (λ_=>hrow)<;>omega);(intro _;rfl);rfl|(apply hc)|show (_:PV)=_;(rw [hF ‹_›]);done|show _=_;((simp only [show R=0 from by assumption]))|apply wY;rfl|omega|simp only [zql];omega|(intro h;simp at h)|intro h)
theorem aiN (zs:List Int) {st:aD} {id n:Nat} (b:st id=some (.arr 3 (zs.map I1))) (hn:zs.length=n) (a:n<4611686018427387904):
  PC Tryz.prog 22 [.vec id 1 0 n] st λ_ S=>S=upd st id (some (.arr 3 ((zs.mergeSort λx y=>decide (x<=y)).map I1))):=
 aDH (P:=Tryz.prog) aK3 (by kernel_rfl) (by kernel_rfl) b hn a
theorem cE {st:aD} {id a:Nat} {o:AObj} (h:upd st id (some o) a=none):st a=none:=by
 by_cases e:a=id
 ·subst e;rw [aA] at h;cases h
 ·rwa [aB e] at h
theorem kN :Tryz.prog.bytesOf 3=8:=by kernel_rfl
theorem asN (l:List Dt) (st:aD) (hl:l.length<1000000000000):PC Tryz.prog 205 [.seq (l.map Dt.cells)] st (LR 69 2 st (l.map Dt.cells)):=by
 refine pC Tryz.func205 rfl ?_
 (repeat' first|show Cn (.r _ _ _);refine .rr ?_;((first|exact .inr ⟨rfl,hb h,zsr _⟩|exact .inl ⟨c,by rw [zql],a,aA _ _ _,bT a⟩));done|apply wZ;rfl|show Cn _;constructor|(apply ap0 pk (f:=Dt.cells) l 16;(iterate 10 rfl);exact λ_=>rfl;exact λ_=>rfl;exact ayF;(omega);(omega);rfl;intro c a)|(apply aDD pk;(iterate 6 rfl);intro b hb)|intro h)
theorem ahU (l:List Dt) (st:aD) (hl:l.length<1000000000000):PC Tryz.prog 205 [.seq (l.map Dt.cells)] st λp S=>∃id,p= .vec id 2 0 l.length/\st id=none/\S=upd st id (some (.arr 69 (l.map Dt.cells))):=
 yS (adY (asN l st hl)) λp st' ⟨id,a,b,c⟩=>⟨p,st',zwr _,zsr _,id,by rw [a,zql],b,c⟩
def cF (xs:List Dt) (i:Nat) (a:List Dt):List Dt:=xs.take i++a++xs.drop i
theorem apK (xs:List Dt) (i:Nat) (a:List Dt):(cF xs i a).map Dt.cells=(xs.map Dt.cells).take i++a.map Dt.cells++(xs.map Dt.cells).drop i:=by
 unfold cF;rw [List.map_append,List.map_append,List.map_take,List.map_drop]
theorem rN {xs:List Dt} {i:Nat} {a:List Dt} (hi:i<=xs.length):(cF xs i a).length=xs.length+a.length:=by
 unfold cF;simp only [zla,zlt,zld];omega
def aDU (st:aD) (id:Nat) (zs:List Dt) (r:PV) (S:aD):Prop:=∃a,r= .vec a 2 0 zs.length/\upd st id none a=none/\S=upd (upd st id none) a (some (.arr 69 (zs.map Dt.cells)))
theorem aoJ (xs g:List Dt) (i id n:Nat) (st:aD) (N:st id=some (.arr 69 (xs.map Dt.cells))) (hn:xs.length=n) (hi:i<=n) (hy:g≠[]) (hl:n+g.length<1000000000000):PC Tryz.prog 204 [.vec id 2 0 n,(vi ((i:Nat))), .seq (g.map Dt.cells)] st (aDU st id (cF xs i g)):=by
 obtain ⟨m,hm⟩:∃m,g.length=m:=⟨_,rfl⟩;have t:(g.map Dt.cells).length=m:=(zql _).trans hm;have U:0<m:=by rw [<-hm];exact List.length_pos_iff.2 hy
 rw [hm] at hl;have v:(cF xs i g).length=n+m:=by rw [rN (by omega),hn,hm]
 have F:=apK xs i g;have Q:=ayF;refine pC Tryz.func204 rfl ?_;by_cases M:i=n
 ·subst M
  have hz:cF xs i g=xs++g:=by unfold cF;rw [ztl (by omega),List.drop_of_length_le (by omega),List.append_nil]
  (repeat' first|show Cn (.r _ _ _);refine .rr ?_;(exact ⟨P,(by rw [v,hm]),kD E,(by rw [hz];rfl)⟩);done|apply wZ;rfl|show Cn _;constructor|(apply apV pk (f:=Dt.cells) g 16;(iterate 9 rfl);(assumption);(omega);exact λ_=>rfl;exact λ_=>rfl;exact Q;(omega);(omega);rfl;intro P E)|apply ayX pk i i;(iterate 4 rfl);rotate_left;rfl;(intro _;exact aL rfl rfl);(intro _;exact aX);(intro _;omega);(intro _;omega);rfl|omega|(intro h;simp at h))
 have T:i<n:=by omega
 have s:(xs.map Dt.cells).length=n:=(zql _).trans hn;have x:∀r∈xs.map Dt.cells,r.all PV.one=true:=λr q=>by obtain ⟨a,_,rfl⟩:=List.mem_map.1 q;rfl
 have y:∀r∈xs.map Dt.cells,r.length=2:=λr q=>by obtain ⟨a,_,rfl⟩:=List.mem_map.1 q;rfl
 have B:∀r∈g.map Dt.cells,r.all PV.one=true:=λr q=>by obtain ⟨a,_,rfl⟩:=List.mem_map.1 q;rfl
 have p:∀r∈g.map Dt.cells,r.length=2:=λr q=>by obtain ⟨a,_,rfl⟩:=List.mem_map.1 q;rfl
 have hj:∀k,(xs.map Dt.cells++aS k 2).length=n+k:=λk=>by rw [zla,s];unfold aS;rw [List.length_replicate]
 generalize R:xs.map Dt.cells=X at*;generalize S:g.map Dt.cells=Y at*;have I:Y≠[]:=λe=>by rw [e] at t;simp at t;omega
 obtain ⟨Z,W,yr,H⟩:∃c cs G,Y=(c::cs)::G:=by
  cases A:Y with
  |nil=>exact absurd A I
  |cons a b=>
   cases ha:a with
   |nil=>have:=p a (by rw [A];simp);rw [ha] at this;cases this
   |cons c cs=>exact ⟨c,cs,b,rfl⟩
 refine vA 0 m (id:=id) (rows:=X) rfl N xB s (by omega) (by omega) (λk o hk d=> ?_) (λo d=> ?_)
 ·have d:st o=none:=d
  have O:(X++aS k 2).take i=X.take i:=List.take_append_of_le_length (by omega);have L:(X.take i++aS (n+m-i) 2).length=n+m:=by rw [zla,zlt];unfold aS;rw [List.length_replicate];omega
  have K:(aQ (X.take i++aS (n+m-i) 2) i Y).length=n+m:=by rw [dK (by omega),L]
  have u:aQ (aQ (X.take i++aS (n+m-i) 2) i Y) (i+m) (X.drop i)=(cF xs i g).map Dt.cells:=by rw [F];rw [<-s];exact vK t (by omega)
  (repeat' first|(refine Cn.any ⟨_,_,upd (upd st id none) id2 (some (.arr 69 ((cF xs i g).map Dt.cells))),rfl,zwr _,oM (by rw [u]) d,id2,(by rw [v];congr 1;omega),mO l,rfl⟩)|apply wD pk [8] [];kernel_rfl;rfl;rfl|apply wZ;rfl|show Cn _;constructor|(refine amN pk (rows:=X++aS k 2) rfl rfl rfl rfl (.inr (aA _ _ _)) (by rw [hj];omega) rfl (λc C D=> ?_);have J:=D (aA _ _ _);rw [hj] at J)|apply aaE pk (j:=i) (rows:=X++aS k 2);(iterate 4 rfl);rotate_left;rfl;rfl;exact .inr (aA _ _ _);(rw [hj];omega);exact aL rfl rfl;(rw [hj];omega)|(refine apZ pk (kq:= .i64) (kn:= .i64) (i:=i) (m:=n+m-i) (sz:=2) (rows:=X++aS k 2) 16 rfl (congrArg (λz=>some (PV.val (.int .i64 z))) (show _=((n+m-i:Nat):Int) from by omega)) rfl (by kernel_rfl) rfl rfl rfl rfl (aA _ _ _) (by rw [hj];omega) (by rw [hj];omega) (by rw [hj];omega) Q (by omega) (by omega) (by omega) rfl (λid2 l=> ?_);rw [O];have V:o≠id2:=(λe=>by rw [<-e] at l;have l:=(aA _ _ _).symm.trans l;cases l))|apply eK pk (i) (n+m-i);(iterate 4 rfl);rotate_left;rfl;(intro _;exact ⟨_,aL rfl rfl,by omega⟩);(intro _;exact ⟨_,aX,by omega⟩);(intro _;omega);(intro _;omega);rfl|apply eK pk (i+m) (n-i);(iterate 4 rfl);rotate_left;rfl;(intro _;exact ⟨_,aL rfl (show _=((i+m:Nat):Int) from by omega),by omega⟩);(intro _;exact ⟨_,aX,by omega⟩);(intro _;omega);(intro _;omega);rfl|apply eK pk (i) (n-i);(iterate 4 rfl);rotate_left;rfl;(intro _;exact ⟨_,aL rfl rfl,by omega⟩);(intro _;exact ⟨_,aX,by omega⟩);(intro _;omega);(intro _;omega);rfl|(refine kO pk (e:=69) (sz:=2) (rows:=X.take i++aS (n+m-i) 2) (new:=Y) (m:=Y.length) (n:=Y.length) (len:=n+m-i) rfl rfl rfl rfl rfl (aA _ _ _) (by omega) (rK aW rfl rfl rfl p B) rfl p (by omega) (by omega) rfl ?_)|(refine kO pk (e:=69) (sz:=2) (rows:=aQ (X.take i++aS (n+m-i) 2) i Y) (new:=X.drop i) (m:=n-i) (n:=n-i) (len:=n-i) rfl rfl rfl rfl rfl (aA _ _ _) (by omega) (mN (k:=k) rfl (.inr ((aB ‹_›).trans ((aB ‹_›).trans (aA _ _ _)))) s (by omega) xB x (by omega) (by omega)) (by rw [zld];omega) (λr q=>y r (List.mem_of_mem_drop q)) (by omega) (by omega) rfl ?_)|omega|(intro h;simp at h)|intro h)
 ·have d:st o=none:=d
  have K:(aQ (X++aS m 2) (i+m) (X.drop i)).length=n+m:=by rw [dK (by rw [zld,hj];omega),hj]
  have u:aQ (aQ (X++aS m 2) (i+m) (X.drop i)) i Y=(cF xs i g).map Dt.cells:=by rw [F];exact wK t (by omega)
  (repeat' first|(refine Cn.any ⟨_,_,upd (upd st id none) o (some (.arr 69 ((cF xs i g).map Dt.cells))),rfl,zwr _,oL (by rw [u]),o,(by rw [v]),kD d,rfl⟩)|apply wD pk [8] [];kernel_rfl;rfl;rfl|apply wZ;rfl|show Cn _;constructor|apply eK pk (i) (n-i);(iterate 4 rfl);rotate_left;rfl;(intro _;exact ⟨_,aL rfl rfl,by omega⟩);(intro _;exact ⟨_,aX,by omega⟩);(intro _;omega);(intro _;omega);rfl|apply eK pk (i) (n+m-i);(iterate 4 rfl);rotate_left;rfl;(intro _;exact ⟨_,aL rfl rfl,by omega⟩);(intro _;exact ⟨_,aX,by omega⟩);(intro _;omega);(intro _;omega);rfl|apply eK pk (i+m) (n-i);(iterate 4 rfl);rotate_left;rfl;(intro _;exact ⟨_,aL rfl (show _=((i+m:Nat):Int) from by omega),by omega⟩);(intro _;exact ⟨_,aX,by omega⟩);(intro _;omega);(intro _;omega);rfl|(refine amN pk (rows:=X++aS m 2) rfl rfl rfl rfl (.inl (aA _ _ _)) (by rw [hj];omega) rfl (λc C D=> ?_);rw [hj] at C)|apply aaE pk (j:=n+m) (rows:=X++aS m 2);(iterate 4 rfl);rotate_left;rfl;rfl;exact .inl (aA _ _ _);(rw [hj];omega);exact aL rfl (show _=((n+m:Nat):Int) from by omega);(rw [hj];omega)|(refine ovA pk (w:=true) (tS:=104) (tR:=4) (off:=i+m) (len:=n-i) (e:=69) (sz:=2) (rows:=X++aS m 2) rfl rfl Tryz.func271 (by kernel_rfl) (by kernel_rfl) (by kernel_rfl) (by kernel_rfl) rfl rfl rfl H rfl (.inl (aA _ _ _)) (by rw [hj];omega) xB (by omega) ?_ rfl rfl ?_;rotate_left)|(refine kO pk (e:=69) (sz:=2) (rows:=X++aS m 2) (new:=X.drop i) (m:=n+m-i) (n:=n-i) (len:=n-i) rfl rfl rfl rfl rfl (aA _ _ _) (by rw [hj];omega) (mN (k:=m) rfl (.inl (aA _ _ _)) s (by omega) xB x (by omega) (by omega)) (by rw [zld];omega) (λr q=>y r (List.mem_of_mem_drop q)) (by omega) (by omega) rfl ?_)|(refine kO pk (e:=69) (sz:=2) (rows:=aQ (X++aS m 2) (i+m) (X.drop i)) (new:=Y) (m:=Y.length) (n:=Y.length) (len:=n+m-i) rfl rfl rfl rfl rfl (aA _ _ _) (by omega) (rK aW rfl rfl rfl p B) rfl p (by omega) (by omega) rfl ?_)|omega|(intro h;simp at h)|intro h)
theorem aHe (xs a:List Dt) (i id n:Nat) (z:Int) (st:aD) (b:st id=some (.arr 69 (xs.map Dt.cells))) (hn:xs.length=n) (hz:z=((i:Nat):Int)) (hi:i<=n) (hy:a≠[]) (hl:n+a.length<1000000000000):PC Tryz.prog 204 [.vec id 2 0 n,(vi (z)), .seq (a.map Dt.cells)] st (aDU st id (cF xs i a)):=by
 subst hz;exact aoJ xs a i id n st b hn hi hy hl
theorem iL {st:aD} {id id2:Nat} {o:Option AObj} (a:st id=none) (h:upd (upd st id o) id none id2=none):st id2=none:=by
 by_cases e:id2=id
 ·rw [e];exact a
 ·rwa [aB e,aB e] at h
theorem kU {st:aD} {id id2:Nat} {o b:Option AObj} (c:st id=none):StSub (upd st id2 b) (upd (upd (upd st id o) id none) id2 b):=λj=>by
 by_cases e:j=id2
 ·subst e;right;rw [aA,aA]
 ·rw [aB e,aB e]
  by_cases a:j=id
  ·subst a;left;exact c
  ·right;rw [aB a,aB a]
theorem amQ (x d:Dt):PF Tryz.prog 203 [.agg x.cells, .rp d.cells] (vb (aV x d)):=by
 refine pF Tryz.func203 rfl (λst=> ?_)
 (repeat' first|apply wZ;rfl|show Cn _;constructor|exact rfl|(apply (aoD x d))|show (_:PV)=_;(rw [<-awO]);done|apply wY;rfl)
def fZ (l:List Dt) (d:Dt):Nat:=(l.findIdx? λx=>aV x d).getD l.length
theorem arF (l:List Dt) (d:Dt):fZ l d<=l.length:=by
 unfold fZ;cases h:l.findIdx? λx=>aV x d with
 |none=>exact Nat.le_refl _
 |some k=>exact Nat.le_of_lt (List.findIdx?_eq_some_iff_getElem.1 h).1
def dC (a:Ln) (d:Dt):Ln:=if d∈a.by_ then a else {a with by_:=cF a.by_ (fZ a.by_ d) [d]}
theorem aFf (a:Ln) (d:Dt) (st:aD) (hl:a.by_.length<100000000000):PC Tryz.prog 123 [.agg a.cells, .agg d.cells] st λr S=>(r= .agg a.cells/\S=st/\d∈a.by_)\/(d∉a.by_/\∃id,r= .agg [(vi (a.key)), .seq (a.cells_.map Cl.cells), .vec id 2 0 (cF a.by_ (fZ a.by_ d) [d]).length]/\st id=none/\S=upd st id (some (.arr 69 ((cF a.by_ (fZ a.by_ d) [d]).map Dt.cells)))):=by
 have hc:=agB a.by_ d (by omega);have hi:=aAJ 203 [.rp d.cells] (λx=>aV x d) a.by_ (by omega) λx=>amQ x d;have f:(a.by_.any λy=>decide (d=y))=decide (d∈a.by_):=by
  rw [Bool.eq_iff_iff,List.any_eq_true,zde];constructor
  ·rintro ⟨y,hy,e⟩;rw [of_decide_eq_true e];exact hy
  ·exact λh=>⟨d,h,decide_eq_true rfl⟩
 rw [f] at hc;by_cases hd:d∈a.by_
 ·rw [decide_eq_true hd] at hc
  refine pC Tryz.func123 rfl ?_
  (repeat' first|(apply Cn.cf;focus ((apply hc);done))|show Cn (.r _ _ _);refine .rr ?_;(exact .inl ⟨rfl,rfl,hd⟩);done|apply wZ;rfl|show Cn _;constructor|apply wY;rfl)
 rw [decide_eq_false hd] at hc;obtain ⟨k,hk⟩:∃k,fZ a.by_ d=k:=⟨_,rfl⟩;have c:=arF a.by_ d;rw [hk] at c⊢;have g:(cF a.by_ k [d]).length=a.by_.length+1:=rN c;rcases Nat.lt_or_ge k a.by_.length with l|i
 ·have b:cX (λx=>aV x d) a.by_=((k:Nat):Int):=by
   unfold cX;unfold fZ at hk;cases h:a.by_.findIdx? λx=>aV x d with
   |none=>rw [h] at hk;simp at hk;omega
   |some j=>rw [h] at hk;simp at hk;simp [hk]
  rw [b] at hi;refine pC Tryz.func123 rfl ?_
  (repeat' first|exact Cn.any ⟨_,_,upd st id2 (some (.arr 69 ((cF a.by_ k [d]).map Dt.cells))),rfl,zwr _,kU hid, .inr ⟨hd,id2,rfl,iL hid hid2,rfl⟩⟩|apply wDO pk [0,1,3,4,5,2,6,7,8] [2,6] [] [5,6] [];rfl;rfl;kernel_rfl;rfl;rfl|(apply Cn.cf;focus (((first|apply hc|apply hi));done))|(apply cP;rfl;(apply (ahU a.by_ _ (by omega)));rintro _ st' (⟨id,rfl,hid,rfl⟩))|(apply cP;rfl;(apply (aoJ a.by_ [d] k id a.by_.length _ (aA _ _ _) rfl (by omega) (by simp) (by simp;omega)));rintro _ st' (⟨id2,rfl,hid2,rfl⟩))|apply wZ;rfl|show Cn _;constructor|apply bB 3;rfl;rfl|apply wY;rfl)
 ·obtain rfl:k=a.by_.length:=by omega
  have b:cX (λx=>aV x d) a.by_= -1:=by
   unfold cX;unfold fZ at hk;cases h:a.by_.findIdx? λx=>aV x d with
   |none=>rfl
   |some j=>
    have:=(List.findIdx?_eq_some_iff_getElem.1 h).1;rw [h] at hk;simp at hk;omega
  rw [b] at hi;refine pC Tryz.func123 rfl ?_
  (repeat' first|exact Cn.any ⟨_,_,upd st id2 (some (.arr 69 ((cF a.by_ a.by_.length [d]).map Dt.cells))),rfl,zwr _,kU hid, .inr ⟨hd,id2,rfl,iL hid hid2,rfl⟩⟩|apply wDO pk [0,1,3,4,5,2,6,7,8] [2,6] [] [5,6] [];rfl;rfl;kernel_rfl;rfl;rfl|(apply Cn.cf;focus (((first|apply hc|apply hi));done))|(apply cP;rfl;(apply (ahU a.by_ _ (by omega)));rintro _ st' (⟨id,rfl,hid,rfl⟩))|(apply cP;rfl;(apply (aHe a.by_ [d] a.by_.length id a.by_.length _ _ (aA _ _ _) rfl (by simp) (by omega) (by simp) (by simp;omega)));rintro _ st' (⟨id2,rfl,hid2,rfl⟩))|apply wZ;rfl|show Cn _;constructor|apply bB 3;rfl;rfl|apply wY;rfl)
theorem adO (a:Ln) (d:Dt) (hl:a.by_.length<100000000000):PF Tryz.prog 123 [.agg a.cells, .agg d.cells] (.agg (dC a d).cells):=λst=>
 fB (sz:=2) (aFf a d st hl) λp st' h=>by
  rcases h with ⟨rfl,rfl,hd⟩|⟨hd,id,rfl,b,rfl⟩
  ·exact .inr ⟨_,_,zwr _,zsr _,by rw [dC,zp hd],rfl⟩
  ·refine .inl ⟨id,69,(cF a.by_ (fZ a.by_ d) [d]).map Dt.cells,_,st,aA _ _ _,xB, .agg (.cons .refl (.cons .refl (.cons ?_ .nil))),bT b,by rw [dC,zn hd];rfl,rfl⟩
   have e:((cF a.by_ (fZ a.by_ d) [d]).map Dt.cells).length=(cF a.by_ (fZ a.by_ d) [d]).length:=zql _;rw [<-e];exact .all
theorem arU (l:List Ln) (st:aD) (hl:l.length<1000000000000):PC Tryz.prog 71 [.seq (l.map Ln.cells)] st (LR 106 3 st (l.map Ln.cells)):=by
 refine pC Tryz.func71 rfl ?_
 (repeat' first|show Cn (.r _ _ _);refine .rr ?_;((first|exact .inr ⟨rfl,hb h,zsr _⟩|exact .inl ⟨c,by rw [zql],a,aA _ _ _,bT a⟩));done|apply wZ;rfl|show Cn _;constructor|(apply ap0 pk (f:=Ln.cells) l 56;(iterate 10 rfl);exact λ_=>rfl;exact λ_=>rfl;exact ajT;(omega);(omega);rfl;intro c a)|(apply aDD pk;(iterate 6 rfl);intro b hb)|intro h)
theorem ahV (l:List Ln) (st:aD) (hl:l.length<1000000000000):PC Tryz.prog 71 [.seq (l.map Ln.cells)] st λp S=>∃id,p= .vec id 3 0 l.length/\st id=none/\S=upd st id (some (.arr 106 (l.map Ln.cells))):=
 yS (adY (arU l st hl)) λp st' ⟨id,a,b,c⟩=>⟨p,st',zwr _,zsr _,id,by rw [a,zql],b,c⟩
theorem arP (l:List Da) (st:aD) (hl:l.length<1000000000000):PC Tryz.prog 131 [.seq (l.map Da.cells)] st (LR 101 1 st (l.map Da.cells)):=by
 refine pC Tryz.func131 rfl ?_
 (repeat' first|show Cn (.r _ _ _);refine .rr ?_;((first|exact .inr ⟨rfl,hb h,zsr _⟩|exact .inl ⟨c,by rw [zql],a,aA _ _ _,bT a⟩));done|apply wZ;rfl|show Cn _;constructor|(apply ap0 pk (f:=Da.cells) l 24;(iterate 10 rfl);exact λ_=>rfl;exact λ_=>rfl;exact ajS;(omega);(omega);rfl;intro c a)|(apply aDD pk;(iterate 6 rfl);intro b hb)|intro h)
theorem aBY (l:List Da) (st:aD) (hl:l.length<1000000000000):PC Tryz.prog 131 [.seq (l.map Da.cells)] st λp S=>∃id,p= .vec id 1 0 l.length/\st id=none/\S=upd st id (some (.arr 101 (l.map Da.cells))):=
 yS (adY (arP l st hl)) λp st' ⟨id,a,b,c⟩=>⟨p,st',zwr _,zsr _,id,by rw [a,zql],b,c⟩
def eC (xs:List Ln) (i:Nat) (a:List Ln):List Ln:=xs.take i++a++xs.drop i
theorem apB (xs:List Ln) (i:Nat) (a:List Ln):(eC xs i a).map Ln.cells=(xs.map Ln.cells).take i++a.map Ln.cells++(xs.map Ln.cells).drop i:=by
 unfold eC;rw [List.map_append,List.map_append,List.map_take,List.map_drop]
theorem zS {xs:List Ln} {i:Nat} {a:List Ln} (hi:i<=xs.length):(eC xs i a).length=xs.length+a.length:=by
 unfold eC;simp only [zla,zlt,zld];omega
def aJu (st:aD) (id:Nat) (zs:List Ln) (r:PV) (S:aD):Prop:=∃a,r= .vec a 3 0 zs.length/\upd st id none a=none/\S=upd (upd st id none) a (some (.arr 106 (zs.map Ln.cells)))
theorem aC7 (xs g:List Ln) (i id n:Nat) (st:aD) (N:st id=some (.arr 106 (xs.map Ln.cells))) (hn:xs.length=n) (hi:i<=n) (hy:g≠[]) (hl:n+g.length<1000000000000):PC Tryz.prog 73 [.vec id 3 0 n,(vi ((i:Nat))), .seq (g.map Ln.cells)] st (aJu st id (eC xs i g)):=by
 obtain ⟨m,hm⟩:∃m,g.length=m:=⟨_,rfl⟩;have t:(g.map Ln.cells).length=m:=(zql _).trans hm;have U:0<m:=by rw [<-hm];exact List.length_pos_iff.2 hy
 rw [hm] at hl;have v:(eC xs i g).length=n+m:=by rw [zS (by omega),hn,hm]
 have F:=apB xs i g;have Q:=ajT;refine pC Tryz.func73 rfl ?_;by_cases M:i=n
 ·subst M
  have hz:eC xs i g=xs++g:=by unfold eC;rw [ztl (by omega),List.drop_of_length_le (by omega),List.append_nil]
  (repeat' first|show Cn (.r _ _ _);refine .rr ?_;(exact ⟨P,(by rw [v,hm]),kD E,(by rw [hz];rfl)⟩);done|apply wZ;rfl|show Cn _;constructor|(apply apV pk (f:=Ln.cells) g 56;(iterate 9 rfl);(assumption);(omega);exact λ_=>rfl;exact λ_=>rfl;exact Q;(omega);(omega);rfl;intro P E)|apply ayX pk i i;(iterate 4 rfl);rotate_left;rfl;(intro _;exact aL rfl rfl);(intro _;exact aX);(intro _;omega);(intro _;omega);rfl|omega|(intro h;simp at h))
 have T:i<n:=by omega
 have s:(xs.map Ln.cells).length=n:=(zql _).trans hn;have x:∀r∈xs.map Ln.cells,r.all PV.one=true:=λr q=>by obtain ⟨a,_,rfl⟩:=List.mem_map.1 q;rfl
 have y:∀r∈xs.map Ln.cells,r.length=3:=λr q=>by obtain ⟨a,_,rfl⟩:=List.mem_map.1 q;rfl
 have B:∀r∈g.map Ln.cells,r.all PV.one=true:=λr q=>by obtain ⟨a,_,rfl⟩:=List.mem_map.1 q;rfl
 have p:∀r∈g.map Ln.cells,r.length=3:=λr q=>by obtain ⟨a,_,rfl⟩:=List.mem_map.1 q;rfl
 have hj:∀k,(xs.map Ln.cells++aS k 3).length=n+k:=λk=>by rw [zla,s];unfold aS;rw [List.length_replicate]
 generalize R:xs.map Ln.cells=X at*;generalize S:g.map Ln.cells=Y at*;have I:Y≠[]:=λe=>by rw [e] at t;simp at t;omega
 obtain ⟨Z,W,yr,H⟩:∃c cs G,Y=(c::cs)::G:=by
  cases A:Y with
  |nil=>exact absurd A I
  |cons a b=>
   cases ha:a with
   |nil=>have:=p a (by rw [A];simp);rw [ha] at this;cases this
   |cons c cs=>exact ⟨c,cs,b,rfl⟩
 refine vA 0 m (id:=id) (rows:=X) rfl N rU s (by omega) (by omega) (λk o hk d=> ?_) (λo d=> ?_)
 ·have d:st o=none:=d
  have O:(X++aS k 3).take i=X.take i:=List.take_append_of_le_length (by omega);have L:(X.take i++aS (n+m-i) 3).length=n+m:=by rw [zla,zlt];unfold aS;rw [List.length_replicate];omega
  have K:(aQ (X.take i++aS (n+m-i) 3) i Y).length=n+m:=by rw [dK (by omega),L]
  have u:aQ (aQ (X.take i++aS (n+m-i) 3) i Y) (i+m) (X.drop i)=(eC xs i g).map Ln.cells:=by rw [F];rw [<-s];exact vK t (by omega)
  (repeat' first|(refine Cn.any ⟨_,_,upd (upd st id none) id2 (some (.arr 106 ((eC xs i g).map Ln.cells))),rfl,zwr _,oM (by rw [u]) d,id2,(by rw [v];congr 1;omega),mO l,rfl⟩)|apply wD pk [8] [];kernel_rfl;rfl;rfl|apply wZ;rfl|show Cn _;constructor|(refine amN pk (rows:=X++aS k 3) rfl rfl rfl rfl (.inr (aA _ _ _)) (by rw [hj];omega) rfl (λc C D=> ?_);have J:=D (aA _ _ _);rw [hj] at J)|apply aaE pk (j:=i) (rows:=X++aS k 3);(iterate 4 rfl);rotate_left;rfl;rfl;exact .inr (aA _ _ _);(rw [hj];omega);exact aL rfl rfl;(rw [hj];omega)|(refine apZ pk (kq:= .i64) (kn:= .i64) (i:=i) (m:=n+m-i) (sz:=3) (rows:=X++aS k 3) 56 rfl (congrArg (λz=>some (PV.val (.int .i64 z))) (show _=((n+m-i:Nat):Int) from by omega)) rfl (by kernel_rfl) rfl rfl rfl rfl (aA _ _ _) (by rw [hj];omega) (by rw [hj];omega) (by rw [hj];omega) Q (by omega) (by omega) (by omega) rfl (λid2 l=> ?_);rw [O];have V:o≠id2:=(λe=>by rw [<-e] at l;have l:=(aA _ _ _).symm.trans l;cases l))|apply eK pk (i) (n+m-i);(iterate 4 rfl);rotate_left;rfl;(intro _;exact ⟨_,aL rfl rfl,by omega⟩);(intro _;exact ⟨_,aX,by omega⟩);(intro _;omega);(intro _;omega);rfl|apply eK pk (i+m) (n-i);(iterate 4 rfl);rotate_left;rfl;(intro _;exact ⟨_,aL rfl (show _=((i+m:Nat):Int) from by omega),by omega⟩);(intro _;exact ⟨_,aX,by omega⟩);(intro _;omega);(intro _;omega);rfl|apply eK pk (i) (n-i);(iterate 4 rfl);rotate_left;rfl;(intro _;exact ⟨_,aL rfl rfl,by omega⟩);(intro _;exact ⟨_,aX,by omega⟩);(intro _;omega);(intro _;omega);rfl|(refine kO pk (e:=106) (sz:=3) (rows:=X.take i++aS (n+m-i) 3) (new:=Y) (m:=Y.length) (n:=Y.length) (len:=n+m-i) rfl rfl rfl rfl rfl (aA _ _ _) (by omega) (rK aW rfl rfl rfl p B) rfl p (by omega) (by omega) rfl ?_)|(refine kO pk (e:=106) (sz:=3) (rows:=aQ (X.take i++aS (n+m-i) 3) i Y) (new:=X.drop i) (m:=n-i) (n:=n-i) (len:=n-i) rfl rfl rfl rfl rfl (aA _ _ _) (by omega) (mN (k:=k) rfl (.inr ((aB ‹_›).trans ((aB ‹_›).trans (aA _ _ _)))) s (by omega) rU x (by omega) (by omega)) (by rw [zld];omega) (λr q=>y r (List.mem_of_mem_drop q)) (by omega) (by omega) rfl ?_)|omega|(intro h;simp at h)|intro h)
 ·have d:st o=none:=d
  have K:(aQ (X++aS m 3) (i+m) (X.drop i)).length=n+m:=by rw [dK (by rw [zld,hj];omega),hj]
  have u:aQ (aQ (X++aS m 3) (i+m) (X.drop i)) i Y=(eC xs i g).map Ln.cells:=by rw [F];exact wK t (by omega)
  (repeat' first|(refine Cn.any ⟨_,_,upd (upd st id none) o (some (.arr 106 ((eC xs i g).map Ln.cells))),rfl,zwr _,oL (by rw [u]),o,(by rw [v]),kD d,rfl⟩)|apply wD pk [8] [];kernel_rfl;rfl;rfl|apply wZ;rfl|show Cn _;constructor|apply eK pk (i) (n-i);(iterate 4 rfl);rotate_left;rfl;(intro _;exact ⟨_,aL rfl rfl,by omega⟩);(intro _;exact ⟨_,aX,by omega⟩);(intro _;omega);(intro _;omega);rfl|apply eK pk (i) (n+m-i);(iterate 4 rfl);rotate_left;rfl;(intro _;exact ⟨_,aL rfl rfl,by omega⟩);(intro _;exact ⟨_,aX,by omega⟩);(intro _;omega);(intro _;omega);rfl|apply eK pk (i+m) (n-i);(iterate 4 rfl);rotate_left;rfl;(intro _;exact ⟨_,aL rfl (show _=((i+m:Nat):Int) from by omega),by omega⟩);(intro _;exact ⟨_,aX,by omega⟩);(intro _;omega);(intro _;omega);rfl|(refine amN pk (rows:=X++aS m 3) rfl rfl rfl rfl (.inl (aA _ _ _)) (by rw [hj];omega) rfl (λc C D=> ?_);rw [hj] at C)|apply aaE pk (j:=n+m) (rows:=X++aS m 3);(iterate 4 rfl);rotate_left;rfl;rfl;exact .inl (aA _ _ _);(rw [hj];omega);exact aL rfl (show _=((n+m:Nat):Int) from by omega);(rw [hj];omega)|(refine ovA pk (w:=true) (tS:=99) (tR:=4) (off:=i+m) (len:=n-i) (e:=106) (sz:=3) (rows:=X++aS m 3) rfl rfl Tryz.func129 (by kernel_rfl) (by kernel_rfl) (by kernel_rfl) (by kernel_rfl) rfl rfl rfl H rfl (.inl (aA _ _ _)) (by rw [hj];omega) rU (by omega) ?_ rfl rfl ?_;rotate_left)|(refine kO pk (e:=106) (sz:=3) (rows:=X++aS m 3) (new:=X.drop i) (m:=n+m-i) (n:=n-i) (len:=n-i) rfl rfl rfl rfl rfl (aA _ _ _) (by rw [hj];omega) (mN (k:=m) rfl (.inl (aA _ _ _)) s (by omega) rU x (by omega) (by omega)) (by rw [zld];omega) (λr q=>y r (List.mem_of_mem_drop q)) (by omega) (by omega) rfl ?_)|(refine kO pk (e:=106) (sz:=3) (rows:=aQ (X++aS m 3) (i+m) (X.drop i)) (new:=Y) (m:=Y.length) (n:=Y.length) (len:=n+m-i) rfl rfl rfl rfl rfl (aA _ _ _) (by omega) (rK aW rfl rfl rfl p B) rfl p (by omega) (by omega) rfl ?_)|omega|(intro h;simp at h)|intro h)
abbrev Bs :=List Da
def bsC (b:Bs):List PV:=[.seq (b.map Da.cells)]
def okT (b:Bs) (k:Int):Bool:=decide (0<=k)&&decide (k<b.length)
def aF (b:Bs) (k:Int):List Ln:=if okT b k then (b[k.toNat]!).lines else []
theorem ayD (b:Bs) (k:Int) (h:okT b k=false):PF Tryz.prog 69 [.agg (bsC b),(vi (k))] (.tup [.agg [.seq [], .seq [],(vi (0))],(vb (false))]):=by
 unfold okT at h;simp only [Bool.and_eq_false_iff,decide_eq_false_iff_not] at h;refine pF Tryz.func69 rfl (λst=> ?_)
 (repeat' first|show Cn (.e _ _ _ _);refine .any ?_;((refine ⟨_,_,_,rfl,zwf _,zsr _, ?_,rfl⟩;(rfl)))|apply wZ;rfl|show Cn _;constructor|intro h;simp at h;omega|(intro h;simp at h))
theorem aeH (b:Bs) (k:Nat) (h:k<b.length):PF Tryz.prog 69 [.agg (bsC b),(vi ((k:Nat)))] (.tup [.agg [.seq (b[k].lines.map Ln.cells), .seq (b.map Da.cells),(vi ((k:Nat)))],(vb (true))]):=by
 refine pF Tryz.func69 rfl (λst=> ?_)
 (repeat' first|apply wZ;rfl|show Cn _;constructor|exact rfl|apply KR.mk;kernel_rfl|apply wI;rfl|apply gE;omega|simp only [zql];omega|(intro h;simp at h))
theorem aDr (x:Ln) (k:Int):PF Tryz.prog 127 [.agg x.cells, .rp [(vi (k))]] (vb (decide (x.key=k))):=by
 refine pF Tryz.func127 rfl (λst=> ?_)
 (repeat' first|apply wZ;rfl|show Cn _;constructor|exact rfl)
theorem aFo (x:Ln) (k:Int):PF Tryz.prog 128 [.agg x.cells, .rp [(vi (k))]] (vb (decide (x.key>k))):=by
 refine pF Tryz.func128 rfl (λst=> ?_)
 (repeat' first|apply wZ;rfl|show Cn _;constructor|exact rfl)
def atP (l:List Ln) (k:Int):Int×Bool:=
 if cX (λx=>decide (x.key=k)) l>=0 then (cX (λx=>decide (x.key=k)) l,true)
 else if cX (λx=>decide (x.key>k)) l>=0 then (cX (λx=>decide (x.key>k)) l,false) else (l.length,false)
theorem alE (l:List Ln) (k:Int) (hl:l.length<1000000000000):PF Tryz.prog 72 [.seq (l.map Ln.cells),(vi (k))] (.tup [(vi ((atP l k).1)),(vb ((atP l k).2))]):=by
 have a:=ahS 127 [.rp [(vi (k))]] (λx=>decide (x.key=k)) l (by omega) λx=>aDr x k;have b:=ahS 128 [.rp [(vi (k))]] (λx=>decide (x.key>k)) l (by omega) λx=>aFo x k;unfold atP;generalize cX (λx=>decide (x.key=k)) l=A at*;generalize cX (λx=>decide (x.key>k)) l=B at*;refine pF Tryz.func72 rfl (λst=> ?_)
 (repeat' first|apply wZ;rfl|show Cn _;constructor|exact rfl|((first|apply a|apply b))|show (_:PV)=_;(first|rw [zp (by omega)];done|rw [zn (by omega),zp (by omega)];done|rw [zn (by omega),zn (by omega)];simp);done|apply bB 3;rfl;rfl|apply wY;rfl|(intro h;simp at h))
theorem aAI {st:aD} {id:Nat} {o:Option AObj} {a b:AObj} (h:b=a):StSub (upd st id (some a)) (upd (upd st id o) id (some b)):=λj=>by
 subst h
 right
 by_cases e:j=id
 ·subst e;rw [aA,aA]
 ·simp only [aB e]
theorem aFD (b:Bs) (a c:List Ln) (k:Nat) (st:aD) (hk:k<b.length) (hl:b.length<100000000000):PC Tryz.prog 74 [.agg [.seq (c.map Ln.cells), .seq (b.map Da.cells),(vi ((k:Nat)))], .seq (a.map Ln.cells)] st λr S=>∃id,r= .agg [.vec id 1 0 b.length]/\st id=none/\S=upd st id (some (.arr 101 ((b.set k ⟨a⟩).map Da.cells))):=by
 refine pC Tryz.func74 rfl ?_
 (repeat' first|refine Cn.any ⟨_,_,upd st id (some (.arr 101 ((b.set k ⟨a⟩).map Da.cells))),rfl,zwr _, ?_,id,rfl,hid,rfl⟩;exact aAI (by simp)|(apply cP;rfl;(apply (aBY b _ (by omega)));rintro _ st' (⟨id,rfl,hid,rfl⟩))|apply wZ;rfl|show Cn _;constructor|apply ixA pk;(iterate 5 rfl);rotate_left;rfl;(intro hw;(exact (show _=((k:Nat):Int) from by omega)));(intro hw;(omega));rfl;(exact Nat.zero_add _)|apply stA pk Da.elem;rfl;rfl;rfl;(exact aA _ _ _);(omega);rfl|apply wY;rfl)
theorem aAD (b:Bs) (a c:List Ln) (k:Nat) (hk:k<b.length) (hl:b.length<100000000000):PF Tryz.prog 74 [.agg [.seq (c.map Ln.cells), .seq (b.map Da.cells),(vi ((k:Nat)))], .seq (a.map Ln.cells)] (.agg (bsC (b.set k ⟨a⟩))):=λst=>
 fB (sz:=1) (aFD b a c k st hk hl) λp st' h=>by
  obtain ⟨id,rfl,d,rfl⟩:=h
  refine .inl ⟨id,101,(b.set k ⟨a⟩).map Da.cells,_,st,aA _ _ _,ajY, .agg (.cons ?_ .nil),bT d,rfl,rfl⟩
  have e:((b.set k ⟨a⟩).map Da.cells).length=b.length:=by simp
  rw [<-e];exact .all
theorem aCm (b:Bs) (a d:List Ln) (k id n:Nat) (st:aD) (c:st id=some (.arr 106 (a.map Ln.cells))) (hn:a.length=n) (hk:k<b.length) (hl:b.length<100000000000):PC Tryz.prog 74 [.agg [.seq (d.map Ln.cells), .seq (b.map Da.cells),(vi ((k:Nat)))], .vec id 3 0 n] st λr S=>r= .agg (bsC (b.set k ⟨a⟩))/\S=upd st id none:=
 PC.freeze2 c rU ((zql _).trans hn) (aAD b a d k hk hl _)
theorem acV {α:Type} (f:α->Bool) (l:List α):(∃j:Nat,j<l.length/\cX f l=j)\/cX f l= -1:=by
 unfold cX;cases h:l.findIdx? f with
 |none=>exact .inr rfl
 |some j=>exact .inl ⟨j,(List.findIdx?_eq_some_iff_getElem.1 h).1,rfl⟩
theorem amH (l:List Ln) (k:Int):∃j:Nat,j<=l.length/\(atP l k).1=j/\((atP l k).2=true->j<l.length):=by
 unfold atP;rcases acV (λx:Ln=>decide (x.key=k)) l with ⟨j,hj,e⟩|e
 ·rw [zp (by omega)];exact ⟨j,by omega,e,λ_=>hj⟩
 ·rw [zn (by omega)]
  rcases acV (λx:Ln=>decide (x.key>k)) l with ⟨j,hj,e⟩|e
  ·rw [zp (by omega)];exact ⟨j,by omega,e,λh=>by cases h⟩
  ·rw [zn (by omega)];exact ⟨l.length,Nat.le_refl _,rfl,λh=>by cases h⟩
def qI (l:List Ln) (a:Ln):List Ln:=if (atP l a.key).2 then l.set (atP l a.key).1.toNat a else eC l (atP l a.key).1.toNat [a]
def vF (b:Bs) (k:Int) (a:Ln):Bs:=if okT b k then b.set k.toNat ⟨qI (aF b k) a⟩ else b
theorem acA (b:Bs) (k:Int) (a:Ln) (hl:b.length<100000000000) (e:∀d∈b,d.lines.length<100000000000):PF Tryz.prog 40 [.agg (bsC b),(vi (k)), .agg a.cells] (.agg (bsC (vF b k a))):=by
 unfold vF;cases c:okT b k with
 |false=>
  have ho:=ayD b k c;rw [zn (by simp)];refine pF Tryz.func40 rfl (λst=> ?_)
  (repeat' first|apply wZ;rfl|show Cn _;constructor|exact rfl|(apply ho)|apply wY;rfl)
 |true=>
  obtain ⟨q,rfl,hq⟩:∃q:Nat,k=q/\q<b.length:=by
   unfold okT at c;simp only [zba,zde] at c;exact ⟨k.toNat,by omega,by omega⟩
  have ho:=aeH b q hq;have m:=e b[q] (zgm hq);have f:aF b q=b[q].lines:=by unfold aF;rw [zp c];simp [hq]
  rw [zp rfl,f,Int.toNat_natCast];generalize i:b[q].lines=L at*;have ha:=alE L a.key (by omega);obtain ⟨j,hj,g,h⟩:=amH L a.key;unfold qI;rw [g] at ha⊢;rw [Int.toNat_natCast];cases hf:(atP L a.key).2 with
  |true=>
   have l:=h hf;rw [hf] at ha;rw [zp rfl];refine pF Tryz.func40 rfl (λst=> ?_)
   (repeat' first|exact Cn.any ⟨_,_,st,rfl,zwr _,aR (aR (aR (zsr _) hid) hid) hid,(by rw [show (L.toArray.setIfInBounds j a).toList=L.set j a from by simp];rfl),rfl⟩|(apply Cn.cf;focus (((first|apply ho|apply ha));done))|(apply cP;rfl;(apply (ahV L _ (by omega)));rintro _ st' (⟨id,rfl,hid,rfl⟩))|(apply cP;rfl;((apply (aCm b ((L.toArray.setIfInBounds j a).toList) L q id L.length _ (aA _ _ _) (by simp) hq hl)));(rintro _ st' ⟨rfl,rfl⟩))|apply wZ;rfl|show Cn _;constructor|apply ixA pk;(iterate 5 rfl);rotate_left;rfl;(intro hw;(exact (show _=((j:Nat):Int) from by omega)));(intro hw;(omega));rfl;(exact Nat.zero_add _)|apply stA pk Ln.elem;rfl;rfl;rfl;(exact aA _ _ _);(omega);rfl|apply wY;rfl)
  |false=>
   rw [hf] at ha;rw [zn (by simp)];refine pF Tryz.func40 rfl (λst=> ?_)
   (repeat' first|exact Cn.any ⟨_,_,st,rfl,zwr _,aR (aR (aR (aR (zsr _) hid) hid) (iL hid hid2)) (iL hid hid2),rfl,rfl⟩|(apply Cn.cf;focus (((first|apply ho|apply ha));done))|(apply cP;rfl;(apply (ahV L _ (by omega)));rintro _ st' (⟨id,rfl,hid,rfl⟩))|(apply cP;rfl;(apply (aC7 L [a] j id L.length _ (aA _ _ _) rfl hj (by simp) (by simp;omega)));rintro _ st' (⟨id2,rfl,hid2,rfl⟩))|(apply cP;rfl;((apply (aCm b (eC L j [a]) L q id2 (eC L j [a]).length _ (aA _ _ _) rfl hq hl)));(rintro _ st' ⟨rfl,rfl⟩))|apply wZ;rfl|show Cn _;constructor|apply wY;rfl)
theorem aIo (k:Int):atP [] k=(0,false):=rfl
theorem afF (b:Bs) (k:Int):PF Tryz.prog 93 [.agg (bsC b),(vi (k))] (.seq ((aF b k).map Ln.cells)):=by
 cases a:okT b k with
 |false=>
  have e:aF b k=[]:=by unfold aF;rw [a];rfl
  rw [e];unfold okT at a;simp only [Bool.and_eq_false_iff,decide_eq_false_iff_not] at a;refine pF Tryz.func93 rfl (λst=> ?_)
  (repeat' first|(show Cn (.e _ _ _ _);refine .any ?_;(first|(refine ⟨_,_,_,rfl,zwr _,zsr _, ?_,rfl⟩;(first|rfl))|(refine ⟨_,_,_,rfl,zwr _,bK ‹_›, ?_,rfl⟩;(first|rfl))|(refine ⟨_,_,_,rfl,zwf _,zsr _, ?_,rfl⟩;(first|rfl))|(refine ⟨_,_,_,rfl,zwf _,bK ‹_›, ?_,rfl⟩;(first|rfl))|(refine ⟨_,_,_,rfl,zwr _,zsr _, ?_,rfl⟩)|(refine ⟨_,_,_,rfl,zwf _,bK ‹_›, ?_,rfl⟩)))|(show Cn (.r _ _ _);refine .any ?_;(first|(refine ⟨_,_,_,rfl,zwr _,zsr _, ?_,rfl⟩;(first|rfl))|(refine ⟨_,_,_,rfl,zwr _,bK ‹_›, ?_,rfl⟩;(first|rfl))|(refine ⟨_,_,_,rfl,zwf _,zsr _, ?_,rfl⟩;(first|rfl))|(refine ⟨_,_,_,rfl,zwf _,bK ‹_›, ?_,rfl⟩;(first|rfl))|(refine ⟨_,_,_,rfl,zwr _,zsr _, ?_,rfl⟩)|(refine ⟨_,_,_,rfl,zwf _,bK ‹_›, ?_,rfl⟩)))|apply wZ;rfl|show Cn _;constructor|exact rfl|apply KR.mk;kernel_rfl|omega|intros;omega|simp only [zql];omega|intros;simp only [zql];omega|intros;simp only;omega|intro h;omega|intro h;simp at h;done|intro h;simp at h;omega|(intro h;simp at h)|intro h)
 |true=>
  obtain ⟨q,rfl,hq⟩:∃q:Nat,k=q/\q<b.length:=by
   unfold okT at a;simp only [zba,zde] at a;exact ⟨k.toNat,by omega,by omega⟩
  have c:aF b q=b[q].lines:=by unfold aF;rw [zp a];simp [hq]
  rw [c];refine pF Tryz.func93 rfl (λst=> ?_)
  (repeat' first|(show Cn (.r _ _ _);refine .any ⟨_,_,_,rfl,zwr _,zsr _, ?_,rfl⟩;try rfl)|apply wZ;rfl|show Cn _;constructor|exact rfl|apply KR.mk;kernel_rfl|apply wI;rfl|apply gE;omega|apply gE;show 0<_;omega|apply gE;show 1<_;omega|omega|intros;omega|simp only [zql];omega|intros;simp only [zql];omega|intros;simp only;omega|intro h;omega|intro h;simp at h;done|intro h;simp at h;omega|(intro h;simp at h)|intro h)
def oC (c:Cl):Bool:=decide (c.parts.length<=40)&&decide (c.val.s.size<=400)
def gF (a:Ln):Bool:=a.cells_.all oC&&(decide (a.cells_.length<=20)&&decide (a.by_.length<=60))
theorem afQ (a:Ln) (hl:a.cells_.length<4611686018427387904):PF Tryz.prog 38 [.agg a.cells] (vb (gF a)):=by
 refine pF Tryz.func38 rfl (λst=> ?_)
 (repeat' first|apply wZ;rfl|show Cn _;constructor)
 refine aC (X:={x:Nat//x<=a.cells_.length/\∀j (h:j<x) (b:j<a.cells_.length),oC a.cells_[j]=true}) (λi=>(((St.nil 40 st).var 1 106 (a.cells)).pv 3 ((vi ((i.1:Nat)))))) (λi=>a.cells_.length-i.1) ⟨0,by omega,λ_ h=>absurd h (Nat.not_lt_zero _)⟩ ?_ (λi=> ?_)
 ·(repeat' first|show Cn _;constructor|exact rfl)
 obtain ⟨i,hi,f⟩:=i;dsimp only;by_cases k:a.cells_.length<=i
 ·have e:a.cells_.all oC=true:=zal.2 λc hc=>by
   obtain ⟨j,hj,rfl⟩:=zgo hc;exact f j (by omega) hj
  unfold gF;rw [e,Bool.true_and];have l:(decide (((a.cells_.map Cl.cells).length:Int)<=20)&&decide (((a.by_.map Dt.cells).length:Int)<=60))=(decide (a.cells_.length<=20)&&decide (a.by_.length<=60)):=by
   rw [Bool.eq_iff_iff];simp only [zba,zde,zql];omega
  (repeat' first|apply wZ;rfl|show Cn _;constructor|exact rfl|show (_:PV)=_;(rw [l]);done|simp only [zql];omega|(intro h;simp at h))
 have b:i<a.cells_.length:=by omega
 have d:oC a.cells_[i]=false->gF a=false:=λh=>by
  unfold gF
  have:a.cells_.all oC=false:=by
   rw [<-Bool.not_eq_true,zal];intro q;rw [q _ (zgm b)] at h;cases h
  rw [this];rfl
 have g:oC a.cells_[i]=true->∀j (h:j<i+1) (b:j<a.cells_.length),oC a.cells_[j]=true:=λh j hj b=>by
  rcases zls.1 hj with q|q
  ·exact f j q b
  ·subst q;exact h
 unfold oC at d g
 (repeat' first|(refine ⟨⟨i+1,by omega,g (by simp;omega)⟩, ?_, ?_⟩)|apply wZ;rfl|show Cn _;constructor|exact rfl|show (_:PV)=_;(rw [d (by simp;omega)]);done|apply wI;rfl|apply gE;omega|omega|simp only [zql];omega|(intro h;simp at h))
def bZ (l:List Ln) (k:Int):Option Ln:=l.find? λx=>decide (x.key=k)
def aJI :Option Ln->PV
 |some x=> .tup [.agg x.cells,(vb (true))]
 |none=> .tup [.agg Ln.zero.cells,(vb (false))]
theorem ayJ {α:Type} {f:α->Bool} {l:List α} {i:Nat} (h:i<l.length) (hf:f l[i]=true) (hn:∀j (h:j<i) (h2:j<l.length),f l[j]=false):l.find? f=some l[i]:=
 List.find?_eq_some_iff_getElem.2 ⟨hf,i,h,rfl,λj hj=>by rw [hn j hj (by omega)];rfl⟩
theorem atS (l:List Ln) (k:Int):(∃j:Nat,∃h:j<l.length,atP l k=(((j:Nat):Int),true)/\bZ l k=some l[j])\/((atP l k).2=false/\bZ l k=none):=by
 unfold atP bZ;cases h:l.findIdx? λx:Ln=>decide (x.key=k) with
 |some j=>
  left;obtain ⟨hj,hf,hn⟩:=List.findIdx?_eq_some_iff_getElem.1 h;refine ⟨j,hj, ?_,ayJ hj hf λq hq a=>by simpa using hn q hq⟩;have e:cX (λx:Ln=>decide (x.key=k)) l=j:=by unfold cX;rw [h]
  rw [e,zp (by omega)]
 |none=>
  right;have e:cX (λx:Ln=>decide (x.key=k)) l= -1:=by unfold cX;rw [h]
  rw [e,zn (by omega)];refine ⟨by split<;>rfl,List.find?_eq_none.2 λx hx=>by rw [List.findIdx?_eq_none_iff.1 h x hx];simp⟩
theorem wS (b:Bs) (k key:Int) (g:∀d∈b,d.lines.length<100000000000):PF Tryz.prog 55 [.agg (bsC b),(vi (k)),(vi (key))] (aJI (bZ (aF b k) key)):=by
 cases a:okT b k with
 |false=>
  have ho:=ayD b k a;have ha:=alE [] key (by simp);rw [aIo] at ha;have e:aF b k=[]:=by unfold aF;rw [a];rfl
  rw [e,show bZ [] key=none from rfl];refine pF Tryz.func55 rfl (λst=> ?_)
  (repeat' first|show Cn (.e _ _ _ _);refine .any ?_;((refine ⟨_,_,_,rfl,zwf _,zsr _, ?_,rfl⟩;(rfl)))|apply wZ;rfl|show Cn _;constructor|((first|apply ho|apply ha))|apply wY;rfl)
 |true=>
  obtain ⟨q,rfl,hq⟩:∃q:Nat,k=q/\q<b.length:=by
   unfold okT at a;simp only [zba,zde] at a;exact ⟨k.toNat,by omega,by omega⟩
  have ho:=aeH b q hq;have l:=g b[q] (zgm hq);have h:aF b q=b[q].lines:=by unfold aF;rw [zp a];simp [hq]
  rw [h];generalize i:b[q].lines=L at*;have ha:=alE L key (by omega);rcases atS L key with ⟨j,hj,c,f⟩|⟨c,f⟩
  ·rw [c] at ha
   rw [f];refine pF Tryz.func55 rfl (λst=> ?_)
   (repeat' first|apply wZ;rfl|show Cn _;constructor|exact rfl|((first|apply ho|apply ha))|apply wY;rfl|apply wI;rfl|apply gE;omega)
  ·rw [c] at ha
   rw [f];refine pF Tryz.func55 rfl (λst=> ?_)
   (repeat' first|show Cn (.e _ _ _ _);refine .any ?_;((refine ⟨_,_,_,rfl,zwf _,zsr _, ?_,rfl⟩;(rfl)))|apply wZ;rfl|show Cn _;constructor|((first|apply ho|apply ha))|apply wY;rfl)
end
section
attribute [local irreducible] Ev PWp
set_option maxRecDepth 10000
set_option maxHeartbeats 4000000
def agI (f:Nat->Bool) (n:Nat):Bool:=(List.range n).all f
theorem abJ {f:Nat->Bool} {n k:Nat} (h:k<n) (hf:f k=false):agI f n=false:=by
 unfold agI;rw [<-Bool.not_eq_true,zal];exact λq=>by rw [q k (List.mem_range.2 h)] at hf;cases hf
theorem qV {f:Nat->Bool} {n:Nat} (hf:∀k<n,f k=true):agI f n=true:=by
 unfold agI;rw [zal];exact λk h=>hf k (List.mem_range.1 h)
theorem nM {f:Nat->Bool} {n:Nat}:agI f n=true↔∀k<n,f k=true:=by
 unfold agI;rw [zal];exact ⟨λh k hk=>h k (List.mem_range.2 hk),λh k hk=>h k (List.mem_range.1 hk)⟩
theorem aG1 {f:Nat->Bool} {i:Nat} (a:∀j<i,f j=true) (h:f i=true):∀j<i+1,f j=true:=λj hj=>by
 rcases zls.1 hj with q|q
 ·exact a j q
 ·subst q;exact h
theorem pX {f:Nat->Bool} {i:Nat} {p:Prop} (a:∀j<i,f j=true) (e:f i=true↔p) (h:p):∀j<i+1,f j=true:=aG1 a (e.2 h)
theorem aaJ {f:Nat->Bool} {i:Nat} {p R:Prop} (h:f i=false->R) (e:f i=true↔p) (hp:¬p):R:=h (by rw [<-Bool.not_eq_true];exact λq=>hp (e.1 q))
theorem aDM {α β:Type} [Inhabited α] {f:α->β} {l:List α} {i:Nat} (h:i<l.length):(l.map f)[i]?=some (f l[i]!):=by
 rw [getElem!_pos l i h,List.getElem?_map,zgg h];rfl
variable (tx:Cl->Int)
def aGA (c:Cl):Prop:=c.parts.length<1000000000000/\(c.kind=4->PF Tryz.prog 150 [.agg c.cells] (vi (tx c)))
def iO (c:Cl):Bool:=if c.kind=0 then cB c.val&&decide (c.parts.length=0) else if c.kind=1 then iW c else if c.kind=2 then decide (bU c=0) else if c.kind=3 then gP c else if c.kind=4 then decide (tx c=0) else false
theorem aAB (c:Cl) (h:aGA tx c):PF Tryz.prog 76 [.agg c.cells] (vb (iO tx c)):=by
 obtain ⟨hl,ht⟩:=h;have a:=anO c (by omega);have d:=amP c (by omega);have hv:=jY c.val;have b:=mL c;unfold iO;generalize cB c.val=A at*;generalize iW c=B at*;generalize bU c=C at*;generalize gP c=D at*;generalize tx c=E at*;refine pF Tryz.func76 rfl (λst=> ?_)
 (repeat' first|apply wZ;rfl|show Cn _;constructor|exact rfl|((first|apply hv|apply a|apply b|apply d|apply (ht ‹_›)))|show (_:PV)=_;(simp [*];done);done|apply wY;rfl|intro h)
def uM (l:List Dt) (k:Nat):Bool:=dT l[k]! &&(decide (k=0)||aV l[k]! l[k-1]!)
def mF (l:List Dt):Bool:=agI (uM l) l.length
def pW (t:Tb) (l:Ln) (k:Nat):Bool:=decide (l.cells_[k]!.kind=t.cols[k]!.kind)&&iO tx l.cells_[k]!
def pV (t:Tb) (l:Ln):Bool:=decide (0<=l.key/\l.key<1073741824/\l.cells_.length=t.cols.length)&&decide (l.cells_[0]!.val=⟨1,l.key,e0⟩)
def iQ (t:Tb) (l:Ln):Bool:=pV t l&&(agI (pW tx t l) l.cells_.length&&mF l.by_)
theorem akW {t:Tb} {l:Ln} (h:pV t l=false):iQ tx t l=false:=by unfold iQ;rw [h];rfl
theorem azF {t:Tb} {l:Ln} {k:Nat} (h:k<l.cells_.length) (hf:pW tx t l k=false):iQ tx t l=false:=by unfold iQ;rw [abJ h hf];simp
theorem aE0 {t:Tb} {l:Ln} {k:Nat} (h:k<l.by_.length) (hf:uM l.by_ k=false):iQ tx t l=false:=by unfold iQ mF;rw [abJ h hf];simp
theorem aDJ {t:Tb} {l:Ln} (h:pV t l=true) (hc:∀k<l.cells_.length,pW tx t l k=true) (hd:∀k<l.by_.length,uM l.by_ k=true):iQ tx t l=true:=by
 unfold iQ mF;rw [h,qV hc,qV hd];rfl
theorem aBg (t:Tb) (l:Ln) (ht:0<t.cols.length) (hl:l.cells_.length<1000000000000/\l.by_.length<1000000000000) (hp:∀c∈l.cells_,aGA tx c):PF Tryz.prog 43 [.agg t.cells, .agg l.cells] (vb (iQ tx t l)):=by
 by_cases h0:¬((0<=l.key/\l.key<1073741824)/\l.cells_.length=t.cols.length)
 ·rw [akW tx (by unfold pV;rw [decide_eq_false (λh=>h0 ⟨⟨h.1,h.2.1⟩,h.2.2⟩)];rfl)]
  refine pF Tryz.func43 rfl (λst=> ?_)
  (repeat' first|apply wZ;rfl|show Cn _;constructor|exact rfl|apply KR.mk;kernel_rfl|(apply cO pk;(iterate 6 rfl);rotate_left;rfl;(intro hw;rfl);(intro hw;apply aDM<;>first|omega|((exfalso;simp [gw] at hw;omega)));(intro _;rfl);rfl)|intro h;simp at h;omega|(intro h;simp at h))
 obtain ⟨⟨a,p⟩,q⟩:=zdn h0;have hh:¬l.cells_[0].val=⟨1,l.key,e0⟩->pV t l=false:=λh=>by unfold pV;rw [getElem!_pos l.cells_ 0 (by omega),decide_eq_false h];simp
 rw [Vl.ext_iff] at hh;have hy:l.cells_[0].val=⟨1,l.key,e0⟩->pV t l=true:=λh=>by unfold pV;rw [getElem!_pos l.cells_ 0 (by omega),decide_eq_true h,decide_eq_true ⟨a,p,q⟩];rfl
 rw [Vl.ext_iff] at hy;refine pF Tryz.func43 rfl (λst=> ?_)
 (repeat' first|apply wZ;rfl|show Cn _;constructor|exact rfl|apply KR.mk;kernel_rfl|show (_:PV)=_;((rw [akW tx (hh (by grind))];done));done|apply wI;rfl|apply gE;show 0<_;omega|(intro h;simp at h))
 have m:pV t l=true:=hy (by grind);refine aC (X:={x:Nat//x<=l.cells_.length/\∀j<x,pW tx t l j=true}) (λi=>((((((St.nil 102 st).var 2 57 (t.cells)).var 3 106 (l.cells)).pv 38 (.seq (l.cells_.map Cl.cells))).pv 39 ((vi (((l.cells_.map Cl.cells).length:Nat))))).pv 40 ((vi ((i.1:Nat)))))) (λi=>l.cells_.length-i.1) ⟨0,by omega,by omega⟩ ?_ (λi=> ?_)
 ·(repeat' first|show Cn _;constructor|exact rfl)
 obtain ⟨i,hi,n⟩:=i;dsimp only;by_cases o:l.cells_.length<=i
 ·(repeat' first|apply wZ;rfl|show Cn _;constructor|simp only [zql];omega|(intro h;simp at h))
  refine aC (X:={x:Nat//x<=l.by_.length/\∀j<x,uM l.by_ j=true}) (λy=>(((((St.nil 102 st).var 3 106 (l.cells)).pv 61 (.seq (l.by_.map Dt.cells))).pv 62 ((vi (((l.by_.map Dt.cells).length:Nat))))).pv 63 ((vi ((y.1:Nat)))))) (λy=>l.by_.length-y.1) ⟨0,by omega,by omega⟩ ?_ (λy=> ?_)
  ·(repeat' first|show Cn _;constructor|exact rfl)
  obtain ⟨y,hy,b⟩:=y;dsimp only;by_cases g:l.by_.length<=y;have e:=aDJ tx m (λk hk=>n k (by omega)) λk hk=>b k (by omega);rotate_left;have a:y<l.by_.length:=by omega
  have e:=Iff.refl (uM l.by_ y=true);by_cases h0:y=0;subst h0
  conv at e=>rhs;simp only [uM,dT,getElem!_pos l.by_ 0 a,zba,zde,decide_true,Bool.true_or,and_true]
  have f:=aaJ (aE0 tx (t:=t) a) e;have d:=pX b e;rotate_left;obtain ⟨k,rfl⟩:∃k,y=k+1:=⟨y-1,by omega⟩;have hd:=aoD l.by_[k] l.by_[k+1];have hb:=axF l.by_[k] l.by_[k+1]
  conv at e=>rhs;simp only [uM,dT,getElem!_pos l.by_ (k+1) a,show k+1-1=k from rfl,getElem!_pos l.by_ k (by omega),zba,zde,Bool.or_eq_true,h0,false_or]
  have f:=aaJ (aE0 tx (t:=t) a) e;have d:=pX b e;rotate_left
  all_goals ((repeat' first|apply iX;(intro hw;exact (show _=((0:Nat):Int) from by exact (kF hw).elim));(apply gE;omega);rfl|apply iX;(intro hw;exact (show ((((k+1:Nat):Int))-1=((k:Nat):Int)) from by omega));(apply gE;omega);rfl|(apply cW;focus (intro _;(apply (show PF Tryz.prog 77 [_,_] (vi (0)) from by rename_i hh;exact (kF hh).elim));done))|((first|refine ⟨⟨1,by omega,d (by grind)⟩, ?_,by simp only;omega⟩|refine ⟨⟨k+2,by omega,d (by grind)⟩, ?_,by simp only;omega⟩);focus ((repeat' first|show Cn _;constructor|exact rfl);done))|apply wZ;rfl|show Cn _;constructor|exact rfl|apply KR.mk;kernel_rfl|(apply hd)|show (_:PV)=_;(first|(rw [e]);done|((rw [f (by grind)];done));done);done|apply wY;rfl|apply wI;rfl|apply gE;omega|omega|simp only [zql];omega|(intro h;simp at h)))
 have a:i<l.cells_.length:=by omega
 have hc:=aAB tx l.cells_[i] (hp _ (zgm a));have e:=Iff.refl (pW tx t l i=true)
 conv at e=>rhs;simp only [pW,getElem!_pos l.cells_ i a,getElem!_pos t.cols i (show i<t.cols.length by omega),zba,zde]
 have f:=aaJ (azF tx (t:=t) a) e;have d:=pX n e
 (repeat' first|(refine ⟨⟨i+1,by omega,d (by grind)⟩, ?_, ?_⟩)|apply wZ;rfl|show Cn _;constructor|exact rfl|apply KR.mk;kernel_rfl|(apply hc)|show (_:PV)=_;(rw [f (by grind)]);done|apply wY;rfl|apply wI;rfl|apply gE;omega|omega|simp only [zql];omega|(intro h;simp at h))
end
section
attribute [local irreducible] Ev PWp
set_option maxRecDepth 10000
set_option maxHeartbeats 4000000
theorem xJ :∀{l:List Int},orI l=0->∀x∈l,x=0
 |[],_,_,h=>by cases h
 |a::l,h,x,hx=>by
  rw [orI] at h
  split at h
  ·rename_i e
   rcases zmc.1 hx with rfl|q
   ·exact e
   ·exact xJ h x q
  ·rename_i e;exact absurd h e
theorem oP {f:Nat->Int} {n:Nat} (h:dY f n=0) {k:Nat} (hk:k<n):f k=0:=
 xJ h _ (List.mem_map.2 ⟨k,List.mem_range.2 hk,rfl⟩)
theorem fS {s:Sc} (h:bS s=0) {k:Nat} (hk:k<s.length):∀x∈lks s k,x=0:=by
 unfold bS at h;split at h
 ·cases h
 ·exact xJ (oP h hk)
theorem aaO {s:Sc} (h:bS s=0) {k:Nat} (hk:k<s.length):0<s[k].cols.length:=by
 have:=fS h hk (lk1 s[k]!) (by simp [lks]);rw [getElem!_pos s k hk] at this;unfold lk1 at this;split at this
 ·cases this
 ·omega
variable (tx:Cl->Int)
def aK1 (l:Ln):Prop:=(l.cells_.length<1000000000000/\l.by_.length<1000000000000)/\∀c∈l.cells_,aGA tx c
def aJS (d:Da):Prop:=d.lines.length<1000000000000/\∀l∈d.lines,aK1 tx l
def lnR (t:Tb) (L:List Ln) (i:Nat):Bool:=iQ tx t L[i]! &&(decide (i=0)||decide (L[i-1]!.key<L[i]!.key))
def sZ (t:Tb) (L:List Ln):Bool:=decide (L.length<=2000)&&agI (lnR tx t L) L.length
def wJ (s:Sc) (b:Bs) (k:Nat):Bool:=sZ tx s[k]! b[k]!.lines
def bC (s:Sc) (b:Bs):Bool:=decide (bS s=0/\b.length=s.length)&&agI (wJ tx s b) b.length
theorem azM {s:Sc} {b:Bs} (h:¬(bS s=0/\b.length=s.length)):bC tx s b=false:=by unfold bC;rw [decide_eq_false h];rfl
theorem ayP {s:Sc} {b:Bs} {k:Nat} (h:k<b.length) (hf:wJ tx s b k=false):bC tx s b=false:=by unfold bC;rw [abJ h hf];simp
theorem anL {s:Sc} {b:Bs} (h:bS s=0/\b.length=s.length) (hf:∀k<b.length,wJ tx s b k=true):bC tx s b=true:=by unfold bC;rw [qV hf,decide_eq_true h];rfl
theorem auY (s:Sc) (b:Bs) (hl:s.length<1000000000000) (D:∀t∈s,TbB t) (hb:b.length<1000000000000) (hd:∀d∈b,aJS tx d):PF Tryz.prog 19 [.agg (scC s), .agg (bsC b)] (vb (bC tx s b)):=by
 have hs:=zK s (by omega) D;by_cases h0:¬(bS s=0/\b.length=s.length)
 ·rw [azM tx h0]
  generalize bS s=R at*;refine pF Tryz.func19 rfl (λst=> ?_)
  (repeat' first|apply wZ;rfl|show Cn _;constructor|exact rfl|(apply hs)|apply wY;rfl|intro h;simp at h;omega|(intro h;simp at h))
 replace h0:=zdn h0
 obtain ⟨n,C⟩:=h0;rw [n] at hs;refine pF Tryz.func19 rfl (λst=> ?_)
 (repeat' first|apply wZ;rfl|show Cn _;constructor|(apply hs)|apply wY;rfl|simp only [zql];omega|(intro h;simp at h))
 refine aC (X:={x:Nat//x<=b.length/\∀j<x,wJ tx s b j=true}) (λi=>(((((St.nil 67 st).var 2 24 ((scC s))).pv 22 (.seq (b.map Da.cells))).pv 23 ((vi (((b.map Da.cells).length:Nat))))).pv 24 ((vi ((i.1:Nat)))))) (λi=>b.length-i.1) ⟨0,by omega,by omega⟩ ?_ (λi=> ?_)
 ·(repeat' first|show Cn _;constructor|exact rfl)
 obtain ⟨i,hi,z⟩:=i;dsimp only;by_cases A:b.length<=i;have e:=anL tx ⟨n,C⟩ λk hk=>z k (by omega);rotate_left;have g:i<b.length:=by omega
 have m:i<s.length:=by omega
 have r:=aaO n m;obtain ⟨H,B⟩:=hd _ (zgm g);have e:=Iff.refl (wJ tx s b i=true)
 conv at e=>rhs;simp only [wJ,sZ,getElem!_pos s i m,getElem!_pos b i g,zba,zde,nM]
 have w:=aaJ (ayP tx (s:=s) g) e;have E:=pX z e;by_cases o:¬b[i].lines.length<=2000;have p:=w λq=>o q.1;rotate_left
 all_goals ((repeat' first|apply wZ;rfl|show Cn _;constructor|exact rfl|show (_:PV)=_;(first|(rw [e]);done|(rw [p]);done);done|apply wI;rfl|apply gE;omega|simp only [zql];omega|(intro h;simp at h)))
 focus ((repeat' (fail)))
 refine aC (X:={x:Nat//x<=b[i].lines.length/\∀j<x,lnR tx s[i] b[i].lines j=true}) (λy=>((((((((((St.nil 67 st).var 2 24 ((scC s))).pv 5 ((vi ((i:Nat))))).var 6 101 (b[i].cells)).pv 22 (.seq (b.map Da.cells))).pv 23 ((vi (((b.map Da.cells).length:Nat))))).pv 24 ((vi ((i:Nat))))).pv 34 (.seq (b[i].lines.map Ln.cells))).pv 35 ((vi (((b[i].lines.map Ln.cells).length:Nat))))).pv 36 ((vi ((y.1:Nat)))))) (λy=>b[i].lines.length-y.1) ⟨0,by omega,by omega⟩ ?_ (λy=> ?_)
 ·(repeat' first|show Cn _;constructor|exact rfl)
 obtain ⟨y,hy,l⟩:=y;dsimp only;by_cases u:b[i].lines.length<=y;rotate_left;have a:y<b[i].lines.length:=by omega
 obtain ⟨F,G⟩:=B _ (zgm a);have v:=aBg tx s[i] b[i].lines[y] r F G;have e:=Iff.refl (lnR tx s[i] b[i].lines y=true);have c:=λh:¬lnR tx s[i] b[i].lines y=true=>w λq=>h (q.2 y a);by_cases h0:y=0;subst h0
 conv at e=>rhs;simp only [lnR,getElem!_pos b[i].lines 0 a,decide_true,Bool.true_or,Bool.and_true]
 have f:=pX l e;rw [e] at c;rotate_left;obtain ⟨k,rfl⟩:∃k,y=k+1:=⟨y-1,by omega⟩
 conv at e=>rhs;simp only [lnR,getElem!_pos b[i].lines (k+1) a,show k+1-1=k from rfl,getElem!_pos b[i].lines k (by omega),zba,zde,Bool.or_eq_true,h0,false_or]
 have f:=pX l e;rw [e] at c;rotate_left
 all_goals ((repeat' first|apply iX;(intro hw;exact (show _=((0:Nat):Int) from by exact (kF hw).elim));(apply gE;omega);rfl|apply iX;(intro hw;exact (show ((((k+1:Nat):Int))-1=((k:Nat):Int)) from by omega));(apply gE;omega);rfl|((first|refine ⟨⟨i+1,by omega,E ⟨by omega,λk hk=>l k (by omega)⟩⟩, ?_,by simp only;omega⟩|refine ⟨⟨1,by omega,f (by grind)⟩, ?_,by simp only;omega⟩|refine ⟨⟨k+2,by omega,f (by grind)⟩, ?_,by simp only;omega⟩);focus ((repeat' first|show Cn _;constructor|exact rfl);done))|apply wZ;rfl|show Cn _;constructor|exact rfl|apply KR.mk;kernel_rfl|(apply v)|show (_:PV)=_;(rw [c (by grind)]);done|apply wY;rfl|apply wI;rfl|apply gE;omega|omega|simp only [zql];omega|(intro h;simp at h)))
end
end Go.Proofs.YtnogfoojjaainaaGreatDoor
