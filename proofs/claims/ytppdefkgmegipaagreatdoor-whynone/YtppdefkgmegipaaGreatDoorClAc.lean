import Derived.Test.YtppdefkgmegipaaGreatDoorClAb
import Derived.Test.YtppdefkgmegipaaGreatDoorAbsSort
import Derived.Test.YtppdefkgmegipaaGreatDoorAbsE
import Derived.Test.YtppdefkgmegipaaGreatDoorClAa
set_option linter.unusedSimpArgs false
set_option linter.unusedVariables false
namespace Go.Proofs.YtppdefkgmegipaaGreatDoor
open Go Go.Abs
attribute [local irreducible] Ev PWp
set_option maxRecDepth 10000
set_option maxHeartbeats 4000000
def oP (c:Co):Bool:=decide (c.kind=0)&&decide (c.type_=1)
def pA (t:Tb) (i:Int):Bool:=decide (i>=1)&&decide (i<t.cols.length)
def lR (t:Tb) (i:Int):Co:=t.cols[i.toNat]!
theorem cS (c:Co):PF Tryz.prog 161 [.agg c.cells] (vb (oP c)):=by
 refine pF Tryz.func161 rfl (λst=> ?_)
 (repeat' first|apply wZ;rfl|show Cn _;constructor|exact rfl)
theorem pQ (t:Tb) (i:Int):PF Tryz.prog 201 [.agg t.cells,(vi (i))] (vb (pA t i)):=by
 refine pF Tryz.func201 rfl (λst=> ?_)
 (repeat' first|apply wZ;rfl|show Cn _;constructor|exact rfl|show (_:PV)=_;(rw [zql];rfl);done)
def avB (pre:List Co) (c:Co):Int:=if vM c.name=false\/c.kind<0\/c.kind>4 then 1 else if (pre.any λx=>decide (x.name=c.name))=true then 5 else if (c.type_≠1/\c.type_≠2)\/(¬(c.kind=0\/c.kind=1)/\¬(c.type_=2↔c.kind=4)) then 6 else if c.null=true/\¬(c.kind=0\/c.kind=1) then 1 else 0
def apL (t:Tb) (k:Nat):Int:=avB (t.cols.take k) t.cols[k]!
theorem atK (x c:Co):PF Tryz.prog 198 [.agg x.cells, .rp c.cells] (vb (decide (x.name=c.name))):=by
 refine pF Tryz.func198 rfl (λst=> ?_)
 (repeat' first|apply wZ;rfl|show Cn _;constructor|exact rfl)
theorem aAk (t:Tb) (k:Nat) (hl:t.cols.length<200000000000000) (hk:k<t.cols.length):PF Tryz.prog 197 [(vi ((k:Nat))), .rp t.cells] (vi (apL t k)):=by
 have hn:=zK t.cols[k].name
 have hc:=aoO 198 [.rp t.cols[k].cells] (λx=>decide (x.name=t.cols[k].name)) (t.cols.take k) (by rw [zlt];omega) λp=>atK p _
 have e:apL t k=avB (t.cols.take k) t.cols[k]:=by unfold apL;rw [getElem!_pos t.cols k hk]
 rw [e]
 unfold avB
 generalize vM t.cols[k].name=N at*
 generalize ((t.cols.take k).any λx=>decide (x.name=t.cols[k].name))=A at*
 have hE:(((t.cols.drop 0).take (k-0)).map Co.cells)=(t.cols.take k).map Co.cells:=by simp
 refine pF Tryz.func197 rfl (λst=> ?_)
 (repeat' first|apply wZ;rfl|show Cn _;constructor|exact rfl|((first|apply hn|apply hc))|show (_:PV)=_;(congr 2;grind);done|apply aQ 4;rfl;rfl|apply slS pk (f:=Co.cells) (xs:=t.cols) 0 k;(iterate 5 rfl);rotate_left;rfl;(intro _;rfl);(intro _;exact cC);(intro _;exact bL rfl rfl);(intro _;omega);(intro _;omega);rfl;rw [hE]|apply wY;rfl|apply wI;rfl|apply gE;omega|(intro h;simp at h)|intro h)
theorem abC (t:Tb) (hl:t.cols.length<200000000000000):PF Tryz.prog 159 [.agg t.cells] (vi (dB (apL t) t.cols.length)):=by
 have e:(t.cols.map Co.cells).length=t.cols.length:=zql _
 have h:=fV 197 [.rp t.cells] (apL t) (t.cols.map Co.cells).length (by omega) λk hk _=>aAk t k hl (by omega)
 rw [<-e]
 refine pF Tryz.func159 rfl (λst=> ?_)
 (repeat' first|apply wZ;rfl|show Cn _;constructor|exact rfl|(apply h)|apply aQ 1;rfl;rfl|apply wY;rfl)
theorem uE {t:Tb} {i:Int} (h:pA t i=true):∃j:Nat,i=j/\∃h:j<t.cols.length,lR t i=t.cols[j]:=by
 unfold pA at h
 simp only [zba,zde] at h
 refine ⟨i.toNat,by omega,by omega, ?_⟩
 unfold lR
 rw [getElem!_pos t.cols i.toNat (by omega)]
def auU (h:Bool) (p:Bool) (n:Bool):Int:=if h=false then 4 else if p=true then 1 else if n=false then 6 else 0
def anD (t:Tb) (k:Nat):Int:=auU (pA t t.unique[k]!) (decide (0<k)&&decide (t.unique[k]!<=t.unique[k-1]!)) (oP (lR t t.unique[k]!))
theorem ayA (t:Tb) (k:Nat) (hl:t.cols.length<200000000000000) (hu:t.unique.length<200000000000000) (hk:k<t.unique.length):PF Tryz.prog 200 [(vi ((k:Nat))), .rp t.cells] (vi (anD t k)):=by
 have hh:=pQ t t.unique[k]
 have e:anD t k=auU (pA t t.unique[k]) (decide (0<k)&&decide (t.unique[k]<=t.unique[k-1]'(by omega))) (oP (lR t t.unique[k])):=by
  unfold anD;rw [getElem!_pos t.unique k hk,getElem!_pos t.unique (k-1) (by omega)]
 rw [e]
 unfold auU
 cases hc:pA t t.unique[k] with
 |false=>
  rw [hc] at hh
  refine pF Tryz.func200 rfl (λst=> ?_)
  (repeat' first|apply wZ;rfl|show Cn _;constructor|exact rfl|(apply hh)|apply wY;rfl|apply wI;rfl|apply gE;omega)
 |true=>
  rw [hc] at hh
  obtain ⟨j,hj,hjl,hj2⟩:=uE hc
  rw [hj2]
  have hnn:=cS t.cols[j]
  generalize oP t.cols[j]=N at*
  rcases Nat.eq_zero_or_pos k with rfl|hpos
  ·refine pF Tryz.func200 rfl (λst=> ?_)
   (repeat' first|apply iX;(intro hw;exact (by first|rfl|exact hj|exact (show _=((0:Nat):Int) from (qW hw).elim)));(apply gE;omega);rfl|apply wZ;rfl|show Cn _;constructor|exact rfl|((first|apply hh|apply hnn))|show (_:PV)=_;(congr 2;grind);done|apply wY;rfl|apply wI;rfl|omega|intro h)
  ·obtain ⟨m,rfl⟩:∃m,k=m+1:=⟨k-1,by omega⟩
   refine pF Tryz.func200 rfl (λst=> ?_)
   (repeat' first|apply iX;(intro hw;exact (by first|rfl|exact hj|exact (show ((((m+1:Nat):Int))-1=((m:Nat):Int)) from by omega)));(apply gE;omega);rfl|apply wZ;rfl|show Cn _;constructor|exact rfl|((first|apply hh|apply hnn))|show (_:PV)=_;(congr 2;grind);done|apply wY;rfl|apply wI;rfl|omega|(intro h;simp at h)|intro h)
theorem abN (t:Tb) (hl:t.cols.length<200000000000000) (hu:t.unique.length<200000000000000):PF Tryz.prog 163 [.agg t.cells] (vi (dB (anD t) t.unique.length)):=by
 have e:(t.unique.map I1).length=t.unique.length:=zql _
 have h:=fV 200 [.rp t.cells] (anD t) (t.unique.map I1).length (by omega) λk hk _=>ayA t k hl hu (by omega)
 rw [<-e]
 refine pF Tryz.func163 rfl (λst=> ?_)
 (repeat' first|apply wZ;rfl|show Cn _;constructor|exact rfl|(apply h)|apply aQ 1;rfl;rfl|apply wY;rfl)
def awT (h:Bool) (b:Bool) (p:Bool) (a:Bool) (n:Bool) (z:Bool):Int:=if h=false\/b=true then 4 else if p=true\/a=true then 1 else if n=false\/z=true then 6 else 0
def anW (m:Nat) (t:Tb) (k:Nat):Int:=awT (pA t t.foreign[k]!.col) (decide (t.foreign[k]!.table<0)||decide (t.foreign[k]!.table>=m)) (decide (0<k)&&decide (t.foreign[k]!.col<=t.foreign[k-1]!.col)) (decide (t.foreign[k]!.act<0)||decide (t.foreign[k]!.act>2)) (oP (lR t t.foreign[k]!.col)) (decide (t.foreign[k]!.act=2)&& !(lR t t.foreign[k]!.col).null)
theorem axV (s:Sc) (t:Tb) (k:Nat) (hl:t.cols.length<200000000000000) (hu:t.foreign.length<200000000000000) (hk:k<t.foreign.length):PF Tryz.prog 202 [(vi ((k:Nat))), .rp t.cells, .rp (scC s)] (vi (anW s.length t k)):=by
 have hh:=pQ t t.foreign[k].col
 have e:anW s.length t k=awT (pA t t.foreign[k].col) (decide (t.foreign[k].table<0)||decide (t.foreign[k].table>=s.length)) (decide (0<k)&&decide (t.foreign[k].col<=(t.foreign[k-1]'(by omega)).col)) (decide (t.foreign[k].act<0)||decide (t.foreign[k].act>2)) (oP (lR t t.foreign[k].col)) (decide (t.foreign[k].act=2)&& !(lR t t.foreign[k].col).null):=by
  unfold anW;rw [getElem!_pos t.foreign k hk,getElem!_pos t.foreign (k-1) (by omega)]
 rw [e]
 unfold awT
 have el:(s.map Tb.cells).length=s.length:=zql _
 rw [<-el]
 cases hc:pA t t.foreign[k].col with
 |false=>
  rw [hc] at hh
  refine pF Tryz.func202 rfl (λst=> ?_)
  (repeat' first|apply wZ;rfl|show Cn _;constructor|exact rfl|(apply hh)|apply wY;rfl|apply wI;rfl|apply gE;omega)
 |true=>
  rw [hc] at hh
  obtain ⟨j,hj,hjl,hj2⟩:=uE hc
  rw [hj2]
  have hnn:=cS t.cols[j]
  generalize oP t.cols[j]=N at*
  rcases Nat.eq_zero_or_pos k with rfl|hpos
  ·refine pF Tryz.func202 rfl (λst=> ?_)
   (repeat' first|apply iX;(intro hw;exact (by first|rfl|exact hj|exact (show _=((0:Nat):Int) from (qW hw).elim)));(apply gE;omega);rfl|apply wZ;rfl|show Cn _;constructor|exact rfl|apply KR.mk;kernel_rfl|((first|apply hh|apply hnn))|show (_:PV)=_;(congr 2;grind);done|apply wY;rfl|apply wI;rfl|omega|(intro h;simp at h))
  ·obtain ⟨m,rfl⟩:∃m,k=m+1:=⟨k-1,by omega⟩
   refine pF Tryz.func202 rfl (λst=> ?_)
   (repeat' first|apply iX;(intro hw;exact (by first|rfl|exact hj|exact (show ((((m+1:Nat):Int))-1=((m:Nat):Int)) from by omega)));(apply gE;omega);rfl|apply wZ;rfl|show Cn _;constructor|exact rfl|apply KR.mk;kernel_rfl|((first|apply hh|apply hnn))|show (_:PV)=_;(congr 2;grind);done|apply wY;rfl|apply wI;rfl|omega|(intro h;simp at h))
theorem yE (s:Sc) (t:Tb) (hl:t.cols.length<200000000000000) (hu:t.foreign.length<200000000000000):PF Tryz.prog 165 [.agg (scC s), .agg t.cells] (vi (dB (anW s.length t) t.foreign.length)):=by
 have e:(t.foreign.map Fr.cells).length=t.foreign.length:=zql _
 have h:=fV 202 [.rp t.cells, .rp (scC s)] (anW s.length t) (t.foreign.map Fr.cells).length (by omega) λk hk _=>axV s t k hl hu (by omega)
 rw [<-e]
 refine pF Tryz.func165 rfl (λst=> ?_)
 (repeat' first|apply wZ;rfl|show Cn _;constructor|exact rfl|(apply h)|apply aQ 3;rfl;rfl|apply aQ 2;rfl;rfl|apply wY;rfl)
def avY (h:Bool) (a:Bool) (n:Bool) (p:Bool):Int:=if h=false then 4 else if a=true then 1 else if n=false then 6 else if p=true then 5 else 0
def aoG (t:Tb) (k:Nat):Int:=avY (pA t t.sums[k]!.col&&pA t t.sums[k]!.by_) ((decide (t.sums[k]!.col=t.sums[k]!.by_)||decide (t.sums[k]!.max<0))||decide (t.sums[k]!.max>1099511627776)) (oP (lR t t.sums[k]!.col)&&oP (lR t t.sums[k]!.by_)) ((t.sums.take k).any λy=>decide (y.col=t.sums[k]!.col)&&decide (y.by_=t.sums[k]!.by_))
theorem arV (x c:Su):PF Tryz.prog 204 [.agg x.cells, .rp c.cells] (vb (decide (x.col=c.col)&&decide (x.by_=c.by_))):=by
 refine pF Tryz.func204 rfl (λst=> ?_)
 (repeat' first|apply wZ;rfl|show Cn _;constructor|exact rfl)
theorem axZ (t:Tb) (k:Nat) (hl:t.cols.length<200000000000000) (hu:t.sums.length<200000000000000) (hk:k<t.sums.length):PF Tryz.prog 203 [(vi ((k:Nat))), .rp t.cells] (vi (aoG t k)):=by
 have h1:=pQ t t.sums[k].col
 have h2:=pQ t t.sums[k].by_
 have hc:=amY 204 [.rp t.sums[k].cells] (λy=>decide (y.col=t.sums[k].col)&&decide (y.by_=t.sums[k].by_)) (t.sums.take k) (by rw [zlt];omega) λp=>arV p _
 have e:aoG t k=avY (pA t t.sums[k].col&&pA t t.sums[k].by_) ((decide (t.sums[k].col=t.sums[k].by_)||decide (t.sums[k].max<0))||decide (t.sums[k].max>1099511627776)) (oP (lR t t.sums[k].col)&&oP (lR t t.sums[k].by_)) ((t.sums.take k).any λy=>decide (y.col=t.sums[k].col)&&decide (y.by_=t.sums[k].by_)):=by
  unfold aoG;rw [getElem!_pos t.sums k hk]
 have hE:(((t.sums.drop 0).take (k-0)).map Su.cells)=(t.sums.take k).map Su.cells:=by simp
 rw [e]
 unfold avY
 generalize ((t.sums.take k).any λy=>decide (y.col=t.sums[k].col)&&decide (y.by_=t.sums[k].by_))=A at*
 cases c1:pA t t.sums[k].col with
 |false=>
  rw [c1] at h1
  refine pF Tryz.func203 rfl (λst=> ?_)
  (repeat' first|apply wZ;rfl|show Cn _;constructor|exact rfl|((first|apply h1|apply h2))|apply aQ 4;rfl;rfl|apply wY;rfl|apply wI;rfl|apply gE;omega)
 |true=>
 cases c2:pA t t.sums[k].by_ with
 |false=>
  rw [c1] at h1
  rw [c2] at h2
  refine pF Tryz.func203 rfl (λst=> ?_)
  (repeat' first|apply wZ;rfl|show Cn _;constructor|exact rfl|((first|apply h1|apply h2))|apply aQ 4;rfl;rfl|apply wY;rfl|apply wI;rfl|apply gE;omega)
 |true=>
  rw [c1] at h1
  rw [c2] at h2
  obtain ⟨j,hj,hjl,hj2⟩:=uE c1
  obtain ⟨i,hi,hil,hi2⟩:=uE c2
  rw [hj2,hi2]
  have hn1:=cS t.cols[j]
  have hn2:=cS t.cols[i]
  generalize oP t.cols[j]=N at*
  generalize oP t.cols[i]=M at*
  refine pF Tryz.func203 rfl (λst=> ?_)
  (repeat' first|apply iX;(intro hw;exact (by first|rfl|exact hj|exact hi));(apply gE;omega);rfl|apply wZ;rfl|show Cn _;constructor|exact rfl|((first|apply h1|apply h2|apply hn1|apply hn2|apply hc))|show (_:PV)=_;(congr 2;grind);done|apply aQ 4;rfl;rfl|apply slS pk (f:=Su.cells) (xs:=t.sums) 0 k;(iterate 5 rfl);rotate_left;rfl;(intro _;rfl);(intro _;exact cC);(intro _;exact bL rfl rfl);(intro _;omega);(intro _;omega);rfl;rw [hE]|apply wY;rfl|apply wI;rfl|(intro h;simp at h)|intro h)
theorem anG (t:Tb) (hl:t.cols.length<200000000000000) (hu:t.sums.length<200000000000000):PF Tryz.prog 167 [.agg t.cells] (vi (dB (aoG t) t.sums.length)):=by
 have e:(t.sums.map Su.cells).length=t.sums.length:=zql _
 have h:=fV 203 [.rp t.cells] (aoG t) (t.sums.map Su.cells).length (by omega) λk hk _=>axZ t k hl hu (by omega)
 rw [<-e]
 refine pF Tryz.func167 rfl (λst=> ?_)
 (repeat' first|apply wZ;rfl|show Cn _;constructor|exact rfl|(apply h)|apply aQ 1;rfl;rfl|apply wY;rfl)
theorem aoX (t:Tb) (n:ByteArray):PF Tryz.prog 195 [.agg t.cells, .rp [(vs (n))]] (vb (decide (t.name=n))):=by
 refine pF Tryz.func195 rfl (λst=> ?_)
 (repeat' first|apply wZ;rfl|show Cn _;constructor|exact rfl)
def anA (s:Sc) (n:ByteArray):Int:=bT (λt:Tb=>decide (t.name=n)) s
theorem ajK (s:Sc) (n:ByteArray) (hl:s.length<200000000000000):PF Tryz.prog 156 [.agg (scC s),(vs (n))] (.tup [(vi (max (anA s n) 0)),(vb (decide (anA s n>=0)))]):=by
 have h:=anQ 195 [.rp [(vs (n))]] (λt=>decide (t.name=n)) s (by omega) λp=>aoX p n
 change PF _ _ _ (vi (anA s n)) at h
 generalize anA s n=R at*
 refine pF Tryz.func156 rfl (λst=> ?_)
 (repeat' first|apply wZ;rfl|show Cn _;constructor|exact rfl|(apply h)|apply aQ 3;rfl;rfl|apply wY;rfl)
def aB3 (s:Sc) (k:Nat):Bool:=(s.take k).any λt=>decide (t.name=s[k]!.name)
theorem ayZ {α:Type} {f:α->Bool} {l:List α} {k:Nat} (hk:k<l.length) (hf:f l[k]=true):decide (max (bT f l) 0<k)=(l.take k).any f:=by
 unfold bT
 cases h:l.findIdx? f with
 |none=>rw [List.findIdx?_eq_none_iff.1 h _ (zgm hk)] at hf;cases hf
 |some j=>
  obtain ⟨hj,hfj,hn⟩:=List.findIdx?_eq_some_iff_getElem.1 h
  rw [Bool.eq_iff_iff,List.any_eq_true,zde]
  show max ((j:Nat):Int) 0<k↔_
  constructor
  ·intro q
   exact ⟨l[j],List.mem_take_iff_getElem.2 ⟨j,by omega,rfl⟩,hfj⟩
  ·rintro ⟨x,hx,hfx⟩
   obtain ⟨i,hi,rfl⟩:=List.mem_take_iff_getElem.1 hx
   rcases Nat.lt_or_ge i j with q|q
   ·exact absurd hfx (by simpa using hn i q)
   ·omega
def lk0 (s:Sc) (k:Nat):Int:=if vM s[k]!.name=false then 1 else if aB3 s k=true then 5 else 0
def lk1 (t:Tb):Int:=if t.cols.length<1\/t.cols.length>16\/t.checks.length>16\/t.unique.length>16\/t.foreign.length>16\/t.sums.length>16 then 2 else 0
def lk2 (t:Tb):Int:=dB (apL t) t.cols.length
def lk3 (t:Tb):Int:=if oP t.cols[0]! =false\/t.cols[0]!.null=true then 6 else 0
def lk4 (t:Tb):Int:=dB (anD t) t.unique.length
def lk5 (m:Nat) (t:Tb):Int:=dB (anW m t) t.foreign.length
def lk6 (t:Tb):Int:=dB (aoG t) t.sums.length
def lks (s:Sc) (k:Nat):List Int:=[lk0 s k,lk1 s[k]!,lk2 s[k]!,lk3 s[k]!,lk4 s[k]!,lk5 s.length s[k]!,lk6 s[k]!]
def aiR (s:Sc) (k:Nat):Int:=orI (lks s k)
def gP (s:Sc):Int:=if s.length<1\/s.length>16 then 2 else dB (aiR s) s.length
structure TbB (t:Tb):Prop where
 c:t.cols.length<200000000000000
 u:t.unique.length<200000000000000
 k:t.checks.length<200000000000000
 f:t.foreign.length<200000000000000
 s:t.sums.length<200000000000000
theorem atY (s:Sc) (k:Nat) (hl:s.length<200000000000000) (hk:k<s.length):PF Tryz.prog 154 [.agg (scC s),(vi ((k:Nat)))] (vi (lk0 s k)):=by
 have hn:=zK s[k].name
 have ht:=ajK s s[k].name hl
 have hd:=ayZ (f:=λt:Tb=>decide (t.name=s[k].name)) hk (decide_eq_true rfl)
 change decide (max (anA s s[k].name) 0<(k:Nat))=_ at hd
 have e:lk0 s k=if vM s[k].name=false then 1 else if ((s.take k).any λt=>decide (t.name=s[k].name))=true then 5 else 0:=by unfold lk0 aB3;rw [getElem!_pos s k hk]
 rw [e,<-hd]
 generalize vM s[k].name=N at*
 generalize anA s s[k].name=R at*
 refine pF Tryz.func154 rfl (λst=> ?_)
 (repeat' first|apply wZ;rfl|show Cn _;constructor|exact rfl|apply KR.mk;kernel_rfl|((first|apply hn|apply ht))|show (_:PV)=_;(congr 2;grind);done|apply wY;rfl|apply wI;rfl|apply gE;omega|(intro h;simp at h)|intro h)
theorem avL (s:Sc) (k:Nat) (hk:k<s.length) (hB:TbB s[k]):PF Tryz.prog 157 [.agg (scC s),(vi ((k:Nat)))] (vi (lk1 s[k]!)):=by
 rw [getElem!_pos s k hk]
 obtain ⟨b1,b2,b3,b4,b5⟩:=hB
 unfold lk1
 refine pF Tryz.func157 rfl (λst=> ?_)
 (repeat' first|apply wZ;rfl|show Cn _;constructor|exact rfl|show (_:PV)=_;(first|rw [zp (by omega)];done|rw [zn (by omega)];done);done|apply aDo;(iterate 6 rfl);rotate_left;rfl;rfl|apply wI;rfl|apply gE;omega|(intro h;simp at h))
theorem arM (s:Sc) (k:Nat) (hk:k<s.length) (hB:TbB s[k]):PF Tryz.prog 158 [.agg (scC s),(vi ((k:Nat)))] (vi (lk2 s[k]!)):=by
 rw [getElem!_pos s k hk]
 have h:=abC s[k] hB.c
 change PF _ _ _ (vi (lk2 s[k])) at h
 refine pF Tryz.func158 rfl (λst=> ?_)
 (repeat' first|apply wZ;rfl|show Cn _;constructor|exact rfl|(apply h)|apply wY;rfl|apply wI;rfl|apply gE;omega)
theorem auJ (s:Sc) (k:Nat) (hk:k<s.length) (hc:0<s[k].cols.length):PF Tryz.prog 160 [.agg (scC s),(vi ((k:Nat)))] (vi (lk3 s[k]!)):=by
 rw [getElem!_pos s k hk]
 unfold lk3
 rw [getElem!_pos s[k].cols 0 hc]
 have h:=cS s[k].cols[0]
 generalize oP s[k].cols[0]=N at*
 refine pF Tryz.func160 rfl (λst=> ?_)
 (repeat' first|apply wZ;rfl|show Cn _;constructor|exact rfl|(apply h)|show (_:PV)=_;(congr 2;grind);done|apply wY;rfl|apply wI;rfl|apply gE;omega|(intro h;simp at h))
theorem awD (s:Sc) (k:Nat) (hk:k<s.length) (hB:TbB s[k]):PF Tryz.prog 162 [.agg (scC s),(vi ((k:Nat)))] (vi (lk4 s[k]!)):=by
 rw [getElem!_pos s k hk]
 have h:=abN s[k] hB.c hB.u
 change PF _ _ _ (vi (lk4 s[k])) at h
 refine pF Tryz.func162 rfl (λst=> ?_)
 (repeat' first|apply wZ;rfl|show Cn _;constructor|exact rfl|(apply h)|apply wY;rfl|apply wI;rfl|apply gE;omega)
theorem avM (s:Sc) (k:Nat) (hk:k<s.length) (hB:TbB s[k]):PF Tryz.prog 164 [.agg (scC s),(vi ((k:Nat)))] (vi (lk5 s.length s[k]!)):=by
 rw [getElem!_pos s k hk]
 have h:=yE s s[k] hB.c hB.f
 change PF _ _ _ (vi (lk5 s.length s[k])) at h
 refine pF Tryz.func164 rfl (λst=> ?_)
 (repeat' first|apply wZ;rfl|show Cn _;constructor|exact rfl|apply KR.mk;kernel_rfl|(apply h)|apply wY;rfl|apply wI;rfl|apply gE;omega)
theorem arH (s:Sc) (k:Nat) (hk:k<s.length) (hB:TbB s[k]):PF Tryz.prog 166 [.agg (scC s),(vi ((k:Nat)))] (vi (lk6 s[k]!)):=by
 rw [getElem!_pos s k hk]
 have h:=anG s[k] hB.c hB.s
 change PF _ _ _ (vi (lk6 s[k])) at h
 refine pF Tryz.func166 rfl (λst=> ?_)
 (repeat' first|apply wZ;rfl|show Cn _;constructor|exact rfl|(apply h)|apply wY;rfl|apply wI;rfl|apply gE;omega)
def looksF :List FuncId:=[154,157,158,160,162,164,166]
theorem ahD :PF Tryz.prog 112 [] (.seq (looksF.map λf=>[.fn f []])):=by
 refine pF Tryz.func112 rfl (λst=> ?_)
 (repeat' first|apply wZ;rfl|show Cn _;constructor|exact rfl)
theorem akZ (s:Sc) (k:Nat):(lks s k).length=7:=rfl
theorem apY (s:Sc) (k y:Nat) (hl:s.length<200000000000000) (hk:k<s.length) (hB:TbB s[k]) (hy:y<7) (hz:∀j (h:j<y),(lks s k)[j]'(by rw [akZ];omega)=0):PF Tryz.prog (looksF[y]'hy) [.agg (scC s),(vi ((k:Nat)))] (vi ((lks s k)[y]'hy)):=by
 rcases (show y=0\/y=1\/y=2\/y=3\/y=4\/y=5\/y=6 by omega) with rfl|rfl|rfl|rfl|rfl|rfl|rfl
 ·exact atY s k hl hk
 ·exact avL s k hk hB
 ·exact arM s k hk hB
 ·have h1:lk1 s[k]! =0:=hz 1 (by omega)
  rw [getElem!_pos s k hk] at h1
  have:0<s[k].cols.length:=by
   unfold lk1 at h1
   split at h1
   ·omega
   ·omega
  exact auJ s k hk this
 ·exact awD s k hk hB
 ·exact avM s k hk hB
 ·exact arH s k hk hB
theorem acV (s:Sc) (hl:s.length<200000000000000) (hB:∀t∈s,TbB t):PF Tryz.prog 70 [.agg (scC s)] (vi (gP s)):=by
 have hlk:=ahD
 unfold gP
 by_cases h16:s.length<1\/s.length>16
 ·rw [zp h16]
  refine pF Tryz.func70 rfl (λst=> ?_)
  (repeat' first|(refine yV (λ_ _ h=>h) ?_)|apply wZ;rfl|show Cn _;constructor|exact rfl|intro h;simp at h;omega|(intro h;simp at h))
 rw [zn h16]
 refine pF Tryz.func70 rfl (λst=> ?_)
 (repeat' first|(refine yV (λ_ _ h=>h) ?_)|(refine aoQ ?_)|apply wZ;rfl|show Cn _;constructor|intro h;simp at h;omega|(intro h;simp at h))
 refine aG (X:={x:Nat//x<=s.length/\∀j<x,aiR s j=0}) (λi=>(((((St.nil 39 st).var 1 24 ((scC s))).pv 3 ((vi (0)))).pv 19 ((vi (((s.map Tb.cells).length:Nat))))).pv 20 ((vi ((i.1:Nat)))))) (λi=>s.length-i.1) ⟨0,by omega,by omega⟩ ?_ (λi=> ?_)
 ·(repeat' first|show Cn _;constructor|exact rfl)
 obtain ⟨i,hi,hI⟩:=i
 dsimp only
 by_cases hend:s.length<=i
 ·rw [aeU (f:=aiR s) (n:=s.length) λj hj=>hI j (by omega)]
  (repeat' first|apply wZ;rfl|show Cn _;constructor|exact rfl|simp only [zql];omega|(intro h;simp at h))
 have hil:i<s.length:=by omega
 have hBi:=hB s[i] (zgm hil)
 (repeat' first|apply wZ;rfl|show Cn _;constructor|(apply hlk)|apply wY;rfl|simp only [zql];omega|(intro h;simp at h))
 refine aG (X:={x:Nat//x<=7/\∀j (h:j<x) (h7:j<7),(lks s i)[j]'h7=0}) (λy=>(((((((((St.nil 39 st).var 1 24 ((scC s))).pv 3 ((vi (0)))).pv 4 ((vi ((i:Nat))))).pv 19 ((vi (((s.map Tb.cells).length:Nat))))).pv 20 ((vi ((i:Nat))))).pv 23 (.seq (looksF.map λf=>[.fn f []]))).pv 24 ((vi ((7:Nat))))).pv 25 ((vi ((y.1:Nat)))))) (λy=>7-y.1) ⟨0,by omega,by omega⟩ ?_ (λy=> ?_)
 ·(repeat' first|show Cn _;constructor|exact rfl)
 obtain ⟨y,hy,hyI⟩:=y
 dsimp only
 by_cases hend2:7<=y
 ·have e:aiR s i=0:=by
   unfold aiR
   refine aqY λx hx=> ?_
   obtain ⟨j,hj,rfl⟩:=zgo hx
   exact hyI j (by rw [akZ] at hj;omega) hj
  (repeat' first|(refine ⟨⟨i+1,by omega,λj hj=>by rcases zls.1 hj with q|q;exact hI j q;subst q;exact e⟩, ?_, ?_⟩)|apply wZ;rfl|show Cn _;constructor|exact rfl|omega|simp only [zql];omega|(intro h;simp at h))
 have hy7:y<7:=by omega
 have hc:=apY s i y hl hil hBi hy7 λj hj=>hyI j hj (by omega)
 have hF:(lks s i)[y]'hy7≠0->dB (aiR s) s.length=(lks s i)[y]'hy7:=λh=>by
  have e:aiR s i=(lks s i)[y]'hy7:=atU (l:=lks s i) hy7 h λj hj h2=>hyI j hj h2
  rw [aeT hil (by rw [e];exact h) hI,e]
 have hS:(lks s i)[y]'hy7=0->∀j (h:j<y+1) (h7:j<7),(lks s i)[j]'h7=0:=λh j hj h7=>by
  rcases zls.1 hj with q|q
  ·exact hyI j q h7
  ·subst q;exact h
 generalize (lks s i)[y]'hy7=R at*
 have hrow:(looksF.map λf=>[PV.fn f []])[y]?=some [.fn (looksF[y]'hy7) []]:=axY (f:=λf=>[PV.fn f []]) (l:=looksF) hy7
 generalize (looksF[y]'hy7)=F at*
 (repeat' first|(refine ⟨⟨y+1,by omega,hS ‹_›⟩, ?_, ?_⟩)|apply wZ;rfl|show Cn _;constructor|exact rfl|apply bX pk;(iterate 6 rfl);rotate_left;rfl;(intro hw;rfl);(intro hw;apply (λ_=>hrow)<;>omega);(intro _;rfl);rfl|(apply hc)|show (_:PV)=_;(rw [hF ‹_›]);done|show _=_;((simp only [show R=0 from by assumption]))|apply wY;rfl|omega|simp only [zql];omega|(intro h;simp at h)|intro h)
theorem aoN (zs:List Int) {st:aD} {id n:Nat} (hst:st id=some (.arr 3 (zs.map I1))) (hn:zs.length=n) (h62:n<4611686018427387904):
  PC Tryz.prog 187 [.vec id 1 0 n] st λ_ S=>S=upd st id (some (.arr 3 ((zs.mergeSort λx y=>decide (x<=y)).map I1))):=
 atO (P:=Tryz.prog) aDd (by kernel_rfl) (by kernel_rfl) hst hn h62
theorem bA {st:aD} {id id':Nat} {o:AObj} (h:upd st id (some o) id'=none):st id'=none:=by
 by_cases e:id'=id
 ·subst e;rw [aA] at h;cases h
 ·rwa [aC e] at h
theorem lB :Tryz.prog.bytesOf 3=8:=by kernel_rfl
theorem agQ {st:aD} {id id2:Nat} {o:Option AObj} (hid:st id=none) (h:upd (upd st id o) id none id2=none):st id2=none:=by
 by_cases e:id2=id
 ·rw [e];exact hid
 ·rwa [aC e,aC e] at h
theorem anI {st:aD} {id id2:Nat} {o b:Option AObj} (hid:st id=none):StSub (upd st id2 b) (upd (upd (upd st id o) id none) id2 b):=λj=>by
 by_cases e:j=id2
 ·subst e;right;rw [aA,aA]
 ·rw [aC e,aC e]
  by_cases e2:j=id
  ·subst e2;left;exact hid
  ·right;rw [aC e2,aC e2]
def nN (xs:List Ln) (i:Nat) (ys:List Ln):List Ln:=xs.take i++ys++xs.drop i
theorem aeB {xs:List Ln} {i:Nat} {ys:List Ln} (hi:i<=xs.length):(nN xs i ys).length=xs.length+ys.length:=by
 unfold nN
 simp only [zla,zlt,zld];omega
abbrev Bs :=List Da
def bsC (b:Bs):List PV:=[.seq (b.map Da.cells)]
def okT (b:Bs) (k:Int):Bool:=decide (0<=k)&&decide (k<b.length)
def aU (b:Bs) (k:Int):List Ln:=if okT b k then (b[k.toNat]!).lines else []
theorem ayV (b:Bs) (k:Int) (h:okT b k=false):PF Tryz.prog 38 [.agg (bsC b),(vi (k))] (.tup [.agg [.seq [], .seq [],(vi (0))],(vb (false))]):=by
 unfold okT at h
 simp only [Bool.and_eq_false_iff,decide_eq_false_iff_not] at h
 refine pF Tryz.func38 rfl (λst=> ?_)
 (repeat' first|show Cn (.e _ _ _ _);refine .any ?_;((refine ⟨_,_,_,rfl,zwf _,zsr _, ?_,rfl⟩;(rfl)))|apply wZ;rfl|show Cn _;constructor|intro h;simp at h;omega|(intro h;simp at h))
theorem afC (b:Bs) (k:Nat) (h:k<b.length):PF Tryz.prog 38 [.agg (bsC b),(vi ((k:Nat)))] (.tup [.agg [.seq (b[k].lines.map Ln.cells), .seq (b.map Da.cells),(vi ((k:Nat)))],(vb (true))]):=by
 refine pF Tryz.func38 rfl (λst=> ?_)
 (repeat' first|apply wZ;rfl|show Cn _;constructor|exact rfl|apply KR.mk;kernel_rfl|apply wI;rfl|apply gE;omega|simp only [zql];omega|(intro h;simp at h))
theorem atB (x:Ln) (k:Int):PF Tryz.prog 95 [.agg x.cells, .rp [(vi (k))]] (vb (decide (x.key=k))):=by
 refine pF Tryz.func95 rfl (λst=> ?_)
 (repeat' first|apply wZ;rfl|show Cn _;constructor|exact rfl)
theorem axD (x:Ln) (k:Int):PF Tryz.prog 96 [.agg x.cells, .rp [(vi (k))]] (vb (decide (x.key>k))):=by
 refine pF Tryz.func96 rfl (λst=> ?_)
 (repeat' first|apply wZ;rfl|show Cn _;constructor|exact rfl)
def atP (l:List Ln) (k:Int):Int×Bool:=
 if bT (λx=>decide (x.key=k)) l>=0 then (bT (λx=>decide (x.key=k)) l,true)
 else if bT (λx=>decide (x.key>k)) l>=0 then (bT (λx=>decide (x.key>k)) l,false) else (l.length,false)
theorem alK (l:List Ln) (k:Int) (hl:l.length<1000000000000):PF Tryz.prog 61 [.seq (l.map Ln.cells),(vi (k))] (.tup [(vi ((atP l k).1)),(vb ((atP l k).2))]):=by
 have h1:=zC 95 [.rp [(vi (k))]] (λx=>decide (x.key=k)) l (by omega) λx=>atB x k
 have h2:=zC 96 [.rp [(vi (k))]] (λx=>decide (x.key>k)) l (by omega) λx=>axD x k
 unfold atP
 generalize bT (λx=>decide (x.key=k)) l=A at*
 generalize bT (λx=>decide (x.key>k)) l=B at*
 refine pF Tryz.func61 rfl (λst=> ?_)
 (repeat' first|apply wZ;rfl|show Cn _;constructor|exact rfl|((first|apply h1|apply h2))|show (_:PV)=_;(first|rw [zp (by omega)];done|rw [zn (by omega),zp (by omega)];done|rw [zn (by omega),zn (by omega)];simp);done|apply aQ 3;rfl;rfl|apply wY;rfl|(intro h;simp at h))
theorem vG {α:Type} (f:α->Bool) (l:List α):(∃j:Nat,j<l.length/\bT f l=j)\/bT f l= -1:=by
 unfold bT
 cases h:l.findIdx? f with
 |none=>exact .inr rfl
 |some j=>exact .inl ⟨j,(List.findIdx?_eq_some_iff_getElem.1 h).1,rfl⟩
theorem aqW (l:List Ln) (k:Int):∃j:Nat,j<=l.length/\(atP l k).1=j/\((atP l k).2=true->j<l.length):=by
 unfold atP
 rcases vG (λx:Ln=>decide (x.key=k)) l with ⟨j,hj,e⟩|e
 ·rw [zp (by omega)];exact ⟨j,by omega,e,λ_=>hj⟩
 ·rw [zn (by omega)]
  rcases vG (λx:Ln=>decide (x.key>k)) l with ⟨j,hj,e⟩|e
  ·rw [zp (by omega)];exact ⟨j,by omega,e,λh=>by cases h⟩
  ·rw [zn (by omega)];exact ⟨l.length,Nat.le_refl _,rfl,λh=>by cases h⟩
def adP (l:List Ln) (a:Ln):List Ln:=if (atP l a.key).2 then l.set (atP l a.key).1.toNat a else nN l (atP l a.key).1.toNat [a]
def aAL (b:Bs) (k:Int) (a:Ln):Bs:=if okT b k then b.set k.toNat ⟨adP (aU b k) a⟩ else b
def asN (b:Bs) (k key:Int):Bs:=if okT b k then if (atP (aU b k) key).2 then b.set k.toNat ⟨(aU b k).eraseIdx (atP (aU b k) key).1.toNat⟩ else b else b
theorem aAN (k:Int):atP [] k=(0,false):=rfl
theorem anK (a b:List Dt) (hb:a.length<4611686018427387904):PF Tryz.prog 37 [.seq (a.map Dt.cells), .seq (b.map Dt.cells)] (vb (decide (a=b))):=by
 by_cases hl:¬(a.length=b.length)
 ·have e:decide (a=b)=false:=decide_eq_false λq=>hl (by rw [q])
  refine pF Tryz.func37 rfl (λst=> ?_)
  (repeat' first|apply wZ;rfl|show Cn _;constructor|exact rfl|show (_:PV)=_;((rw [e];done));done|simp only [zql];omega|(intro h;simp at h))
 replace hl:=zdn hl
 refine pF Tryz.func37 rfl (λst=> ?_)
 (repeat' first|apply wZ;rfl|show Cn _;constructor|simp only [zql];omega|(intro h;simp at h))
 refine aG (X:={x:Nat//x<=a.length/\∀j (h:j<x) (h1:j<a.length) (h2:j<b.length),a[j]=b[j]}) (λi=>((((St.nil 26 st).pv 0 (.seq (a.map Dt.cells))).pv 1 (.seq (b.map Dt.cells))).pv 5 ((vi ((i.1:Nat)))))) (λi=>a.length-i.1) ⟨0,by omega,λ_ h=>absurd h (Nat.not_lt_zero _)⟩ ?_ (λi=> ?_)
 ·(repeat' first|show Cn _;constructor|exact rfl)
 obtain ⟨i,hi,hI⟩:=i
 dsimp only
 by_cases hend:a.length<=i
 ·have e:decide (a=b)=true:=decide_eq_true (List.ext_getElem hl λj h1 h2=>hI j (by omega) h1 h2)
  (repeat' first|apply wZ;rfl|show Cn _;constructor|exact rfl|show (_:PV)=_;(rw [e]);done|simp only [zql];omega|(intro h;simp at h))
 have h1:i<a.length:=by omega
 have h2:i<b.length:=by omega
 have hF:¬a[i]=b[i]->decide (a=b)=false:=λh=>decide_eq_false λq=>h (by subst q;rfl)
 have hS:a[i]=b[i]->∀j (h:j<i+1) (h1:j<a.length) (h2:j<b.length),a[j]=b[j]:=λh j hj h1 h2=>by
  rcases zls.1 hj with q|q
  ·exact hI j q h1 h2
  ·subst q;exact h
 rw [Dt.ext_iff] at hF hS
 (repeat' first|(refine ⟨⟨i+1,by omega,hS ‹_›⟩, ?_, ?_⟩)|apply wZ;rfl|show Cn _;constructor|exact rfl|apply KR.mk;kernel_rfl|show (_:PV)=_;(rw [hF (by grind)]);done|apply wI;rfl|apply gE;omega|omega|simp only [zql];omega|(intro h;simp at h))
theorem xG (b:Bs) (k:Int):PF Tryz.prog 69 [.agg (bsC b),(vi (k))] (.seq ((aU b k).map Ln.cells)):=by
 cases hok:okT b k with
 |false=>
  have e:aU b k=[]:=by unfold aU;rw [hok];rfl
  rw [e]
  unfold okT at hok
  simp only [Bool.and_eq_false_iff,decide_eq_false_iff_not] at hok
  refine pF Tryz.func69 rfl (λst=> ?_)
  (repeat' first|(show Cn (.e _ _ _ _);refine .any ?_;(first|(refine ⟨_,_,_,rfl,zwr _,zsr _, ?_,rfl⟩;(first|rfl))|(refine ⟨_,_,_,rfl,zwr _,aB ‹_›, ?_,rfl⟩;(first|rfl))|(refine ⟨_,_,_,rfl,zwf _,zsr _, ?_,rfl⟩;(first|rfl))|(refine ⟨_,_,_,rfl,zwf _,aB ‹_›, ?_,rfl⟩;(first|rfl))|(refine ⟨_,_,_,rfl,zwr _,zsr _, ?_,rfl⟩)|(refine ⟨_,_,_,rfl,zwf _,aB ‹_›, ?_,rfl⟩)))|(show Cn (.r _ _ _);refine .any ?_;(first|(refine ⟨_,_,_,rfl,zwr _,zsr _, ?_,rfl⟩;(first|rfl))|(refine ⟨_,_,_,rfl,zwr _,aB ‹_›, ?_,rfl⟩;(first|rfl))|(refine ⟨_,_,_,rfl,zwf _,zsr _, ?_,rfl⟩;(first|rfl))|(refine ⟨_,_,_,rfl,zwf _,aB ‹_›, ?_,rfl⟩;(first|rfl))|(refine ⟨_,_,_,rfl,zwr _,zsr _, ?_,rfl⟩)|(refine ⟨_,_,_,rfl,zwf _,aB ‹_›, ?_,rfl⟩)))|apply wZ;rfl|show Cn _;constructor|exact rfl|apply KR.mk;kernel_rfl|omega|intros;omega|simp only [zql];omega|intros;simp only [zql];omega|intros;simp only;omega|intro h;omega|intro h;simp at h;done|intro h;simp at h;omega|(intro h;simp at h)|intro h)
 |true=>
  obtain ⟨q,rfl,hq⟩:∃q:Nat,k=q/\q<b.length:=by
   unfold okT at hok
   simp only [zba,zde] at hok
   exact ⟨k.toNat,by omega,by omega⟩
  have hln:aU b q=b[q].lines:=by unfold aU;rw [zp hok];simp [hq]
  rw [hln]
  refine pF Tryz.func69 rfl (λst=> ?_)
  (repeat' first|(show Cn (.r _ _ _);refine .any ⟨_,_,_,rfl,zwr _,zsr _, ?_,rfl⟩;try rfl)|apply wZ;rfl|show Cn _;constructor|exact rfl|apply KR.mk;kernel_rfl|apply wI;rfl|apply gE;omega|apply gE;show 0<_;omega|apply gE;show 1<_;omega|omega|intros;omega|simp only [zql];omega|intros;simp only [zql];omega|intros;simp only;omega|intro h;omega|intro h;simp at h;done|intro h;simp at h;omega|(intro h;simp at h)|intro h)
def kP (c:Cl):Bool:=decide (c.parts.length<=40)&&decide (c.val.s.size<=400)
def eS (a:Ln):Bool:=a.cells_.all kP&&(decide (a.cells_.length<=20)&&decide (a.by_.length<=60))
theorem xO (a:Ln) (hl:a.cells_.length<4611686018427387904):PF Tryz.prog 67 [.agg a.cells] (vb (eS a)):=by
 refine pF Tryz.func67 rfl (λst=> ?_)
 (repeat' first|apply wZ;rfl|show Cn _;constructor)
 refine aG (X:={x:Nat//x<=a.cells_.length/\∀j (h:j<x) (h1:j<a.cells_.length),kP a.cells_[j]=true}) (λi=>(((St.nil 40 st).var 1 48 (a.cells)).pv 3 ((vi ((i.1:Nat)))))) (λi=>a.cells_.length-i.1) ⟨0,by omega,λ_ h=>absurd h (Nat.not_lt_zero _)⟩ ?_ (λi=> ?_)
 ·(repeat' first|show Cn _;constructor|exact rfl)
 obtain ⟨i,hi,hI⟩:=i
 dsimp only
 by_cases hend:a.cells_.length<=i
 ·have e:a.cells_.all kP=true:=zal.2 λc hc=>by
   obtain ⟨j,hj,rfl⟩:=zgo hc
   exact hI j (by omega) hj
  unfold eS
  rw [e,Bool.true_and]
  have e2:(decide (((a.cells_.map Cl.cells).length:Int)<=20)&&decide (((a.by_.map Dt.cells).length:Int)<=60))=(decide (a.cells_.length<=20)&&decide (a.by_.length<=60)):=by
   rw [Bool.eq_iff_iff];simp only [zba,zde,zql];omega
  (repeat' first|apply wZ;rfl|show Cn _;constructor|exact rfl|show (_:PV)=_;(rw [e2]);done|simp only [zql];omega|(intro h;simp at h))
 have h1:i<a.cells_.length:=by omega
 have hF:kP a.cells_[i]=false->eS a=false:=λh=>by
  unfold eS
  have:a.cells_.all kP=false:=by
   rw [<-Bool.not_eq_true,zal]
   intro q;rw [q _ (zgm h1)] at h;cases h
  rw [this];rfl
 have hS:kP a.cells_[i]=true->∀j (h:j<i+1) (h1:j<a.cells_.length),kP a.cells_[j]=true:=λh j hj h1=>by
  rcases zls.1 hj with q|q
  ·exact hI j q h1
  ·subst q;exact h
 unfold kP at hF hS
 (repeat' first|(refine ⟨⟨i+1,by omega,hS (by simp;omega)⟩, ?_, ?_⟩)|apply wZ;rfl|show Cn _;constructor|exact rfl|show (_:PV)=_;(rw [hF (by simp;omega)]);done|apply wI;rfl|apply gE;omega|omega|simp only [zql];omega|(intro h;simp at h))
def jD (l:List Ln) (k:Int):Option Ln:=l.find? λx=>decide (x.key=k)
def aB2 :Option Ln->PV
 |some x=> .tup [.agg x.cells,(vb (true))]
 |none=> .tup [.agg Ln.zero.cells,(vb (false))]
theorem alP {α:Type} {f:α->Bool} {l:List α} {i:Nat} (h:i<l.length) (hf:f l[i]=true) (hn:∀j (h:j<i) (h2:j<l.length),f l[j]=false):l.find? f=some l[i]:=
 List.find?_eq_some_iff_getElem.2 ⟨hf,i,h,rfl,λj hj=>by rw [hn j hj (by omega)];rfl⟩
theorem aA8 (l:List Ln) (k:Int):(∃j:Nat,∃h:j<l.length,atP l k=(((j:Nat):Int),true)/\jD l k=some l[j])\/((atP l k).2=false/\jD l k=none):=by
 unfold atP jD
 cases h:l.findIdx? λx:Ln=>decide (x.key=k) with
 |some j=>
  left
  obtain ⟨hj,hf,hn⟩:=List.findIdx?_eq_some_iff_getElem.1 h
  refine ⟨j,hj, ?_,alP hj hf λq hq h2=>by simpa using hn q hq⟩
  have e:bT (λx:Ln=>decide (x.key=k)) l=j:=by unfold bT;rw [h]
  rw [e,zp (by omega)]
 |none=>
  right
  have e:bT (λx:Ln=>decide (x.key=k)) l= -1:=by unfold bT;rw [h]
  rw [e,zn (by omega)]
  refine ⟨by split<;>rfl,List.find?_eq_none.2 λx hx=>by rw [List.findIdx?_eq_none_iff.1 h x hx];simp⟩
theorem avC (b:Bs) (k key:Int) (hll:∀d∈b,d.lines.length<100000000000):PF Tryz.prog 31 [.agg (bsC b),(vi (k)),(vi (key))] (aB2 (jD (aU b k) key)):=by
 cases hok:okT b k with
 |false=>
  have ho:=ayV b k hok
  have ha:=alK [] key (by simp)
  rw [aAN] at ha
  have e:aU b k=[]:=by unfold aU;rw [hok];rfl
  rw [e,show jD [] key=none from rfl]
  refine pF Tryz.func31 rfl (λst=> ?_)
  (repeat' first|show Cn (.e _ _ _ _);refine .any ?_;((refine ⟨_,_,_,rfl,zwf _,zsr _, ?_,rfl⟩;(rfl)))|apply wZ;rfl|show Cn _;constructor|((first|apply ho|apply ha))|apply wY;rfl)
 |true=>
  obtain ⟨q,rfl,hq⟩:∃q:Nat,k=q/\q<b.length:=by
   unfold okT at hok
   simp only [zba,zde] at hok
   exact ⟨k.toNat,by omega,by omega⟩
  have ho:=afC b q hq
  have hlq:=hll b[q] (zgm hq)
  have hln:aU b q=b[q].lines:=by unfold aU;rw [zp hok];simp [hq]
  rw [hln]
  generalize hLe:b[q].lines=L at*
  have ha:=alK L key (by omega)
  rcases aA8 L key with ⟨j,hj,e1,e2⟩|⟨e1,e2⟩
  ·rw [e1] at ha
   rw [e2]
   refine pF Tryz.func31 rfl (λst=> ?_)
   (repeat' first|apply wZ;rfl|show Cn _;constructor|exact rfl|((first|apply ho|apply ha))|apply wY;rfl|apply wI;rfl|apply gE;omega)
  ·rw [e1] at ha
   rw [e2]
   refine pF Tryz.func31 rfl (λst=> ?_)
   (repeat' first|show Cn (.e _ _ _ _);refine .any ?_;((refine ⟨_,_,_,rfl,zwf _,zsr _, ?_,rfl⟩;(rfl)))|apply wZ;rfl|show Cn _;constructor|((first|apply ho|apply ha))|apply wY;rfl)
end Go.Proofs.YtppdefkgmegipaaGreatDoor
