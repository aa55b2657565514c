import Derived.Test.YtloecjjehapblaaGreatDoorOkAb
import Derived.Test.YtloecjjehapblaaGreatDoorOkAa
import Derived.Test.YtloecjjehapblaaGreatDoorAcSort
import Derived.Test.YtloecjjehapblaaGreatDoorAcE
set_option linter.unusedSimpArgs false
set_option linter.unusedVariables false
namespace Go.Proofs.YtloecjjehapblaaGreatDoor
open Go Go.Abs
attribute [local irreducible] Ev PWp
set_option maxRecDepth 10000
set_option maxHeartbeats 4000000
def mA (c:Co):Bool:=decide (c.kind=0)&&decide (c.type_=1)
def oN (t:Tb) (i:Int):Bool:=decide (i>=1)&&decide (i<t.cols.length)
def kQ (t:Tb) (i:Int):Co:=t.cols[i.toNat]!
theorem eC (c:Co):PF Tryz.prog 168 [.agg c.cells] (.val (.bool (mA c))):=by
 refine aG aF Tryz.func168 (by kernel_rfl) rfl rfl rfl rfl (λst=> ?_)
 (try apply wO pk;rfl);(repeat' first|show Cn _;constructor|(refine aC ?_;refine ⟨_,_,_,rfl,zwr _,zsr _, ?_,rfl⟩;try rfl))
theorem sO (t:Tb) (i:Int):PF Tryz.prog 265 [.agg t.cells,(.val (.int .i64 i))] (.val (.bool (oN t i))):=by
 refine aG aF Tryz.func265 (by kernel_rfl) rfl rfl rfl rfl (λst=> ?_)
 (try apply wO pk;rfl);(repeat' first|show Cn _;constructor|(refine aC ?_;refine ⟨_,_,_,rfl,zwr _,zsr _, ?_,rfl⟩;try first|rfl|(rw [zql];rfl);done))
def arZ (pre:List Co) (c:Co):Int:=if zR c.name=false\/c.kind<0\/c.kind>4 then 1 else if (pre.any λx=>decide (x.name=c.name))=true then 5 else if (c.type_≠1/\c.type_≠2)\/(¬(c.kind=0\/c.kind=1)/\¬(c.type_=2↔c.kind=4)) then 6 else if c.null=true/\¬(c.kind=0\/c.kind=1) then 1 else 0
def akU (t:Tb) (k:Nat):Int:=arZ (t.cols.take k) t.cols[k]!
theorem aAc (x c:Co):PF Tryz.prog 262 [.agg x.cells, .rp c.cells] (.val (.bool (decide (x.name=c.name)))):=by
 refine aG aF Tryz.func262 (by kernel_rfl) rfl rfl rfl rfl (λst=> ?_)
 (try apply wO pk;rfl);(repeat' first|show Cn _;constructor|(refine aC ?_;refine ⟨_,_,_,rfl,zwr _,zsr _, ?_,rfl⟩;try rfl))
theorem aDP (t:Tb) (k:Nat) (hl:t.cols.length<200000000000000) (hk:k<t.cols.length):PF Tryz.prog 261 [(.val (.int .i64 ((k:Nat)))), .rp t.cells] (.val (.int .i64 (akU t k))):=by
 have hn:=adR t.cols[k].name
 have hc:=avU 262 [.rp t.cols[k].cells] (λx=>decide (x.name=t.cols[k].name)) (t.cols.take k) (by rw [zlt];omega) λp=>aAc p _
 have e:akU t k=arZ (t.cols.take k) t.cols[k]:=by unfold akU;rw [getElem!_pos t.cols k hk]
 rw [e]
 unfold arZ
 generalize zR t.cols[k].name=N at*
 generalize ((t.cols.take k).any λx=>decide (x.name=t.cols[k].name))=A at*
 have hE:(((t.cols.drop 0).take (k-0)).map Co.cells)=(t.cols.take k).map Co.cells:=by simp
 refine aG aF Tryz.func261 (by kernel_rfl) rfl rfl rfl rfl (λst=> ?_)
 (try apply wO pk;rfl);(repeat' first|show Cn _;constructor|apply wC pk;rfl;rfl|apply wE pk;rfl;rfl|refine aB rfl ?_ ?_<;>intro h<;>(try simp at h)<;>try omega|(refine aC ?_;refine ⟨_,_,_,rfl,zwr _,zsr _, ?_,rfl⟩;try first|rfl|(congr 2;grind);done)|(apply aH;rfl;rfl;rfl;(intro _;(first|apply hn|apply hc)<;>first|assumption|omega);rotate_left;rfl;rfl)|apply aP pk;(iterate 6 rfl);rotate_left;rfl;(intro hw;rfl);(intro hw;apply aJ<;>omega);(intro _;rfl);rfl|apply bD 4;rfl;rfl|apply slS pk (f:=Co.cells) (xs:=t.cols) 0 k;(iterate 5 rfl);rotate_left;rfl;(intro _;rfl);(intro _;exact bE);(intro _;exact aU rfl rfl);(intro _;omega);(intro _;omega);rfl;rw [hE])
theorem afF (t:Tb) (hl:t.cols.length<200000000000000):PF Tryz.prog 166 [.agg t.cells] (.val (.int .i64 (eI (akU t) t.cols.length))):=by
 have e:(t.cols.map Co.cells).length=t.cols.length:=zql _
 have h:=iB 261 [.rp t.cells] (akU t) (t.cols.map Co.cells).length (by omega) λk hk _=>aDP t k hl (by omega)
 rw [<-e]
 refine aG aF Tryz.func166 (by kernel_rfl) rfl rfl rfl rfl (λst=> ?_)
 (try apply wO pk;rfl);(repeat' first|show Cn _;constructor|apply wE pk;rfl;rfl|(refine aC ?_;refine ⟨_,_,_,rfl,zwr _,zsr _, ?_,rfl⟩;try first|rfl|rfl;done)|(apply aH;rfl;rfl;rfl;(intro _;apply h<;>first|assumption|omega);rotate_left;rfl;rfl)|apply bD 1;rfl;rfl)
theorem yE {t:Tb} {i:Int} (h:oN t i=true):∃j:Nat,i=j/\∃h:j<t.cols.length,kQ t i=t.cols[j]:=by
 unfold oN at h
 simp only [zba,zde] at h
 refine ⟨i.toNat,by omega,by omega, ?_⟩
 unfold kQ
 rw [getElem!_pos t.cols i.toNat (by omega)]
def akJ (h:Bool) (p:Bool) (n:Bool):Int:=if h=false then 4 else if p=true then 1 else if n=false then 6 else 0
def aiF (t:Tb) (k:Nat):Int:=akJ (oN t t.unique[k]!) (decide (0<k)&&decide (t.unique[k]!<=t.unique[k-1]!)) (mA (kQ t t.unique[k]!))
theorem aCd (t:Tb) (k:Nat) (hl:t.cols.length<200000000000000) (hu:t.unique.length<200000000000000) (hk:k<t.unique.length):PF Tryz.prog 264 [(.val (.int .i64 ((k:Nat)))), .rp t.cells] (.val (.int .i64 (aiF t k))):=by
 have hh:=sO t t.unique[k]
 have e:aiF t k=akJ (oN t t.unique[k]) (decide (0<k)&&decide (t.unique[k]<=t.unique[k-1]'(by omega))) (mA (kQ t t.unique[k])):=by
  unfold aiF;rw [getElem!_pos t.unique k hk,getElem!_pos t.unique (k-1) (by omega)]
 rw [e]
 unfold akJ
 cases hc:oN t t.unique[k] with
 |false=>
  rw [hc] at hh
  refine aG aF Tryz.func264 (by kernel_rfl) rfl rfl rfl rfl (λst=> ?_)
  (try apply wO pk;rfl);(repeat' first|show Cn _;constructor|apply wC pk;rfl;rfl|apply wE pk;rfl;rfl|refine aB rfl ?_ ?_<;>intro h<;>(try simp at h)<;>try omega|(refine aC ?_;refine ⟨_,_,_,rfl,zwr _,zsr _, ?_,rfl⟩;try rfl)|(apply aH;rfl;rfl;rfl;(intro _;apply hh<;>first|assumption|omega);rotate_left;rfl;rfl)|apply aP pk;(iterate 6 rfl);rotate_left;rfl;(intro hw;rfl);(intro hw;apply aJ<;>omega);(intro _;rfl);rfl)
 |true=>
  rw [hc] at hh
  obtain ⟨j,hj,hjl,hj2⟩:=yE hc
  rw [hj2]
  have hnn:=eC t.cols[j]
  generalize mA t.cols[j]=N at*
  rcases Nat.eq_zero_or_pos k with rfl|hpos
  ·refine aG aF Tryz.func264 (by kernel_rfl) rfl rfl rfl rfl (λst=> ?_)
   (try apply wO pk;rfl);(repeat' first|show Cn _;constructor|apply wC pk;rfl;rfl|apply wE pk;rfl;rfl|refine aB rfl ?_ ?_<;>intro h<;>(try simp at h)<;>try omega|(refine aC ?_;refine ⟨_,_,_,rfl,zwr _,zsr _, ?_,rfl⟩;try first|rfl|(congr 2;grind);done)|(apply aH;rfl;rfl;rfl;(intro _;(first|apply hh|apply hnn)<;>first|assumption|omega);rotate_left;rfl;rfl)|apply aP pk;(iterate 6 rfl);rotate_left;rfl;(intro hw;exact (by first|rfl|exact hj|exact (show _=((0:Nat):Int) from (uE hw).elim)));(intro hw;apply aJ<;>omega);(intro _;rfl);rfl|intros;(try simp only [zql]);omega)
  ·obtain ⟨m,rfl⟩:∃m,k=m+1:=⟨k-1,by omega⟩
   refine aG aF Tryz.func264 (by kernel_rfl) rfl rfl rfl rfl (λst=> ?_)
   (try apply wO pk;rfl);(repeat' first|show Cn _;constructor|apply wC pk;rfl;rfl|apply wE pk;rfl;rfl|refine aB rfl ?_ ?_<;>intro h<;>(try simp at h)<;>try omega|(refine aC ?_;refine ⟨_,_,_,rfl,zwr _,zsr _, ?_,rfl⟩;try first|rfl|(congr 2;grind);done)|(apply aH;rfl;rfl;rfl;(intro _;(first|apply hh|apply hnn)<;>first|assumption|omega);rotate_left;rfl;rfl)|apply aP pk;(iterate 6 rfl);rotate_left;rfl;(intro hw;exact (by first|rfl|exact hj|exact (show ((((m+1:Nat):Int))-1=((m:Nat):Int)) from by omega)));(intro hw;apply aJ<;>omega);(intro _;rfl);rfl|intros;(try simp only [zql]);omega)
theorem afO (t:Tb) (hl:t.cols.length<200000000000000) (hu:t.unique.length<200000000000000):PF Tryz.prog 170 [.agg t.cells] (.val (.int .i64 (eI (aiF t) t.unique.length))):=by
 have e:(t.unique.map I1).length=t.unique.length:=zql _
 have h:=iB 264 [.rp t.cells] (aiF t) (t.unique.map I1).length (by omega) λk hk _=>aCd t k hl hu (by omega)
 rw [<-e]
 refine aG aF Tryz.func170 (by kernel_rfl) rfl rfl rfl rfl (λst=> ?_)
 (try apply wO pk;rfl);(repeat' first|show Cn _;constructor|apply wE pk;rfl;rfl|(refine aC ?_;refine ⟨_,_,_,rfl,zwr _,zsr _, ?_,rfl⟩;try first|rfl|rfl;done)|(apply aH;rfl;rfl;rfl;(intro _;apply h<;>first|assumption|omega);rotate_left;rfl;rfl)|apply bD 1;rfl;rfl)
def alN (h:Bool) (b:Bool) (p:Bool) (a:Bool) (n:Bool) (z:Bool):Int:=if h=false\/b=true then 4 else if p=true\/a=true then 1 else if n=false\/z=true then 6 else 0
def anY (m:Nat) (t:Tb) (k:Nat):Int:=alN (oN t t.foreign[k]!.col) (decide (t.foreign[k]!.table<0)||decide (t.foreign[k]!.table>=m)) (decide (0<k)&&decide (t.foreign[k]!.col<=t.foreign[k-1]!.col)) (decide (t.foreign[k]!.act<0)||decide (t.foreign[k]!.act>2)) (mA (kQ t t.foreign[k]!.col)) (decide (t.foreign[k]!.act=2)&& !(kQ t t.foreign[k]!.col).null)
theorem aB8 (s:Sc) (t:Tb) (k:Nat) (hl:t.cols.length<200000000000000) (hu:t.foreign.length<200000000000000) (hk:k<t.foreign.length):PF Tryz.prog 266 [(.val (.int .i64 ((k:Nat)))), .rp t.cells, .rp (scC s)] (.val (.int .i64 (anY s.length t k))):=by
 have hh:=sO t t.foreign[k].col
 have e:anY s.length t k=alN (oN t t.foreign[k].col) (decide (t.foreign[k].table<0)||decide (t.foreign[k].table>=s.length)) (decide (0<k)&&decide (t.foreign[k].col<=(t.foreign[k-1]'(by omega)).col)) (decide (t.foreign[k].act<0)||decide (t.foreign[k].act>2)) (mA (kQ t t.foreign[k].col)) (decide (t.foreign[k].act=2)&& !(kQ t t.foreign[k].col).null):=by
  unfold anY;rw [getElem!_pos t.foreign k hk,getElem!_pos t.foreign (k-1) (by omega)]
 rw [e]
 unfold alN
 have el:(s.map Tb.cells).length=s.length:=zql _
 rw [<-el]
 cases hc:oN t t.foreign[k].col with
 |false=>
  rw [hc] at hh
  refine aG aF Tryz.func266 (by kernel_rfl) rfl rfl rfl rfl (λst=> ?_)
  (try apply wO pk;rfl);(repeat' first|show Cn _;constructor|apply wC pk;rfl;rfl|apply wE pk;rfl;rfl|refine aB rfl ?_ ?_<;>intro h<;>(try simp at h)<;>try omega|(refine aC ?_;refine ⟨_,_,_,rfl,zwr _,zsr _, ?_,rfl⟩;try rfl)|(apply aH;rfl;rfl;rfl;(intro _;apply hh<;>first|assumption|omega);rotate_left;rfl;rfl)|apply aP pk;(iterate 6 rfl);rotate_left;rfl;(intro hw;rfl);(intro hw;apply aJ<;>omega);(intro _;rfl);rfl)
 |true=>
  rw [hc] at hh
  obtain ⟨j,hj,hjl,hj2⟩:=yE hc
  rw [hj2]
  have hnn:=eC t.cols[j]
  generalize mA t.cols[j]=N at*
  rcases Nat.eq_zero_or_pos k with rfl|hpos
  ·refine aG aF Tryz.func266 (by kernel_rfl) rfl rfl rfl rfl (λst=> ?_)
   (try apply wO pk;rfl);(repeat' first|show Cn _;constructor|apply wC pk;rfl;rfl|apply wE pk;rfl;rfl|apply wD pk [] [];kernel_rfl;rfl;rfl|refine aB rfl ?_ ?_<;>intro h<;>(try simp at h)<;>try omega|(refine aC ?_;refine ⟨_,_,_,rfl,zwr _,zsr _, ?_,rfl⟩;try first|rfl|(congr 2;grind);done)|(apply aH;rfl;rfl;rfl;(intro _;(first|apply hh|apply hnn)<;>first|assumption|omega);rotate_left;rfl;rfl)|apply aP pk;(iterate 6 rfl);rotate_left;rfl;(intro hw;exact (by first|rfl|exact hj|exact (show _=((0:Nat):Int) from (uE hw).elim)));(intro hw;apply aJ<;>omega);(intro _;rfl);rfl|intros;(try simp only [zql]);omega)
  ·obtain ⟨m,rfl⟩:∃m,k=m+1:=⟨k-1,by omega⟩
   refine aG aF Tryz.func266 (by kernel_rfl) rfl rfl rfl rfl (λst=> ?_)
   (try apply wO pk;rfl);(repeat' first|show Cn _;constructor|apply wC pk;rfl;rfl|apply wE pk;rfl;rfl|apply wD pk [] [];kernel_rfl;rfl;rfl|refine aB rfl ?_ ?_<;>intro h<;>(try simp at h)<;>try omega|(refine aC ?_;refine ⟨_,_,_,rfl,zwr _,zsr _, ?_,rfl⟩;try first|rfl|(congr 2;grind);done)|(apply aH;rfl;rfl;rfl;(intro _;(first|apply hh|apply hnn)<;>first|assumption|omega);rotate_left;rfl;rfl)|apply aP pk;(iterate 6 rfl);rotate_left;rfl;(intro hw;exact (by first|rfl|exact hj|exact (show ((((m+1:Nat):Int))-1=((m:Nat):Int)) from by omega)));(intro hw;apply aJ<;>omega);(intro _;rfl);rfl|intros;(try simp only [zql]);omega)
theorem acA (s:Sc) (t:Tb) (hl:t.cols.length<200000000000000) (hu:t.foreign.length<200000000000000):PF Tryz.prog 172 [.agg (scC s), .agg t.cells] (.val (.int .i64 (eI (anY s.length t) t.foreign.length))):=by
 have e:(t.foreign.map Fr.cells).length=t.foreign.length:=zql _
 have h:=iB 266 [.rp t.cells, .rp (scC s)] (anY s.length t) (t.foreign.map Fr.cells).length (by omega) λk hk _=>aB8 s t k hl hu (by omega)
 rw [<-e]
 refine aG aF Tryz.func172 (by kernel_rfl) rfl rfl rfl rfl (λst=> ?_)
 (try apply wO pk;rfl);(repeat' first|show Cn _;constructor|apply wE pk;rfl;rfl|(refine aC ?_;refine ⟨_,_,_,rfl,zwr _,zsr _, ?_,rfl⟩;try first|rfl|rfl;done)|(apply aH;rfl;rfl;rfl;(intro _;apply h<;>first|assumption|omega);rotate_left;rfl;rfl)|apply bD 3;rfl;rfl|apply bD 2;rfl;rfl)
def alC (h:Bool) (a:Bool) (n:Bool) (p:Bool):Int:=if h=false then 4 else if a=true then 1 else if n=false then 6 else if p=true then 5 else 0
def ajY (t:Tb) (k:Nat):Int:=alC (oN t t.sums[k]!.col&&oN t t.sums[k]!.by_) ((decide (t.sums[k]!.col=t.sums[k]!.by_)||decide (t.sums[k]!.max<0))||decide (t.sums[k]!.max>1099511627776)) (mA (kQ t t.sums[k]!.col)&&mA (kQ t t.sums[k]!.by_)) ((t.sums.take k).any λy=>decide (y.col=t.sums[k]!.col)&&decide (y.by_=t.sums[k]!.by_))
theorem ayS (x c:Su):PF Tryz.prog 268 [.agg x.cells, .rp c.cells] (.val (.bool (decide (x.col=c.col)&&decide (x.by_=c.by_)))):=by
 refine aG aF Tryz.func268 (by kernel_rfl) rfl rfl rfl rfl (λst=> ?_)
 (try apply wO pk;rfl);(repeat' first|show Cn _;constructor|(refine aC ?_;refine ⟨_,_,_,rfl,zwr _,zsr _, ?_,rfl⟩;try rfl))
theorem aCc (t:Tb) (k:Nat) (hl:t.cols.length<200000000000000) (hu:t.sums.length<200000000000000) (hk:k<t.sums.length):PF Tryz.prog 267 [(.val (.int .i64 ((k:Nat)))), .rp t.cells] (.val (.int .i64 (ajY t k))):=by
 have h1:=sO t t.sums[k].col
 have h2:=sO t t.sums[k].by_
 have hc:=atS 268 [.rp t.sums[k].cells] (λy=>decide (y.col=t.sums[k].col)&&decide (y.by_=t.sums[k].by_)) (t.sums.take k) (by rw [zlt];omega) λp=>ayS p _
 have e:ajY t k=alC (oN t t.sums[k].col&&oN t t.sums[k].by_) ((decide (t.sums[k].col=t.sums[k].by_)||decide (t.sums[k].max<0))||decide (t.sums[k].max>1099511627776)) (mA (kQ t t.sums[k].col)&&mA (kQ t t.sums[k].by_)) ((t.sums.take k).any λy=>decide (y.col=t.sums[k].col)&&decide (y.by_=t.sums[k].by_)):=by
  unfold ajY;rw [getElem!_pos t.sums k hk]
 have hE:(((t.sums.drop 0).take (k-0)).map Su.cells)=(t.sums.take k).map Su.cells:=by simp
 rw [e]
 unfold alC
 generalize ((t.sums.take k).any λy=>decide (y.col=t.sums[k].col)&&decide (y.by_=t.sums[k].by_))=A at*
 cases c1:oN t t.sums[k].col with
 |false=>
  rw [c1] at h1
  refine aG aF Tryz.func267 (by kernel_rfl) rfl rfl rfl rfl (λst=> ?_)
  (try apply wO pk;rfl);(repeat' first|show Cn _;constructor|apply wC pk;rfl;rfl|apply wE pk;rfl;rfl|refine aB rfl ?_ ?_<;>intro h<;>(try simp at h)<;>try omega|(refine aC ?_;refine ⟨_,_,_,rfl,zwr _,zsr _, ?_,rfl⟩;try first|rfl|(congr 2;grind);done)|(apply aH;rfl;rfl;rfl;(intro _;(first|apply h1|apply h2)<;>first|assumption|omega);rotate_left;rfl;rfl)|apply aP pk;(iterate 6 rfl);rotate_left;rfl;(intro hw;rfl);(intro hw;apply aJ<;>omega);(intro _;rfl);rfl|apply bD 4;rfl;rfl)
 |true=>
 cases c2:oN t t.sums[k].by_ with
 |false=>
  rw [c1] at h1
  rw [c2] at h2
  refine aG aF Tryz.func267 (by kernel_rfl) rfl rfl rfl rfl (λst=> ?_)
  (try apply wO pk;rfl);(repeat' first|show Cn _;constructor|apply wC pk;rfl;rfl|apply wE pk;rfl;rfl|refine aB rfl ?_ ?_<;>intro h<;>(try simp at h)<;>try omega|(refine aC ?_;refine ⟨_,_,_,rfl,zwr _,zsr _, ?_,rfl⟩;try first|rfl|(congr 2;grind);done)|(apply aH;rfl;rfl;rfl;(intro _;(first|apply h1|apply h2)<;>first|assumption|omega);rotate_left;rfl;rfl)|apply aP pk;(iterate 6 rfl);rotate_left;rfl;(intro hw;rfl);(intro hw;apply aJ<;>omega);(intro _;rfl);rfl|apply bD 4;rfl;rfl)
 |true=>
  rw [c1] at h1
  rw [c2] at h2
  obtain ⟨j,hj,hjl,hj2⟩:=yE c1
  obtain ⟨i,hi,hil,hi2⟩:=yE c2
  rw [hj2,hi2]
  have hn1:=eC t.cols[j]
  have hn2:=eC t.cols[i]
  generalize mA t.cols[j]=N at*
  generalize mA t.cols[i]=M at*
  refine aG aF Tryz.func267 (by kernel_rfl) rfl rfl rfl rfl (λst=> ?_)
  (try apply wO pk;rfl);(repeat' first|show Cn _;constructor|apply wC pk;rfl;rfl|apply wE pk;rfl;rfl|refine aB rfl ?_ ?_<;>intro h<;>(try simp at h)<;>try omega|(refine aC ?_;refine ⟨_,_,_,rfl,zwr _,zsr _, ?_,rfl⟩;try first|rfl|(congr 2;grind);done)|(apply aH;rfl;rfl;rfl;(intro _;(first|apply h1|apply h2|apply hn1|apply hn2|apply hc)<;>first|assumption|omega);rotate_left;rfl;rfl)|apply aP pk;(iterate 6 rfl);rotate_left;rfl;(intro hw;exact (by first|rfl|exact hj|exact hi));(intro hw;apply aJ<;>omega);(intro _;rfl);rfl|apply bD 4;rfl;rfl|apply slS pk (f:=Su.cells) (xs:=t.sums) 0 k;(iterate 5 rfl);rotate_left;rfl;(intro _;rfl);(intro _;exact bE);(intro _;exact aU rfl rfl);(intro _;omega);(intro _;omega);rfl;rw [hE])
theorem auF (t:Tb) (hl:t.cols.length<200000000000000) (hu:t.sums.length<200000000000000):PF Tryz.prog 174 [.agg t.cells] (.val (.int .i64 (eI (ajY t) t.sums.length))):=by
 have e:(t.sums.map Su.cells).length=t.sums.length:=zql _
 have h:=iB 267 [.rp t.cells] (ajY t) (t.sums.map Su.cells).length (by omega) λk hk _=>aCc t k hl hu (by omega)
 rw [<-e]
 refine aG aF Tryz.func174 (by kernel_rfl) rfl rfl rfl rfl (λst=> ?_)
 (try apply wO pk;rfl);(repeat' first|show Cn _;constructor|apply wE pk;rfl;rfl|(refine aC ?_;refine ⟨_,_,_,rfl,zwr _,zsr _, ?_,rfl⟩;try first|rfl|rfl;done)|(apply aH;rfl;rfl;rfl;(intro _;apply h<;>first|assumption|omega);rotate_left;rfl;rfl)|apply bD 1;rfl;rfl)
theorem awC (t:Tb) (n:ByteArray):PF Tryz.prog 259 [.agg t.cells, .rp [(.val (.string n))]] (.val (.bool (decide (t.name=n)))):=by
 refine aG aF Tryz.func259 (by kernel_rfl) rfl rfl rfl rfl (λst=> ?_)
 (try apply wO pk;rfl);(repeat' first|show Cn _;constructor|(refine aC ?_;refine ⟨_,_,_,rfl,zwr _,zsr _, ?_,rfl⟩;try rfl))
def atU (s:Sc) (n:ByteArray):Int:=cS (λt:Tb=>decide (t.name=n)) s
theorem apG (s:Sc) (n:ByteArray) (hl:s.length<200000000000000):PF Tryz.prog 163 [.agg (scC s),(.val (.string n))] (.tup [(.val (.int .i64 (max (atU s n) 0))),(.val (.bool (decide (atU s n>=0))))]):=by
 have h:=auQ 259 [.rp [(PV.val (Value.string (n)))]] (λt=>decide (t.name=n)) s (by omega) λp=>awC p n
 change PF _ _ _ (PV.val (Value.int .i64 (atU s n))) at h
 generalize atU s n=R at*
 refine aG aF Tryz.func163 (by kernel_rfl) rfl rfl rfl rfl (λst=> ?_)
 (try apply wO pk;rfl);(repeat' first|show Cn _;constructor|apply wE pk;rfl;rfl|(refine aC ?_;refine ⟨_,_,_,rfl,zwr _,zsr _, ?_,rfl⟩;try first|rfl|(congr 3;grind);done)|(apply aH;rfl;rfl;rfl;(intro _;apply h<;>first|assumption|omega);rotate_left;rfl;rfl)|apply bD 3;rfl;rfl)
def aFX (s:Sc) (k:Nat):Bool:=(s.take k).any λt=>decide (t.name=s[k]!.name)
theorem aCR {α:Type} {f:α->Bool} {l:List α} {k:Nat} (hk:k<l.length) (hf:f l[k]=true):decide (max (cS f l) 0<k)=(l.take k).any f:=by
 unfold cS
 cases h:l.findIdx? f with
 |none=>rw [List.findIdx?_eq_none_iff.1 h _ (zgm hk)] at hf;cases hf
 |some j=>
  obtain ⟨hj,hfj,hn⟩:=List.findIdx?_eq_some_iff_getElem.1 h
  rw [Bool.eq_iff_iff,List.any_eq_true,zde]
  show max ((j:Nat):Int) 0<k↔_
  constructor
  ·intro q
   exact ⟨l[j],List.mem_take_iff_getElem.2 ⟨j,by omega,rfl⟩,hfj⟩
  ·rintro ⟨x,hx,hfx⟩
   obtain ⟨i,hi,rfl⟩:=List.mem_take_iff_getElem.1 hx
   rcases Nat.lt_or_ge i j with q|q
   ·exact absurd hfx (by simpa using hn i q)
   ·omega
def lk0 (s:Sc) (k:Nat):Int:=if zR s[k]!.name=false then 1 else if aFX s k=true then 5 else 0
def lk1 (t:Tb):Int:=if t.cols.length<1\/t.cols.length>16\/t.checks.length>16\/t.unique.length>16\/t.foreign.length>16\/t.sums.length>16 then 2 else 0
def lk2 (t:Tb):Int:=eI (akU t) t.cols.length
def lk3 (t:Tb):Int:=if mA t.cols[0]! =false\/t.cols[0]!.null=true then 6 else 0
def lk4 (t:Tb):Int:=eI (aiF t) t.unique.length
def lk5 (m:Nat) (t:Tb):Int:=eI (anY m t) t.foreign.length
def lk6 (t:Tb):Int:=eI (ajY t) t.sums.length
def lks (s:Sc) (k:Nat):List Int:=[lk0 s k,lk1 s[k]!,lk2 s[k]!,lk3 s[k]!,lk4 s[k]!,lk5 s.length s[k]!,lk6 s[k]!]
def aoG (s:Sc) (k:Nat):Int:=orI (lks s k)
def cM (s:Sc):Int:=if s.length<1\/s.length>16 then 2 else eI (aoG s) s.length
structure TbB (t:Tb):Prop where
 c:t.cols.length<200000000000000
 u:t.unique.length<200000000000000
 k:t.checks.length<200000000000000
 f:t.foreign.length<200000000000000
 s:t.sums.length<200000000000000
theorem aAo (s:Sc) (k:Nat) (hl:s.length<200000000000000) (hk:k<s.length):PF Tryz.prog 161 [.agg (scC s),(.val (.int .i64 ((k:Nat))))] (.val (.int .i64 (lk0 s k))):=by
 have hn:=adR s[k].name
 have ht:=apG s s[k].name hl
 have hd:=aCR (f:=λt:Tb=>decide (t.name=s[k].name)) hk (decide_eq_true rfl)
 change decide (max (atU s s[k].name) 0<(k:Nat))=_ at hd
 have e:lk0 s k=if zR s[k].name=false then 1 else if ((s.take k).any λt=>decide (t.name=s[k].name))=true then 5 else 0:=by unfold lk0 aFX;rw [getElem!_pos s k hk]
 rw [e,<-hd]
 generalize zR s[k].name=N at*
 generalize atU s s[k].name=R at*
 refine aG aF Tryz.func161 (by kernel_rfl) rfl rfl rfl rfl (λst=> ?_)
 (try apply wO pk;rfl);(repeat' first|show Cn _;constructor|apply wC pk;rfl;rfl|apply wE pk;rfl;rfl|apply wD pk [] [];kernel_rfl;rfl;rfl|refine aB rfl ?_ ?_<;>intro h<;>(try simp at h)<;>try omega|(refine aC ?_;refine ⟨_,_,_,rfl,zwr _,zsr _, ?_,rfl⟩;try first|rfl|(congr 2;grind);done)|(apply aH;rfl;rfl;rfl;(intro _;(first|apply hn|apply ht)<;>first|assumption|omega);rotate_left;rfl;rfl)|apply aP pk;(iterate 6 rfl);rotate_left;rfl;(intro hw;rfl);(intro hw;apply aJ<;>omega);(intro _;rfl);rfl)
theorem aA9 (s:Sc) (k:Nat) (hk:k<s.length) (hB:TbB s[k]):PF Tryz.prog 164 [.agg (scC s),(.val (.int .i64 ((k:Nat))))] (.val (.int .i64 (lk1 s[k]!))):=by
 rw [getElem!_pos s k hk]
 obtain ⟨b1,b2,b3,b4,b5⟩:=hB
 unfold lk1
 refine aG aF Tryz.func164 (by kernel_rfl) rfl rfl rfl rfl (λst=> ?_)
 (try apply wO pk;rfl);(repeat' first|show Cn _;constructor|apply wC pk;rfl;rfl|apply wE pk;rfl;rfl|refine aB rfl ?_ ?_<;>intro h<;>(try simp at h)<;>try omega|(refine aC ?_;refine ⟨_,_,_,rfl,zwr _,zsr _, ?_,rfl⟩;try first|rfl|(first|rw [zp (by omega)];done|rw [zn (by omega)];done);done)|apply aP pk;(iterate 6 rfl);rotate_left;rfl;(intro hw;rfl);(intro hw;apply aJ<;>omega);(intro _;rfl);rfl|apply aHe;(iterate 6 rfl);rotate_left;rfl;rfl)
theorem ayM (s:Sc) (k:Nat) (hk:k<s.length) (hB:TbB s[k]):PF Tryz.prog 165 [.agg (scC s),(.val (.int .i64 ((k:Nat))))] (.val (.int .i64 (lk2 s[k]!))):=by
 rw [getElem!_pos s k hk]
 have h:=afF s[k] hB.c
 change PF _ _ _ (PV.val (Value.int .i64 (lk2 s[k]))) at h
 refine aG aF Tryz.func165 (by kernel_rfl) rfl rfl rfl rfl (λst=> ?_)
 (try apply wO pk;rfl);(repeat' first|show Cn _;constructor|apply wE pk;rfl;rfl|(refine aC ?_;refine ⟨_,_,_,rfl,zwr _,zsr _, ?_,rfl⟩;try first|rfl|rfl;done)|(apply aH;rfl;rfl;rfl;(intro _;apply h<;>first|assumption|omega);rotate_left;rfl;rfl)|apply aP pk;(iterate 6 rfl);rotate_left;rfl;(intro hw;rfl);(intro hw;apply aJ<;>omega);(intro _;rfl);rfl)
theorem aAG (s:Sc) (k:Nat) (hk:k<s.length) (hc:0<s[k].cols.length):PF Tryz.prog 167 [.agg (scC s),(.val (.int .i64 ((k:Nat))))] (.val (.int .i64 (lk3 s[k]!))):=by
 rw [getElem!_pos s k hk]
 unfold lk3
 rw [getElem!_pos s[k].cols 0 hc]
 have h:=eC s[k].cols[0]
 generalize mA s[k].cols[0]=N at*
 refine aG aF Tryz.func167 (by kernel_rfl) rfl rfl rfl rfl (λst=> ?_)
 (try apply wO pk;rfl);(repeat' first|show Cn _;constructor|apply wC pk;rfl;rfl|apply wE pk;rfl;rfl|refine aB rfl ?_ ?_<;>intro h<;>(try simp at h)<;>try omega|(refine aC ?_;refine ⟨_,_,_,rfl,zwr _,zsr _, ?_,rfl⟩;try first|rfl|(congr 2;grind);done)|(apply aH;rfl;rfl;rfl;(intro _;apply h<;>first|assumption|omega);rotate_left;rfl;rfl)|apply aP pk;(iterate 6 rfl);rotate_left;rfl;(intro hw;rfl);(intro hw;apply aJ<;>omega);(intro _;rfl);rfl)
theorem aBr (s:Sc) (k:Nat) (hk:k<s.length) (hB:TbB s[k]):PF Tryz.prog 169 [.agg (scC s),(.val (.int .i64 ((k:Nat))))] (.val (.int .i64 (lk4 s[k]!))):=by
 rw [getElem!_pos s k hk]
 have h:=afO s[k] hB.c hB.u
 change PF _ _ _ (PV.val (Value.int .i64 (lk4 s[k]))) at h
 refine aG aF Tryz.func169 (by kernel_rfl) rfl rfl rfl rfl (λst=> ?_)
 (try apply wO pk;rfl);(repeat' first|show Cn _;constructor|apply wE pk;rfl;rfl|(refine aC ?_;refine ⟨_,_,_,rfl,zwr _,zsr _, ?_,rfl⟩;try first|rfl|rfl;done)|(apply aH;rfl;rfl;rfl;(intro _;apply h<;>first|assumption|omega);rotate_left;rfl;rfl)|apply aP pk;(iterate 6 rfl);rotate_left;rfl;(intro hw;rfl);(intro hw;apply aJ<;>omega);(intro _;rfl);rfl)
theorem aBc (s:Sc) (k:Nat) (hk:k<s.length) (hB:TbB s[k]):PF Tryz.prog 171 [.agg (scC s),(.val (.int .i64 ((k:Nat))))] (.val (.int .i64 (lk5 s.length s[k]!))):=by
 rw [getElem!_pos s k hk]
 have h:=acA s s[k] hB.c hB.f
 change PF _ _ _ (PV.val (Value.int .i64 (lk5 s.length s[k]))) at h
 refine aG aF Tryz.func171 (by kernel_rfl) rfl rfl rfl rfl (λst=> ?_)
 (try apply wO pk;rfl);(repeat' first|show Cn _;constructor|apply wE pk;rfl;rfl|apply wD pk [] [];kernel_rfl;rfl;rfl|(refine aC ?_;refine ⟨_,_,_,rfl,zwr _,zsr _, ?_,rfl⟩;try first|rfl|rfl;done)|(apply aH;rfl;rfl;rfl;(intro _;apply h<;>first|assumption|omega);rotate_left;rfl;rfl)|apply aP pk;(iterate 6 rfl);rotate_left;rfl;(intro hw;rfl);(intro hw;apply aJ<;>omega);(intro _;rfl);rfl)
theorem ayH (s:Sc) (k:Nat) (hk:k<s.length) (hB:TbB s[k]):PF Tryz.prog 173 [.agg (scC s),(.val (.int .i64 ((k:Nat))))] (.val (.int .i64 (lk6 s[k]!))):=by
 rw [getElem!_pos s k hk]
 have h:=auF s[k] hB.c hB.s
 change PF _ _ _ (PV.val (Value.int .i64 (lk6 s[k]))) at h
 refine aG aF Tryz.func173 (by kernel_rfl) rfl rfl rfl rfl (λst=> ?_)
 (try apply wO pk;rfl);(repeat' first|show Cn _;constructor|apply wE pk;rfl;rfl|(refine aC ?_;refine ⟨_,_,_,rfl,zwr _,zsr _, ?_,rfl⟩;try first|rfl|rfl;done)|(apply aH;rfl;rfl;rfl;(intro _;apply h<;>first|assumption|omega);rotate_left;rfl;rfl)|apply aP pk;(iterate 6 rfl);rotate_left;rfl;(intro hw;rfl);(intro hw;apply aJ<;>omega);(intro _;rfl);rfl)
def looksF :List FuncId:=[161,164,165,167,169,171,173]
theorem amM :PF Tryz.prog 102 [] (.seq (looksF.map λf=>[.fn f []])):=by
 refine aG aF Tryz.func102 (by kernel_rfl) rfl rfl rfl rfl (λst=> ?_)
 (try apply wO pk;rfl);(repeat' first|show Cn _;constructor|(refine aC ?_;refine ⟨_,_,_,rfl,zwr _,zsr _, ?_,rfl⟩;try rfl))
theorem arC (s:Sc) (k:Nat):(lks s k).length=7:=rfl
theorem awV (s:Sc) (k y:Nat) (hl:s.length<200000000000000) (hk:k<s.length) (hB:TbB s[k]) (hy:y<7) (hz:∀j (h:j<y),(lks s k)[j]'(by rw [arC];omega)=0):PF Tryz.prog (looksF[y]'hy) [.agg (scC s),(.val (.int .i64 ((k:Nat))))] (.val (.int .i64 ((lks s k)[y]'hy))):=by
 rcases (show y=0\/y=1\/y=2\/y=3\/y=4\/y=5\/y=6 by omega) with rfl|rfl|rfl|rfl|rfl|rfl|rfl
 ·exact aAo s k hl hk
 ·exact aA9 s k hk hB
 ·exact ayM s k hk hB
 ·have h1:lk1 s[k]! =0:=hz 1 (by omega)
  rw [getElem!_pos s k hk] at h1
  have:0<s[k].cols.length:=by
   unfold lk1 at h1
   split at h1
   ·omega
   ·omega
  exact aAG s k hk this
 ·exact aBr s k hk hB
 ·exact aBc s k hk hB
 ·exact ayH s k hk hB
theorem wR (s:Sc) (hl:s.length<200000000000000) (hB:∀t∈s,TbB t):PF Tryz.prog 54 [.agg (scC s)] (.val (.int .i64 (cM s))):=by
 have hlk:=amM
 unfold cM
 by_cases h16:s.length<1\/s.length>16
 ·rw [zp h16]
  refine aG aF Tryz.func54 (by kernel_rfl) rfl rfl rfl rfl (λst=> ?_)
  (try apply wO pk;rfl);(repeat' first|(refine acY (λ_ _ h=>h) ?_)|show Cn _;constructor|apply wC pk;rfl;rfl|refine aB rfl ?_ ?_<;>intro h<;>(try simp at h)<;>try omega|(refine aC ?_;refine ⟨_,_,_,rfl,zwr _,zsr _, ?_,rfl⟩;try first|rfl|(exfalso;simp at*;omega);done))
 rw [zn h16]
 refine aG aF Tryz.func54 (by kernel_rfl) rfl rfl rfl rfl (λst=> ?_)
 (try apply wO pk;rfl);(repeat' first|(refine acY (λ_ _ h=>h) ?_)|(refine avW ?_)|show Cn _;constructor|apply wC pk;rfl;rfl|refine aB rfl ?_ ?_<;>intro h<;>(try simp at h)<;>try omega)
 refine aK (X:={x:Nat//x<=s.length/\∀j<x,aoG s j=0}) (λi=>(((((St.nil 39 st).var 1 24 ((scC s))).pv 3 ((PV.val (Value.int .i64 (0))))).pv 19 ((PV.val (Value.int .i64 (((s.map Tb.cells).length:Nat)))))).pv 20 ((PV.val (Value.int .i64 ((i.1:Nat))))))) (λi=>s.length-i.1) ⟨0,by omega,by omega⟩ ?_ (λi=> ?_)
 ·((repeat (first|refine Sub.pv ?_ rfl|refine Sub.var ?_ rfl rfl));exact Sub.nil _ _ _ (zsr _) rfl)
 obtain ⟨i,hi,hI⟩:=i
 dsimp only
 by_cases hend:s.length<=i
 ·rw [ajQ (f:=aoG s) (n:=s.length) λj hj=>hI j (by omega)]
  (try apply wO pk;rfl);(repeat' first|show Cn _;constructor|apply wC pk;rfl;rfl|refine aB rfl ?_ ?_<;>intro h<;>(try simp at h)<;>try omega|(refine aC ?_;refine ⟨_,_,_,rfl,zwr _,zsr _, ?_,rfl⟩;try first|rfl|(exfalso;omega);done))
 have hil:i<s.length:=by omega
 have hBi:=hB s[i] (zgm hil)
 (try apply wO pk;rfl);(repeat' first|show Cn _;constructor|apply wC pk;rfl;rfl|apply wE pk;rfl;rfl|refine aB rfl ?_ ?_<;>intro h<;>(try simp at h)<;>try omega|(apply aH;rfl;rfl;rfl;(intro _;apply hlk<;>first|assumption|omega);rotate_left;rfl;rfl))
 refine aK (X:={x:Nat//x<=7/\∀j (h:j<x) (h7:j<7),(lks s i)[j]'h7=0}) (λy=>(((((((((St.nil 39 st).var 1 24 ((scC s))).pv 3 ((PV.val (Value.int .i64 (0))))).pv 4 ((PV.val (Value.int .i64 ((i:Nat)))))).pv 19 ((PV.val (Value.int .i64 (((s.map Tb.cells).length:Nat)))))).pv 20 ((PV.val (Value.int .i64 ((i:Nat)))))).pv 23 (.seq (looksF.map λf=>[.fn f []]))).pv 24 ((PV.val (Value.int .i64 ((7:Nat)))))).pv 25 ((PV.val (Value.int .i64 ((y.1:Nat))))))) (λy=>7-y.1) ⟨0,by omega,by omega⟩ ?_ (λy=> ?_)
 ·((repeat (first|refine Sub.pv ?_ rfl|refine Sub.var ?_ rfl rfl));exact Sub.nil _ _ _ (zsr _) rfl)
 obtain ⟨y,hy,hyI⟩:=y
 dsimp only
 by_cases hend2:7<=y
 ·have e:aoG s i=0:=by
   unfold aoG
   refine axX λx hx=> ?_
   obtain ⟨j,hj,rfl⟩:=zgo hx
   exact hyI j (by rw [arC] at hj;omega) hj
  (try apply wO pk;rfl);(repeat' first|show Cn _;constructor|apply wC pk;rfl;rfl|refine aB rfl ?_ ?_<;>intro h<;>(try simp at h)<;>try omega|(refine ⟨⟨i+1,by omega,λj hj=>by rcases zls.1 hj with q|q;exact hI j q;subst q;exact e⟩, ?_,by simp only;omega⟩;((repeat (first|refine Sub.pv ?_ rfl|refine Sub.var ?_ rfl rfl));exact Sub.nil _ _ _ (zsr _) rfl))|intros;(try simp only [zql]);omega)
 have hy7:y<7:=by omega
 have hc:=awV s i y hl hil hBi hy7 λj hj=>hyI j hj (by omega)
 have hF:(lks s i)[y]'hy7≠0->eI (aoG s) s.length=(lks s i)[y]'hy7:=λh=>by
  have e:aoG s i=(lks s i)[y]'hy7:=aAl (l:=lks s i) hy7 h λj hj h2=>hyI j hj h2
  rw [ajP hil (by rw [e];exact h) hI,e]
 have hS:(lks s i)[y]'hy7=0->∀j (h:j<y+1) (h7:j<7),(lks s i)[j]'h7=0:=λh j hj h7=>by
  rcases zls.1 hj with q|q
  ·exact hyI j q h7
  ·subst q;exact h
 generalize (lks s i)[y]'hy7=R at*
 have hrow:(looksF.map λf=>[PV.fn f []])[y]?=some [.fn (looksF[y]'hy7) []]:=aJ (f:=λf=>[PV.fn f []]) (l:=looksF) hy7
 generalize (looksF[y]'hy7)=F at*
 (try apply wO pk;rfl);(repeat' first|show Cn _;constructor|apply wC pk;rfl;rfl|apply wE pk;rfl;rfl|refine aB rfl ?_ ?_<;>intro h<;>(try simp at h)<;>try omega|(refine aC ?_;refine ⟨_,_,_,rfl,zwr _,zsr _, ?_,rfl⟩;try first|rfl|(rw [hF ‹_›]);done)|(apply aH;rfl;rfl;rfl;(intro _;apply hc<;>first|assumption|omega);rotate_left;rfl;rfl)|apply aP pk;(iterate 6 rfl);rotate_left;rfl;(intro hw;rfl);(intro hw;apply (λ_=>hrow)<;>omega);(intro _;rfl);rfl|(refine ⟨⟨y+1,by omega,hS ‹_›⟩, ?_,by simp only;omega⟩;((repeat (first|refine Sub.pv ?_ rfl|refine Sub.var ?_ rfl rfl|refine Sub.pv' ?_ rfl (by (first|rfl|simp only [show R=0 from by assumption]))));exact Sub.nil _ _ _ (zsr _) rfl))|intros;(try simp only [zql]);omega)
theorem avT (zs:List Int) {st:aI} {id n:Nat} (hst:st id=some (.arr 3 (zs.map I1))) (hn:zs.length=n) (h62:n<4611686018427387904):
  PC Tryz.prog 183 [.vec id 1 0 n] st λ_ S=>S=upd st id (some (.arr 3 ((zs.mergeSort λx y=>decide (x<=y)).map I1))):=
 aAh (P:=Tryz.prog) aG8 (by kernel_rfl) (by kernel_rfl) hst hn h62
theorem iL {st:aI} {id id':Nat} {o:AObj} (h:upd st id (some o) id'=none):st id'=none:=by
 by_cases e:id'=id
 ·subst e;rw [aA] at h;cases h
 ·rwa [aD e] at h
theorem vR :Tryz.prog.bytesOf 3=8:=by kernel_rfl
theorem amU (l:List Dt) (st:aI) (hl:l.length<1000000000000):PC Tryz.prog 255 [.seq (l.map Dt.cells)] st (LR 59 2 st (l.map Dt.cells)):=by
 refine cB aF Tryz.func255 (by kernel_rfl) rfl rfl rfl rfl ?_
 (try apply wO pk;rfl);(repeat' first|show Cn _;constructor|apply wC pk;rfl;rfl|apply wE pk;rfl;rfl|refine aB rfl ?_ ?_<;>intro h<;>(try simp at h)<;>try omega|((try refine aC ?_);((refine ⟨_,_,_,rfl,zwr _,zsr _, ?_⟩;((first|exact .inr ⟨rfl,hb h,zsr _⟩|exact .inl ⟨id',by rw [zql],hid',aA _ _ _,cY hid'⟩));done)))|(apply ap0 pk (f:=Dt.cells) l 16;(iterate 10 rfl);exact λ_=>rfl;exact λ_=>rfl;exact arS;(omega);(omega);rfl;intro id' hid')|(apply aAe pk;(iterate 6 rfl);intro b hb))
theorem adI (l:List Dt) (st:aI) (hl:l.length<1000000000000):PC Tryz.prog 255 [.seq (l.map Dt.cells)] st λp S=>∃id,p= .vec id 2 0 l.length/\st id=none/\S=upd st id (some (.arr 59 (l.map Dt.cells))):=
 vS (aaI (amU l st hl)) λp st' ⟨id,h1,h2,h3⟩=>⟨p,st',zwr _,zsr _,id,by rw [h1,zql],h2,h3⟩
def cG (xs:List Dt) (i:Nat) (ys:List Dt):List Dt:=xs.take i++ys++xs.drop i
theorem akA (xs:List Dt) (i:Nat) (ys:List Dt):(cG xs i ys).map Dt.cells=(xs.map Dt.cells).take i++ys.map Dt.cells++(xs.map Dt.cells).drop i:=by
 unfold cG
 rw [List.map_append,List.map_append,List.map_take,List.map_drop]
theorem qH {xs:List Dt} {i:Nat} {ys:List Dt} (hi:i<=xs.length):(cG xs i ys).length=xs.length+ys.length:=by
 unfold cG
 simp only [zla,zlt,zld];omega
def aAv (st:aI) (id:Nat) (zs:List Dt) (r:PV) (S:aI):Prop:=∃id',r= .vec id' 2 0 zs.length/\upd st id none id'=none/\S=upd (upd st id none) id' (some (.arr 59 (zs.map Dt.cells)))
theorem ajA (xs ys:List Dt) (i id n:Nat) (st:aI) (hst:st id=some (.arr 59 (xs.map Dt.cells))) (hn:xs.length=n) (hi:i<=n) (hy:ys≠[]) (hl:n+ys.length<1000000000000):PC Tryz.prog 254 [.vec id 2 0 n,(.val (.int .i64 ((i:Nat)))), .seq (ys.map Dt.cells)] st (aAv st id (cG xs i ys)):=by
 obtain ⟨m,hm⟩:∃m,ys.length=m:=⟨_,rfl⟩
 have hln:(ys.map Dt.cells).length=m:=(zql _).trans hm
 have hm0:0<m:=by rw [<-hm];exact List.length_pos_iff.2 hy
 rw [hm] at hl
 have hzl:(cG xs i ys).length=n+m:=by rw [qH (by omega),hn,hm]
 have hzm:=akA xs i ys
 have hB:=arS
 refine cB aF Tryz.func254 (by kernel_rfl) rfl rfl rfl rfl ?_
 by_cases hin:i=n
 ·subst hin
  have hz:cG xs i ys=xs++ys:=by unfold cG;rw [ztl (by omega),List.drop_of_length_le (by omega),List.append_nil]
  (try apply wO pk;rfl);(repeat' first|exact absurd (show ys=[] by assumption) hy|show Cn _;constructor|apply wC pk;rfl;rfl|apply wE pk;rfl;rfl|refine aB rfl ?_ ?_<;>intro h<;>(try simp at h)<;>try omega|(try refine aC ?_);((refine ⟨_,_,_,rfl,zwr _,zsr _, ?_⟩;(exact ⟨id',(by rw [hzl,hm]),jB hid',(by rw [hz];rfl)⟩);done))|(apply apV pk (f:=Dt.cells) ys 16;(iterate 9 rfl);(assumption);(omega);exact λ_=>rfl;exact λ_=>rfl;exact hB;(omega);(omega);rfl;intro id' hid')|apply asD pk i i;(iterate 4 rfl);rotate_left;rfl;(intro _;exact aU rfl rfl);(intro _;exact bE);(intro _;omega);(intro _;omega);rfl)
 have hlt:i<n:=by omega
 have hxl:(xs.map Dt.cells).length=n:=(zql _).trans hn
 have hX1:∀r∈xs.map Dt.cells,r.all PV.one=true:=λr hr=>by obtain ⟨a,_,rfl⟩:=List.mem_map.1 hr;rfl
 have hX3:∀r∈xs.map Dt.cells,r.length=2:=λr hr=>by obtain ⟨a,_,rfl⟩:=List.mem_map.1 hr;rfl
 have hY1:∀r∈ys.map Dt.cells,r.all PV.one=true:=λr hr=>by obtain ⟨a,_,rfl⟩:=List.mem_map.1 hr;rfl
 have hY3:∀r∈ys.map Dt.cells,r.length=2:=λr hr=>by obtain ⟨a,_,rfl⟩:=List.mem_map.1 hr;rfl
 have hj:∀k,(xs.map Dt.cells++aZ k 2).length=n+k:=λk=>by rw [zla,hxl];unfold aZ;rw [List.length_replicate]
 generalize hXe:xs.map Dt.cells=X at*
 generalize hYe:ys.map Dt.cells=Y at*
 have hYn:Y≠[]:=λe=>by rw [e] at hln;simp at hln;omega
 obtain ⟨yc,ycs,yr,hYc⟩:∃c cs rest,Y=(c::cs)::rest:=by
  cases hY0:Y with
  |nil=>exact absurd hY0 hYn
  |cons a b=>
   cases ha:a with
   |nil=>have:=hY3 a (by rw [hY0];simp);rw [ha] at this;cases this
   |cons c cs=>exact ⟨c,cs,b,rfl⟩
 refine sQ 0 m (id:=id) (rows:=X) rfl hst uH hxl (by omega) (by omega) (λk id1 hk hid1=> ?_) (λid1 hid1=> ?_)
 ·have hid1:st id1=none:=hid1
  have htk:(X++aZ k 2).take i=X.take i:=List.take_append_of_le_length (by omega)
  have hgl:(X.take i++aZ (n+m-i) 2).length=n+m:=by rw [zla,zlt];unfold aZ;rw [List.length_replicate];omega
  have hg2:(aV (X.take i++aZ (n+m-i) 2) i Y).length=n+m:=by rw [dZ (by omega),hgl]
  have hgr:aV (aV (X.take i++aZ (n+m-i) 2) i Y) (i+m) (X.drop i)=(cG xs i ys).map Dt.cells:=by rw [hzm];rw [<-hxl];exact sZ hln (by omega)
  (try apply wO pk;rfl);(repeat' first|exact absurd (show Y=[] by assumption) hYn|(refine aC ?_;refine ⟨_,_,upd (upd st id none) id2 (some (.arr 59 ((cG xs i ys).map Dt.cells))),rfl,zwr _,nH (by rw [hgr]) hid1,id2,(by rw [hzl];congr 1;omega),lR hid2,rfl⟩)|apply wD pk [8] [];kernel_rfl;rfl;rfl|show Cn _;constructor|apply wC pk;rfl;rfl|apply wE pk;rfl;rfl|refine aB rfl ?_ ?_<;>intro h<;>(try simp at h)<;>try omega|(refine ahK pk (rows:=X++aZ k 2) rfl rfl rfl rfl (.inr (aA _ _ _)) (by rw [hj];omega) rfl (λc hc1 hc2=> ?_);have hc3:=hc2 (aA _ _ _);rw [hj] at hc3)|apply xF pk (j:=i) (rows:=X++aZ k 2);(iterate 4 rfl);rotate_left;rfl;rfl;exact .inr (aA _ _ _);(rw [hj];omega);exact aU rfl rfl;(rw [hj];omega)|(refine apZ pk (kq:= .i64) (kn:= .i64) (i:=i) (m:=n+m-i) (sz:=2) (rows:=X++aZ k 2) 16 rfl (congrArg (λz=>some (PV.val (.int .i64 z))) (show _=((n+m-i:Nat):Int) from by omega)) rfl (by kernel_rfl) rfl rfl rfl rfl (aA _ _ _) (by rw [hj];omega) (by rw [hj];omega) (by rw [hj];omega) hB (by omega) (by omega) (by omega) rfl (λid2 hid2=> ?_);rw [htk];have hne:id1≠id2:=(λe=>by rw [<-e] at hid2;have hid2:=(aA _ _ _).symm.trans hid2;cases hid2))|apply eO pk (i) (n+m-i);(iterate 4 rfl);rotate_left;rfl;(intro _;exact ⟨_,aU rfl rfl,by omega⟩);(intro _;exact ⟨_,bE,by omega⟩);(intro _;omega);(intro _;omega);rfl|apply eO pk (i+m) (n-i);(iterate 4 rfl);rotate_left;rfl;(intro _;exact ⟨_,aU rfl (show _=((i+m:Nat):Int) from by omega),by omega⟩);(intro _;exact ⟨_,bE,by omega⟩);(intro _;omega);(intro _;omega);rfl|apply eO pk (i) (n-i);(iterate 4 rfl);rotate_left;rfl;(intro _;exact ⟨_,aU rfl rfl,by omega⟩);(intro _;exact ⟨_,bE,by omega⟩);(intro _;omega);(intro _;omega);rfl|(refine jK pk (e:=59) (sz:=2) (rows:=X.take i++aZ (n+m-i) 2) (new:=Y) (m:=Y.length) (n:=Y.length) (len:=n+m-i) rfl rfl rfl rfl rfl (aA _ _ _) (by omega) (qF aF rfl rfl rfl hY3 hY1) rfl hY3 (by omega) (by omega) rfl ?_)|(refine jK pk (e:=59) (sz:=2) (rows:=aV (X.take i++aZ (n+m-i) 2) i Y) (new:=X.drop i) (m:=n-i) (n:=n-i) (len:=n-i) rfl rfl rfl rfl rfl (aA _ _ _) (by omega) (lQ (k:=k) rfl (.inr ((aD ‹_›).trans ((aD ‹_›).trans (aA _ _ _)))) hxl (by omega) uH hX1 (by omega) (by omega)) (by rw [zld];omega) (λr hr=>hX3 r (List.mem_of_mem_drop hr)) (by omega) (by omega) rfl ?_)|intros;(try simp only [zql]);omega)
 ·have hid1:st id1=none:=hid1
  have hg2:(aV (X++aZ m 2) (i+m) (X.drop i)).length=n+m:=by rw [dZ (by rw [zld,hj];omega),hj]
  have hgr:aV (aV (X++aZ m 2) (i+m) (X.drop i)) i Y=(cG xs i ys).map Dt.cells:=by rw [hzm];exact tW hln (by omega)
  (try apply wO pk;rfl);(repeat' first|exact absurd (show Y=[] by assumption) hYn|(refine aC ?_;refine ⟨_,_,upd (upd st id none) id1 (some (.arr 59 ((cG xs i ys).map Dt.cells))),rfl,zwr _,nG (by rw [hgr]),id1,(by rw [hzl]),jB hid1,rfl⟩)|apply wD pk [8] [];kernel_rfl;rfl;rfl|show Cn _;constructor|apply wC pk;rfl;rfl|apply wE pk;rfl;rfl|refine aB rfl ?_ ?_<;>intro h<;>(try simp at h)<;>try omega|apply eO pk (i) (n-i);(iterate 4 rfl);rotate_left;rfl;(intro _;exact ⟨_,aU rfl rfl,by omega⟩);(intro _;exact ⟨_,bE,by omega⟩);(intro _;omega);(intro _;omega);rfl|apply eO pk (i) (n+m-i);(iterate 4 rfl);rotate_left;rfl;(intro _;exact ⟨_,aU rfl rfl,by omega⟩);(intro _;exact ⟨_,bE,by omega⟩);(intro _;omega);(intro _;omega);rfl|apply eO pk (i+m) (n-i);(iterate 4 rfl);rotate_left;rfl;(intro _;exact ⟨_,aU rfl (show _=((i+m:Nat):Int) from by omega),by omega⟩);(intro _;exact ⟨_,bE,by omega⟩);(intro _;omega);(intro _;omega);rfl|(refine ahK pk (rows:=X++aZ m 2) rfl rfl rfl rfl (.inl (aA _ _ _)) (by rw [hj];omega) rfl (λc hc1 hc2=> ?_);rw [hj] at hc1)|apply xF pk (j:=n+m) (rows:=X++aZ m 2);(iterate 4 rfl);rotate_left;rfl;rfl;exact .inl (aA _ _ _);(rw [hj];omega);exact aU rfl (show _=((n+m:Nat):Int) from by omega);(rw [hj];omega)|(refine ovA pk (w:=true) (tS:=37) (tR:=4) (off:=i+m) (len:=n-i) (e:=59) (sz:=2) (rows:=X++aZ m 2) rfl rfl Tryz.func323 (by kernel_rfl) (by kernel_rfl) (by kernel_rfl) (by kernel_rfl) rfl rfl rfl hYc rfl (.inl (aA _ _ _)) (by rw [hj];omega) uH (by omega) ?_ rfl rfl ?_;rotate_left)|(refine jK pk (e:=59) (sz:=2) (rows:=X++aZ m 2) (new:=X.drop i) (m:=n+m-i) (n:=n-i) (len:=n-i) rfl rfl rfl rfl rfl (aA _ _ _) (by rw [hj];omega) (lQ (k:=m) rfl (.inl (aA _ _ _)) hxl (by omega) uH hX1 (by omega) (by omega)) (by rw [zld];omega) (λr hr=>hX3 r (List.mem_of_mem_drop hr)) (by omega) (by omega) rfl ?_)|(refine jK pk (e:=59) (sz:=2) (rows:=aV (X++aZ m 2) (i+m) (X.drop i)) (new:=Y) (m:=Y.length) (n:=Y.length) (len:=n+m-i) rfl rfl rfl rfl rfl (aA _ _ _) (by omega) (qF aF rfl rfl rfl hY3 hY1) rfl hY3 (by omega) (by omega) rfl ?_)|intros;(try simp only [zql]);omega)
theorem aDn (xs ys:List Dt) (i id n:Nat) (z:Int) (st:aI) (hst:st id=some (.arr 59 (xs.map Dt.cells))) (hn:xs.length=n) (hz:z=((i:Nat):Int)) (hi:i<=n) (hy:ys≠[]) (hl:n+ys.length<1000000000000):PC Tryz.prog 254 [.vec id 2 0 n,(.val (.int .i64 z)), .seq (ys.map Dt.cells)] st (aAv st id (cG xs i ys)):=by
 subst hz;exact ajA xs ys i id n st hst hn hi hy hl
theorem gR {st:aI} {id id2:Nat} {o:Option AObj} (hid:st id=none) (h:upd (upd st id o) id none id2=none):st id2=none:=by
 by_cases e:id2=id
 ·rw [e];exact hid
 ·rwa [aD e,aD e] at h
theorem mH {st:aI} {id id2:Nat} {o b:Option AObj} (hid:st id=none):StSub (upd st id2 b) (upd (upd (upd st id o) id none) id2 b):=λj=>by
 by_cases e:j=id2
 ·subst e;right;rw [aA,aA]
 ·rw [aD e,aD e]
  by_cases e2:j=id
  ·subst e2;left;exact hid
  ·right;rw [aD e2,aD e2]
theorem ahO (x d:Dt):PF Tryz.prog 253 [.agg x.cells, .rp d.cells] (.val (.bool (bH x d))):=by
 refine aG aF Tryz.func253 (by kernel_rfl) rfl rfl rfl rfl (λst=> ?_)
 (try apply wO pk;rfl);(repeat' first|show Cn _;constructor|apply wE pk;rfl;rfl|(refine aC ?_;refine ⟨_,_,_,rfl,zwr _,zsr _, ?_,rfl⟩;try first|rfl|(rw [<-aqG]);done)|(apply aH;rfl;rfl;rfl;(intro _;apply (aiV x d)<;>first|assumption|omega);rotate_left;rfl;rfl))
def fQ (l:List Dt) (d:Dt):Nat:=(l.findIdx? λx=>bH x d).getD l.length
theorem alI (l:List Dt) (d:Dt):fQ l d<=l.length:=by
 unfold fQ
 cases h:l.findIdx? λx=>bH x d with
 |none=>exact Nat.le_refl _
 |some k=>exact Nat.le_of_lt (List.findIdx?_eq_some_iff_getElem.1 h).1
def dE (a:Ln) (d:Dt):Ln:=if d∈a.by_ then a else {a with by_:=cG a.by_ (fQ a.by_ d) [d]}
theorem aBI (a:Ln) (d:Dt) (st:aI) (hl:a.by_.length<100000000000):PC Tryz.prog 160 [.agg a.cells, .agg d.cells] st λr S=>(r= .agg a.cells/\S=st/\d∈a.by_)\/(d∉a.by_/\∃id,r= .agg [(.val (.int .i64 a.key)), .seq (a.cells_.map Cl.cells), .vec id 2 0 (cG a.by_ (fQ a.by_ d) [d]).length]/\st id=none/\S=upd st id (some (.arr 59 ((cG a.by_ (fQ a.by_ d) [d]).map Dt.cells)))):=by
 have hc:=abR a.by_ d (by omega)
 have hi:=auE 253 [.rp d.cells] (λx=>bH x d) a.by_ (by omega) λx=>ahO x d
 have hmem:(a.by_.any λy=>decide (d=y))=decide (d∈a.by_):=by
  rw [Bool.eq_iff_iff,List.any_eq_true,zde]
  constructor
  ·rintro ⟨y,hy,e⟩;rw [of_decide_eq_true e];exact hy
  ·exact λh=>⟨d,h,decide_eq_true rfl⟩
 rw [hmem] at hc
 by_cases hd:d∈a.by_
 ·rw [decide_eq_true hd] at hc
  refine cB aF Tryz.func160 (by kernel_rfl) rfl rfl rfl rfl ?_
  (try apply wO pk;rfl);(repeat' first|show Cn _;constructor|apply wC pk;rfl;rfl|apply wE pk;rfl;rfl|refine aB rfl ?_ ?_<;>intro h<;>(try simp at h)<;>try omega|(try refine aC ?_);((refine ⟨_,_,_,rfl,zwr _,zsr _, ?_⟩;(exact .inl ⟨rfl,rfl,hd⟩);done))|(apply aH;rfl;rfl;rfl;(intro _;apply hc<;>first|assumption|omega);rotate_left;rfl;rfl))
 rw [decide_eq_false hd] at hc
 obtain ⟨k,hk⟩:∃k,fQ a.by_ d=k:=⟨_,rfl⟩
 have hkl:=alI a.by_ d
 rw [hk] at hkl⊢
 have hlen:(cG a.by_ k [d]).length=a.by_.length+1:=qH hkl
 rcases Nat.lt_or_ge k a.by_.length with hlt|hge
 ·have hii:cS (λx=>bH x d) a.by_=((k:Nat):Int):=by
   unfold cS
   unfold fQ at hk
   cases h:a.by_.findIdx? λx=>bH x d with
   |none=>rw [h] at hk;simp at hk;omega
   |some j=>rw [h] at hk;simp at hk;simp [hk]
  rw [hii] at hi
  refine cB aF Tryz.func160 (by kernel_rfl) rfl rfl rfl rfl ?_
  (try apply wO pk;rfl);(repeat' first|refine aC ?_;exact ⟨_,_,upd st id2 (some (.arr 59 ((cG a.by_ k [d]).map Dt.cells))),rfl,zwr _,mH hid, .inr ⟨hd,id2,rfl,gR hid hid2,rfl⟩⟩|apply wDO pk [0,1,3,4,5,2,6,7,8] [2,6] [] [5,6] [];rfl;rfl;kernel_rfl;rfl;rfl|show Cn _;constructor|apply wC pk;rfl;rfl|apply wE pk;rfl;rfl|refine aB rfl ?_ ?_<;>intro h<;>(try simp at h)<;>try omega|(apply aH;rfl;rfl;rfl;(intro _;(first|apply hc|apply hi)<;>first|assumption|omega);rotate_left;rfl;rfl)|(apply cD;rfl;rfl;(apply (adI a.by_ _ (by omega))<;>first|exact aA _ _ _|assumption|omega|(fail));rfl;rfl;rfl;intro _ st' hR;obtain ⟨id,rfl,hid,rfl⟩:=hR)|(apply cD;rfl;rfl;(apply (ajA a.by_ [d] k id a.by_.length _ (aA _ _ _) rfl (by omega) (by simp) (by simp;omega))<;>first|exact aA _ _ _|assumption|omega|(fail));rfl;rfl;rfl;intro _ st' hR;obtain ⟨id2,rfl,hid2,rfl⟩:=hR)|apply bD 3;rfl;rfl)
 ·obtain rfl:k=a.by_.length:=by omega
  have hii:cS (λx=>bH x d) a.by_= -1:=by
   unfold cS
   unfold fQ at hk
   cases h:a.by_.findIdx? λx=>bH x d with
   |none=>rfl
   |some j=>
    have:=(List.findIdx?_eq_some_iff_getElem.1 h).1
    rw [h] at hk;simp at hk;omega
  rw [hii] at hi
  refine cB aF Tryz.func160 (by kernel_rfl) rfl rfl rfl rfl ?_
  (try apply wO pk;rfl);(repeat' first|refine aC ?_;exact ⟨_,_,upd st id2 (some (.arr 59 ((cG a.by_ a.by_.length [d]).map Dt.cells))),rfl,zwr _,mH hid, .inr ⟨hd,id2,rfl,gR hid hid2,rfl⟩⟩|apply wDO pk [0,1,3,4,5,2,6,7,8] [2,6] [] [5,6] [];rfl;rfl;kernel_rfl;rfl;rfl|show Cn _;constructor|apply wC pk;rfl;rfl|apply wE pk;rfl;rfl|refine aB rfl ?_ ?_<;>intro h<;>(try simp at h)<;>try omega|(apply aH;rfl;rfl;rfl;(intro _;(first|apply hc|apply hi)<;>first|assumption|omega);rotate_left;rfl;rfl)|(apply cD;rfl;rfl;(apply (adI a.by_ _ (by omega))<;>first|exact aA _ _ _|assumption|omega|(fail));rfl;rfl;rfl;intro _ st' hR;obtain ⟨id,rfl,hid,rfl⟩:=hR)|(apply cD;rfl;rfl;(apply (aDn a.by_ [d] a.by_.length id a.by_.length _ _ (aA _ _ _) rfl (by simp) (by omega) (by simp) (by simp;omega))<;>first|exact aA _ _ _|assumption|omega|(fail));rfl;rfl;rfl;intro _ st' hR;obtain ⟨id2,rfl,hid2,rfl⟩:=hR)|apply bD 3;rfl;rfl)
theorem aaB (a:Ln) (d:Dt) (hl:a.by_.length<100000000000):PF Tryz.prog 160 [.agg a.cells, .agg d.cells] (.agg (dE a d).cells):=λst=>
 gN (sz:=2) (aBI a d st hl) λp st' h=>by
  rcases h with ⟨rfl,rfl,hd⟩|⟨hd,id,rfl,h3,rfl⟩
  ·exact .inr ⟨_,_,zwr _,zsr _,by rw [dE,zp hd],rfl⟩
  ·refine .inl ⟨id,59,(cG a.by_ (fQ a.by_ d) [d]).map Dt.cells,_,st,aA _ _ _,uH, .agg (.cons .refl (.cons .refl (.cons ?_ .nil))),cY h3,by rw [dE,zn hd];rfl,rfl⟩
   have e:((cG a.by_ (fQ a.by_ d) [d]).map Dt.cells).length=(cG a.by_ (fQ a.by_ d) [d]).length:=zql _
   rw [<-e];exact .all
end Go.Proofs.YtloecjjehapblaaGreatDoor
