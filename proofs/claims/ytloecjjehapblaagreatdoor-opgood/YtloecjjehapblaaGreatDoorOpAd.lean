import Derived.Test.YtloecjjehapblaaGreatDoorOpAc
set_option linter.unusedSimpArgs false
set_option linter.unusedVariables false
namespace Go.Proofs.YtloecjjehapblaaGreatDoor
open Go Go.Abs
attribute [local irreducible] Ev PWp
set_option maxRecDepth 10000
set_option maxHeartbeats 4000000
def lY (c:Co):Bool:=decide (c.kind=0)&&decide (c.type_=1)
def oF (t:Tb) (i:Int):Bool:=decide (i>=1)&&decide (i<t.cols.length)
def kP (t:Tb) (i:Int):Co:=t.cols[i.toNat]!
theorem dY (c:Co):PF Tryz.prog 168 [.agg c.cells] (PV.val (Value.bool (lY c))):=by
 refine aG aF Tryz.func168 (by kernel_rfl) rfl rfl rfl rfl (λst=> ?_)
 (try apply wO pk;rfl);(repeat' first|show All _;constructor|show Imp _ _;constructor|show ImpX _ _ _ _;constructor|(refine aC ?_;refine ⟨_,_,_,rfl,zwr _,zsr _, ?_,rfl⟩;try rfl))
theorem sF (t:Tb) (i:Int):PF Tryz.prog 265 [.agg t.cells,(PV.val (Value.int .i64 (i)))] (PV.val (Value.bool (oF t i))):=by
 refine aG aF Tryz.func265 (by kernel_rfl) rfl rfl rfl rfl (λst=> ?_)
 (try apply wO pk;rfl);(repeat' first|show All _;constructor|show Imp _ _;constructor|show ImpX _ _ _ _;constructor|(refine aC ?_;refine ⟨_,_,_,rfl,zwr _,zsr _, ?_,rfl⟩;try first|rfl|(rw [zql];rfl);done))
def arY (pre:List Co) (c:Co):Int:=if zR c.name=false\/c.kind<0\/c.kind>4 then 1 else if (pre.any λx=>decide (x.name=c.name))=true then 5 else if (c.type_≠1/\c.type_≠2)\/(¬(c.kind=0\/c.kind=1)/\¬(c.type_=2↔c.kind=4)) then 6 else if c.null=true/\¬(c.kind=0\/c.kind=1) then 1 else 0
def akT (t:Tb) (k:Nat):Int:=arY (t.cols.take k) t.cols[k]!
theorem aAg (x c:Co):PF Tryz.prog 262 [.agg x.cells, .rp c.cells] (PV.val (Value.bool (decide (x.name=c.name)))):=by
 refine aG aF Tryz.func262 (by kernel_rfl) rfl rfl rfl rfl (λst=> ?_)
 (try apply wO pk;rfl);(repeat' first|show All _;constructor|(refine aC ?_;refine ⟨_,_,_,rfl,zwr _,zsr _, ?_,rfl⟩;try rfl))
theorem aDT (t:Tb) (k:Nat) (hl:t.cols.length<200000000000000) (hk:k<t.cols.length):PF Tryz.prog 261 [(PV.val (Value.int .i64 ((k:Nat)))), .rp t.cells] (PV.val (Value.int .i64 (akT t k))):=by
 have hn:=adU t.cols[k].name
 have hc:=avV 262 [.rp t.cols[k].cells] (λx=>decide (x.name=t.cols[k].name)) (t.cols.take k) (by rw [zlt];omega) λp=>aAg p _
 have e:akT t k=arY (t.cols.take k) t.cols[k]:=by unfold akT;rw [getElem!_pos t.cols k hk]
 rw [e]
 unfold arY
 generalize zR t.cols[k].name=N at*
 generalize ((t.cols.take k).any λx=>decide (x.name=t.cols[k].name))=A at*
 have hE:(((t.cols.drop 0).take (k-0)).map Co.cells)=(t.cols.take k).map Co.cells:=by simp
 refine aG aF Tryz.func261 (by kernel_rfl) rfl rfl rfl rfl (λst=> ?_)
 (try apply wO pk;rfl);(repeat' first|show All _;constructor|show Imp _ _;constructor|show ImpX _ _ _ _;constructor|apply wC pk;rfl;rfl|apply wE pk;rfl;rfl|refine aA rfl ?_ ?_<;>intro h<;>(try simp at h)<;>try omega|(refine aC ?_;refine ⟨_,_,_,rfl,zwr _,zsr _, ?_,rfl⟩;try first|rfl|(congr 2;grind);done)|(apply aH;rfl;rfl;rfl;(intro _;(first|apply hn|apply hc)<;>first|assumption|omega);rotate_left;rfl;rfl)|apply aN pk;(iterate 6 rfl);rotate_left;rfl;(intro hw;rfl);(intro hw;apply aI<;>omega);(intro _;rfl);rfl|apply bC 4;rfl;rfl|apply slS pk (f:=Co.cells) (xs:=t.cols) 0 k;(iterate 5 rfl);rotate_left;rfl;(intro _;rfl);(intro _;exact bD);(intro _;exact aT rfl rfl);(intro _;omega);(intro _;omega);rfl;rw [hE])
theorem afM (t:Tb) (hl:t.cols.length<200000000000000):PF Tryz.prog 166 [.agg t.cells] (PV.val (Value.int .i64 (eI (akT t) t.cols.length))):=by
 have e:(t.cols.map Co.cells).length=t.cols.length:=zql _
 have h:=iA 261 [.rp t.cells] (akT t) (t.cols.map Co.cells).length (by omega) λk hk _=>aDT t k hl (by omega)
 rw [<-e]
 refine aG aF Tryz.func166 (by kernel_rfl) rfl rfl rfl rfl (λst=> ?_)
 (try apply wO pk;rfl);(repeat' first|show All _;constructor|show Imp _ _;constructor|apply wE pk;rfl;rfl|(refine aC ?_;refine ⟨_,_,_,rfl,zwr _,zsr _, ?_,rfl⟩;try first|rfl|rfl;done)|(apply aH;rfl;rfl;rfl;(intro _;apply h<;>first|assumption|omega);rotate_left;rfl;rfl)|apply bC 1;rfl;rfl)
theorem yE {t:Tb} {i:Int} (h:oF t i=true):∃j:Nat,i=j/\∃h:j<t.cols.length,kP t i=t.cols[j]:=by
 unfold oF at h
 simp only [zba,zde] at h
 refine ⟨i.toNat,by omega,by omega, ?_⟩
 unfold kP
 rw [getElem!_pos t.cols i.toNat (by omega)]
def akJ (h:Bool) (p:Bool) (n:Bool):Int:=if h=false then 4 else if p=true then 1 else if n=false then 6 else 0
def aiG (t:Tb) (k:Nat):Int:=akJ (oF t t.unique[k]!) (decide (0<k)&&decide (t.unique[k]!<=t.unique[k-1]!)) (lY (kP t t.unique[k]!))
theorem aCg (t:Tb) (k:Nat) (hl:t.cols.length<200000000000000) (hu:t.unique.length<200000000000000) (hk:k<t.unique.length):PF Tryz.prog 264 [(PV.val (Value.int .i64 ((k:Nat)))), .rp t.cells] (PV.val (Value.int .i64 (aiG t k))):=by
 have hh:=sF t t.unique[k]
 have e:aiG t k=akJ (oF t t.unique[k]) (decide (0<k)&&decide (t.unique[k]<=t.unique[k-1]'(by omega))) (lY (kP t t.unique[k])):=by
  unfold aiG;rw [getElem!_pos t.unique k hk,getElem!_pos t.unique (k-1) (by omega)]
 rw [e]
 unfold akJ
 cases hc:oF t t.unique[k] with
 |false=>
  rw [hc] at hh
  refine aG aF Tryz.func264 (by kernel_rfl) rfl rfl rfl rfl (λst=> ?_)
  (try apply wO pk;rfl);(repeat' first|show All _;constructor|show Imp _ _;constructor|apply wC pk;rfl;rfl|apply wE pk;rfl;rfl|refine aA rfl ?_ ?_<;>intro h<;>(try simp at h)<;>try omega|(refine aC ?_;refine ⟨_,_,_,rfl,zwr _,zsr _, ?_,rfl⟩;try rfl)|(apply aH;rfl;rfl;rfl;(intro _;apply hh<;>first|assumption|omega);rotate_left;rfl;rfl)|apply aN pk;(iterate 6 rfl);rotate_left;rfl;(intro hw;rfl);(intro hw;apply aI<;>omega);(intro _;rfl);rfl)
 |true=>
  rw [hc] at hh
  obtain ⟨j,hj,hjl,hj2⟩:=yE hc
  rw [hj2]
  have hnn:=dY t.cols[j]
  generalize lY t.cols[j]=N at*
  rcases Nat.eq_zero_or_pos k with rfl|hpos
  ·refine aG aF Tryz.func264 (by kernel_rfl) rfl rfl rfl rfl (λst=> ?_)
   (try apply wO pk;rfl);(repeat' first|show All _;constructor|show Imp _ _;constructor|show ImpX _ _ _ _;constructor|apply wC pk;rfl;rfl|apply wE pk;rfl;rfl|refine aA rfl ?_ ?_<;>intro h<;>(try simp at h)<;>try omega|(refine aC ?_;refine ⟨_,_,_,rfl,zwr _,zsr _, ?_,rfl⟩;try first|rfl|(congr 2;grind);done)|(apply aH;rfl;rfl;rfl;(intro _;(first|apply hh|apply hnn)<;>first|assumption|omega);rotate_left;rfl;rfl)|apply aN pk;(iterate 6 rfl);rotate_left;rfl;(intro hw;exact (by first|rfl|exact hj|exact (show _=((0:Nat):Int) from (tU hw).elim)));(intro hw;apply aI<;>omega);(intro _;rfl);rfl|intros;(try simp only [zql]);omega)
  ·obtain ⟨m,rfl⟩:∃m,k=m+1:=⟨k-1,by omega⟩
   refine aG aF Tryz.func264 (by kernel_rfl) rfl rfl rfl rfl (λst=> ?_)
   (try apply wO pk;rfl);(repeat' first|show All _;constructor|show Imp _ _;constructor|show ImpX _ _ _ _;constructor|apply wC pk;rfl;rfl|apply wE pk;rfl;rfl|refine aA rfl ?_ ?_<;>intro h<;>(try simp at h)<;>try omega|(refine aC ?_;refine ⟨_,_,_,rfl,zwr _,zsr _, ?_,rfl⟩;try first|rfl|(congr 2;grind);done)|(apply aH;rfl;rfl;rfl;(intro _;(first|apply hh|apply hnn)<;>first|assumption|omega);rotate_left;rfl;rfl)|apply aN pk;(iterate 6 rfl);rotate_left;rfl;(intro hw;exact (by first|rfl|exact hj|exact (show ((((m+1:Nat):Int))-1=((m:Nat):Int)) from by omega)));(intro hw;apply aI<;>omega);(intro _;rfl);rfl|intros;(try simp only [zql]);omega)
theorem afV (t:Tb) (hl:t.cols.length<200000000000000) (hu:t.unique.length<200000000000000):PF Tryz.prog 170 [.agg t.cells] (PV.val (Value.int .i64 (eI (aiG t) t.unique.length))):=by
 have e:(t.unique.map I1).length=t.unique.length:=zql _
 have h:=iA 264 [.rp t.cells] (aiG t) (t.unique.map I1).length (by omega) λk hk _=>aCg t k hl hu (by omega)
 rw [<-e]
 refine aG aF Tryz.func170 (by kernel_rfl) rfl rfl rfl rfl (λst=> ?_)
 (try apply wO pk;rfl);(repeat' first|show All _;constructor|show Imp _ _;constructor|apply wE pk;rfl;rfl|(refine aC ?_;refine ⟨_,_,_,rfl,zwr _,zsr _, ?_,rfl⟩;try first|rfl|rfl;done)|(apply aH;rfl;rfl;rfl;(intro _;apply h<;>first|assumption|omega);rotate_left;rfl;rfl)|apply bC 1;rfl;rfl)
def alO (h:Bool) (b:Bool) (p:Bool) (a:Bool) (n:Bool) (z:Bool):Int:=if h=false\/b=true then 4 else if p=true\/a=true then 1 else if n=false\/z=true then 6 else 0
def anU (m:Nat) (t:Tb) (k:Nat):Int:=alO (oF t t.foreign[k]!.col) (decide (t.foreign[k]!.table<0)||decide (t.foreign[k]!.table>=m)) (decide (0<k)&&decide (t.foreign[k]!.col<=t.foreign[k-1]!.col)) (decide (t.foreign[k]!.act<0)||decide (t.foreign[k]!.act>2)) (lY (kP t t.foreign[k]!.col)) (decide (t.foreign[k]!.act=2)&& !(kP t t.foreign[k]!.col).null)
theorem aCb (s:Sc) (t:Tb) (k:Nat) (hl:t.cols.length<200000000000000) (hu:t.foreign.length<200000000000000) (hk:k<t.foreign.length):PF Tryz.prog 266 [(PV.val (Value.int .i64 ((k:Nat)))), .rp t.cells, .rp (scC s)] (PV.val (Value.int .i64 (anU s.length t k))):=by
 have hh:=sF t t.foreign[k].col
 have e:anU s.length t k=alO (oF t t.foreign[k].col) (decide (t.foreign[k].table<0)||decide (t.foreign[k].table>=s.length)) (decide (0<k)&&decide (t.foreign[k].col<=(t.foreign[k-1]'(by omega)).col)) (decide (t.foreign[k].act<0)||decide (t.foreign[k].act>2)) (lY (kP t t.foreign[k].col)) (decide (t.foreign[k].act=2)&& !(kP t t.foreign[k].col).null):=by
  unfold anU;rw [getElem!_pos t.foreign k hk,getElem!_pos t.foreign (k-1) (by omega)]
 rw [e]
 unfold alO
 have el:(s.map Tb.cells).length=s.length:=zql _
 rw [<-el]
 cases hc:oF t t.foreign[k].col with
 |false=>
  rw [hc] at hh
  refine aG aF Tryz.func266 (by kernel_rfl) rfl rfl rfl rfl (λst=> ?_)
  (try apply wO pk;rfl);(repeat' first|show All _;constructor|show Imp _ _;constructor|show ImpX _ _ _ _;constructor|apply wC pk;rfl;rfl|apply wE pk;rfl;rfl|refine aA rfl ?_ ?_<;>intro h<;>(try simp at h)<;>try omega|(refine aC ?_;refine ⟨_,_,_,rfl,zwr _,zsr _, ?_,rfl⟩;try rfl)|(apply aH;rfl;rfl;rfl;(intro _;apply hh<;>first|assumption|omega);rotate_left;rfl;rfl)|apply aN pk;(iterate 6 rfl);rotate_left;rfl;(intro hw;rfl);(intro hw;apply aI<;>omega);(intro _;rfl);rfl)
 |true=>
  rw [hc] at hh
  obtain ⟨j,hj,hjl,hj2⟩:=yE hc
  rw [hj2]
  have hnn:=dY t.cols[j]
  generalize lY t.cols[j]=N at*
  rcases Nat.eq_zero_or_pos k with rfl|hpos
  ·refine aG aF Tryz.func266 (by kernel_rfl) rfl rfl rfl rfl (λst=> ?_)
   (try apply wO pk;rfl);(repeat' first|show All _;constructor|show Imp _ _;constructor|show ImpX _ _ _ _;constructor|apply wC pk;rfl;rfl|apply wE pk;rfl;rfl|apply wD pk [] [];kernel_rfl;rfl;rfl|refine aA rfl ?_ ?_<;>intro h<;>(try simp at h)<;>try omega|(refine aC ?_;refine ⟨_,_,_,rfl,zwr _,zsr _, ?_,rfl⟩;try first|rfl|(congr 2;grind);done)|(apply aH;rfl;rfl;rfl;(intro _;(first|apply hh|apply hnn)<;>first|assumption|omega);rotate_left;rfl;rfl)|apply aN pk;(iterate 6 rfl);rotate_left;rfl;(intro hw;exact (by first|rfl|exact hj|exact (show _=((0:Nat):Int) from (tU hw).elim)));(intro hw;apply aI<;>omega);(intro _;rfl);rfl|intros;(try simp only [zql]);omega)
  ·obtain ⟨m,rfl⟩:∃m,k=m+1:=⟨k-1,by omega⟩
   refine aG aF Tryz.func266 (by kernel_rfl) rfl rfl rfl rfl (λst=> ?_)
   (try apply wO pk;rfl);(repeat' first|show All _;constructor|show Imp _ _;constructor|show ImpX _ _ _ _;constructor|apply wC pk;rfl;rfl|apply wE pk;rfl;rfl|apply wD pk [] [];kernel_rfl;rfl;rfl|refine aA rfl ?_ ?_<;>intro h<;>(try simp at h)<;>try omega|(refine aC ?_;refine ⟨_,_,_,rfl,zwr _,zsr _, ?_,rfl⟩;try first|rfl|(congr 2;grind);done)|(apply aH;rfl;rfl;rfl;(intro _;(first|apply hh|apply hnn)<;>first|assumption|omega);rotate_left;rfl;rfl)|apply aN pk;(iterate 6 rfl);rotate_left;rfl;(intro hw;exact (by first|rfl|exact hj|exact (show ((((m+1:Nat):Int))-1=((m:Nat):Int)) from by omega)));(intro hw;apply aI<;>omega);(intro _;rfl);rfl|intros;(try simp only [zql]);omega)
theorem acE (s:Sc) (t:Tb) (hl:t.cols.length<200000000000000) (hu:t.foreign.length<200000000000000):PF Tryz.prog 172 [.agg (scC s), .agg t.cells] (PV.val (Value.int .i64 (eI (anU s.length t) t.foreign.length))):=by
 have e:(t.foreign.map Fr.cells).length=t.foreign.length:=zql _
 have h:=iA 266 [.rp t.cells, .rp (scC s)] (anU s.length t) (t.foreign.map Fr.cells).length (by omega) λk hk _=>aCb s t k hl hu (by omega)
 rw [<-e]
 refine aG aF Tryz.func172 (by kernel_rfl) rfl rfl rfl rfl (λst=> ?_)
 (try apply wO pk;rfl);(repeat' first|show All _;constructor|show Imp _ _;constructor|apply wE pk;rfl;rfl|(refine aC ?_;refine ⟨_,_,_,rfl,zwr _,zsr _, ?_,rfl⟩;try first|rfl|rfl;done)|(apply aH;rfl;rfl;rfl;(intro _;apply h<;>first|assumption|omega);rotate_left;rfl;rfl)|apply bC 3;rfl;rfl|apply bC 2;rfl;rfl)
def alD (h:Bool) (a:Bool) (n:Bool) (p:Bool):Int:=if h=false then 4 else if a=true then 1 else if n=false then 6 else if p=true then 5 else 0
def ajZ (t:Tb) (k:Nat):Int:=alD (oF t t.sums[k]!.col&&oF t t.sums[k]!.by_) ((decide (t.sums[k]!.col=t.sums[k]!.by_)||decide (t.sums[k]!.max<0))||decide (t.sums[k]!.max>1099511627776)) (lY (kP t t.sums[k]!.col)&&lY (kP t t.sums[k]!.by_)) ((t.sums.take k).any λy=>decide (y.col=t.sums[k]!.col)&&decide (y.by_=t.sums[k]!.by_))
theorem ayS (x c:Su):PF Tryz.prog 268 [.agg x.cells, .rp c.cells] (PV.val (Value.bool (decide (x.col=c.col)&&decide (x.by_=c.by_)))):=by
 refine aG aF Tryz.func268 (by kernel_rfl) rfl rfl rfl rfl (λst=> ?_)
 (try apply wO pk;rfl);(repeat' first|show All _;constructor|show Imp _ _;constructor|show ImpX _ _ _ _;constructor|(refine aC ?_;refine ⟨_,_,_,rfl,zwr _,zsr _, ?_,rfl⟩;try rfl))
theorem aCf (t:Tb) (k:Nat) (hl:t.cols.length<200000000000000) (hu:t.sums.length<200000000000000) (hk:k<t.sums.length):PF Tryz.prog 267 [(PV.val (Value.int .i64 ((k:Nat)))), .rp t.cells] (PV.val (Value.int .i64 (ajZ t k))):=by
 have h1:=sF t t.sums[k].col
 have h2:=sF t t.sums[k].by_
 have hc:=atT 268 [.rp t.sums[k].cells] (λy=>decide (y.col=t.sums[k].col)&&decide (y.by_=t.sums[k].by_)) (t.sums.take k) (by rw [zlt];omega) λp=>ayS p _
 have e:ajZ t k=alD (oF t t.sums[k].col&&oF t t.sums[k].by_) ((decide (t.sums[k].col=t.sums[k].by_)||decide (t.sums[k].max<0))||decide (t.sums[k].max>1099511627776)) (lY (kP t t.sums[k].col)&&lY (kP t t.sums[k].by_)) ((t.sums.take k).any λy=>decide (y.col=t.sums[k].col)&&decide (y.by_=t.sums[k].by_)):=by
  unfold ajZ;rw [getElem!_pos t.sums k hk]
 have hE:(((t.sums.drop 0).take (k-0)).map Su.cells)=(t.sums.take k).map Su.cells:=by simp
 rw [e]
 unfold alD
 generalize ((t.sums.take k).any λy=>decide (y.col=t.sums[k].col)&&decide (y.by_=t.sums[k].by_))=A at*
 cases c1:oF t t.sums[k].col with
 |false=>
  rw [c1] at h1
  refine aG aF Tryz.func267 (by kernel_rfl) rfl rfl rfl rfl (λst=> ?_)
  (try apply wO pk;rfl);(repeat' first|show All _;constructor|show Imp _ _;constructor|show ImpX _ _ _ _;constructor|apply wC pk;rfl;rfl|apply wE pk;rfl;rfl|refine aA rfl ?_ ?_<;>intro h<;>(try simp at h)<;>try omega|(refine aC ?_;refine ⟨_,_,_,rfl,zwr _,zsr _, ?_,rfl⟩;try first|rfl|(congr 2;grind);done)|(apply aH;rfl;rfl;rfl;(intro _;(first|apply h1|apply h2)<;>first|assumption|omega);rotate_left;rfl;rfl)|apply aN pk;(iterate 6 rfl);rotate_left;rfl;(intro hw;rfl);(intro hw;apply aI<;>omega);(intro _;rfl);rfl|apply bC 4;rfl;rfl)
 |true=>
 cases c2:oF t t.sums[k].by_ with
 |false=>
  rw [c1] at h1
  rw [c2] at h2
  refine aG aF Tryz.func267 (by kernel_rfl) rfl rfl rfl rfl (λst=> ?_)
  (try apply wO pk;rfl);(repeat' first|show All _;constructor|show Imp _ _;constructor|show ImpX _ _ _ _;constructor|apply wC pk;rfl;rfl|apply wE pk;rfl;rfl|refine aA rfl ?_ ?_<;>intro h<;>(try simp at h)<;>try omega|(refine aC ?_;refine ⟨_,_,_,rfl,zwr _,zsr _, ?_,rfl⟩;try first|rfl|(congr 2;grind);done)|(apply aH;rfl;rfl;rfl;(intro _;(first|apply h1|apply h2)<;>first|assumption|omega);rotate_left;rfl;rfl)|apply aN pk;(iterate 6 rfl);rotate_left;rfl;(intro hw;rfl);(intro hw;apply aI<;>omega);(intro _;rfl);rfl|apply bC 4;rfl;rfl)
 |true=>
  rw [c1] at h1
  rw [c2] at h2
  obtain ⟨j,hj,hjl,hj2⟩:=yE c1
  obtain ⟨i,hi,hil,hi2⟩:=yE c2
  rw [hj2,hi2]
  have hn1:=dY t.cols[j]
  have hn2:=dY t.cols[i]
  generalize lY t.cols[j]=N at*
  generalize lY t.cols[i]=M at*
  refine aG aF Tryz.func267 (by kernel_rfl) rfl rfl rfl rfl (λst=> ?_)
  (try apply wO pk;rfl);(repeat' first|show All _;constructor|show Imp _ _;constructor|show ImpX _ _ _ _;constructor|apply wC pk;rfl;rfl|apply wE pk;rfl;rfl|refine aA rfl ?_ ?_<;>intro h<;>(try simp at h)<;>try omega|(refine aC ?_;refine ⟨_,_,_,rfl,zwr _,zsr _, ?_,rfl⟩;try first|rfl|(congr 2;grind);done)|(apply aH;rfl;rfl;rfl;(intro _;(first|apply h1|apply h2|apply hn1|apply hn2|apply hc)<;>first|assumption|omega);rotate_left;rfl;rfl)|apply aN pk;(iterate 6 rfl);rotate_left;rfl;(intro hw;exact (by first|rfl|exact hj|exact hi));(intro hw;apply aI<;>omega);(intro _;rfl);rfl|apply bC 4;rfl;rfl|apply slS pk (f:=Su.cells) (xs:=t.sums) 0 k;(iterate 5 rfl);rotate_left;rfl;(intro _;rfl);(intro _;exact bD);(intro _;exact aT rfl rfl);(intro _;omega);(intro _;omega);rfl;rw [hE])
theorem auG (t:Tb) (hl:t.cols.length<200000000000000) (hu:t.sums.length<200000000000000):PF Tryz.prog 174 [.agg t.cells] (PV.val (Value.int .i64 (eI (ajZ t) t.sums.length))):=by
 have e:(t.sums.map Su.cells).length=t.sums.length:=zql _
 have h:=iA 267 [.rp t.cells] (ajZ t) (t.sums.map Su.cells).length (by omega) λk hk _=>aCf t k hl hu (by omega)
 rw [<-e]
 refine aG aF Tryz.func174 (by kernel_rfl) rfl rfl rfl rfl (λst=> ?_)
 (try apply wO pk;rfl);(repeat' first|show All _;constructor|show Imp _ _;constructor|apply wE pk;rfl;rfl|(refine aC ?_;refine ⟨_,_,_,rfl,zwr _,zsr _, ?_,rfl⟩;try first|rfl|rfl;done)|(apply aH;rfl;rfl;rfl;(intro _;apply h<;>first|assumption|omega);rotate_left;rfl;rfl)|apply bC 1;rfl;rfl)
theorem awD (t:Tb) (n:ByteArray):PF Tryz.prog 259 [.agg t.cells, .rp [(PV.val (Value.string (n)))]] (PV.val (Value.bool (decide (t.name=n)))):=by
 refine aG aF Tryz.func259 (by kernel_rfl) rfl rfl rfl rfl (λst=> ?_)
 (try apply wO pk;rfl);(repeat' first|show All _;constructor|(refine aC ?_;refine ⟨_,_,_,rfl,zwr _,zsr _, ?_,rfl⟩;try rfl))
def atW (s:Sc) (n:ByteArray):Int:=cR (λt:Tb=>decide (t.name=n)) s
theorem apC (s:Sc) (n:ByteArray) (hl:s.length<200000000000000):PF Tryz.prog 163 [.agg (scC s),(PV.val (Value.string (n)))] (.tup [(PV.val (Value.int .i64 (max (atW s n) 0))),(PV.val (Value.bool (decide (atW s n>=0))))]):=by
 have h:=auS 259 [.rp [(PV.val (Value.string (n)))]] (λt=>decide (t.name=n)) s (by omega) λp=>awD p n
 change PF _ _ _ (PV.val (Value.int .i64 (atW s n))) at h
 generalize atW s n=R at*
 refine aG aF Tryz.func163 (by kernel_rfl) rfl rfl rfl rfl (λst=> ?_)
 (try apply wO pk;rfl);(repeat' first|show All _;constructor|show Imp _ _;constructor|apply wE pk;rfl;rfl|(refine aC ?_;refine ⟨_,_,_,rfl,zwr _,zsr _, ?_,rfl⟩;try first|rfl|(congr 3;grind);done)|(apply aH;rfl;rfl;rfl;(intro _;apply h<;>first|assumption|omega);rotate_left;rfl;rfl)|apply bC 3;rfl;rfl)
def aFV (s:Sc) (k:Nat):Bool:=(s.take k).any λt=>decide (t.name=s[k]!.name)
theorem aCU {α:Type} {f:α->Bool} {l:List α} {k:Nat} (hk:k<l.length) (hf:f l[k]=true):decide (max (cR f l) 0<k)=(l.take k).any f:=by
 unfold cR
 cases h:l.findIdx? f with
 |none=>rw [List.findIdx?_eq_none_iff.1 h _ (zgm hk)] at hf;cases hf
 |some j=>
  obtain ⟨hj,hfj,hn⟩:=List.findIdx?_eq_some_iff_getElem.1 h
  rw [Bool.eq_iff_iff,List.any_eq_true,zde]
  show max ((j:Nat):Int) 0<k↔_
  constructor
  ·intro q
   exact ⟨l[j],List.mem_take_iff_getElem.2 ⟨j,by omega,rfl⟩,hfj⟩
  ·rintro ⟨x,hx,hfx⟩
   obtain ⟨i,hi,rfl⟩:=List.mem_take_iff_getElem.1 hx
   rcases Nat.lt_or_ge i j with q|q
   ·exact absurd hfx (by simpa using hn i q)
   ·omega
def lk0 (s:Sc) (k:Nat):Int:=if zR s[k]!.name=false then 1 else if aFV s k=true then 5 else 0
def lk1 (t:Tb):Int:=if t.cols.length<1\/t.cols.length>16\/t.checks.length>16\/t.unique.length>16\/t.foreign.length>16\/t.sums.length>16 then 2 else 0
def lk2 (t:Tb):Int:=eI (akT t) t.cols.length
def lk3 (t:Tb):Int:=if lY t.cols[0]! =false\/t.cols[0]!.null=true then 6 else 0
def lk4 (t:Tb):Int:=eI (aiG t) t.unique.length
def lk5 (m:Nat) (t:Tb):Int:=eI (anU m t) t.foreign.length
def lk6 (t:Tb):Int:=eI (ajZ t) t.sums.length
def lks (s:Sc) (k:Nat):List Int:=[lk0 s k,lk1 s[k]!,lk2 s[k]!,lk3 s[k]!,lk4 s[k]!,lk5 s.length s[k]!,lk6 s[k]!]
def aoC (s:Sc) (k:Nat):Int:=orI (lks s k)
def cL (s:Sc):Int:=if s.length<1\/s.length>16 then 2 else eI (aoC s) s.length
structure TbB (t:Tb):Prop where
 c:t.cols.length<200000000000000
 u:t.unique.length<200000000000000
 k:t.checks.length<200000000000000
 f:t.foreign.length<200000000000000
 s:t.sums.length<200000000000000
theorem aAr (s:Sc) (k:Nat) (hl:s.length<200000000000000) (hk:k<s.length):PF Tryz.prog 161 [.agg (scC s),(PV.val (Value.int .i64 ((k:Nat))))] (PV.val (Value.int .i64 (lk0 s k))):=by
 have hn:=adU s[k].name
 have ht:=apC s s[k].name hl
 have hd:=aCU (f:=λt:Tb=>decide (t.name=s[k].name)) hk (decide_eq_true rfl)
 change decide (max (atW s s[k].name) 0<(k:Nat))=_ at hd
 have e:lk0 s k=if zR s[k].name=false then 1 else if ((s.take k).any λt=>decide (t.name=s[k].name))=true then 5 else 0:=by unfold lk0 aFV;rw [getElem!_pos s k hk]
 rw [e,<-hd]
 generalize zR s[k].name=N at*
 generalize atW s s[k].name=R at*
 refine aG aF Tryz.func161 (by kernel_rfl) rfl rfl rfl rfl (λst=> ?_)
 (try apply wO pk;rfl);(repeat' first|show All _;constructor|show Imp _ _;constructor|apply wC pk;rfl;rfl|apply wE pk;rfl;rfl|apply wD pk [] [];kernel_rfl;rfl;rfl|refine aA rfl ?_ ?_<;>intro h<;>(try simp at h)<;>try omega|(refine aC ?_;refine ⟨_,_,_,rfl,zwr _,zsr _, ?_,rfl⟩;try first|rfl|(congr 2;grind);done)|(apply aH;rfl;rfl;rfl;(intro _;(first|apply hn|apply ht)<;>first|assumption|omega);rotate_left;rfl;rfl)|apply aN pk;(iterate 6 rfl);rotate_left;rfl;(intro hw;rfl);(intro hw;apply aI<;>omega);(intro _;rfl);rfl)
theorem aBb (s:Sc) (k:Nat) (hk:k<s.length) (hB:TbB s[k]):PF Tryz.prog 164 [.agg (scC s),(PV.val (Value.int .i64 ((k:Nat))))] (PV.val (Value.int .i64 (lk1 s[k]!))):=by
 rw [getElem!_pos s k hk]
 obtain ⟨b1,b2,b3,b4,b5⟩:=hB
 unfold lk1
 refine aG aF Tryz.func164 (by kernel_rfl) rfl rfl rfl rfl (λst=> ?_)
 (try apply wO pk;rfl);(repeat' first|show All _;constructor|show Imp _ _;constructor|show ImpX _ _ _ _;constructor|apply wC pk;rfl;rfl|apply wE pk;rfl;rfl|refine aA rfl ?_ ?_<;>intro h<;>(try simp at h)<;>try omega|(refine aC ?_;refine ⟨_,_,_,rfl,zwr _,zsr _, ?_,rfl⟩;try first|rfl|(first|rw [if_pos (by omega)];done|rw [if_neg (by omega)];done);done)|apply aN pk;(iterate 6 rfl);rotate_left;rfl;(intro hw;rfl);(intro hw;apply aI<;>omega);(intro _;rfl);rfl|apply aHl;(iterate 6 rfl);rotate_left;rfl;rfl)
theorem ayL (s:Sc) (k:Nat) (hk:k<s.length) (hB:TbB s[k]):PF Tryz.prog 165 [.agg (scC s),(PV.val (Value.int .i64 ((k:Nat))))] (PV.val (Value.int .i64 (lk2 s[k]!))):=by
 rw [getElem!_pos s k hk]
 have h:=afM s[k] hB.c
 change PF _ _ _ (PV.val (Value.int .i64 (lk2 s[k]))) at h
 refine aG aF Tryz.func165 (by kernel_rfl) rfl rfl rfl rfl (λst=> ?_)
 (try apply wO pk;rfl);(repeat' first|show All _;constructor|show Imp _ _;constructor|apply wE pk;rfl;rfl|(refine aC ?_;refine ⟨_,_,_,rfl,zwr _,zsr _, ?_,rfl⟩;try first|rfl|rfl;done)|(apply aH;rfl;rfl;rfl;(intro _;apply h<;>first|assumption|omega);rotate_left;rfl;rfl)|apply aN pk;(iterate 6 rfl);rotate_left;rfl;(intro hw;rfl);(intro hw;apply aI<;>omega);(intro _;rfl);rfl)
theorem aAK (s:Sc) (k:Nat) (hk:k<s.length) (hc:0<s[k].cols.length):PF Tryz.prog 167 [.agg (scC s),(PV.val (Value.int .i64 ((k:Nat))))] (PV.val (Value.int .i64 (lk3 s[k]!))):=by
 rw [getElem!_pos s k hk]
 unfold lk3
 rw [getElem!_pos s[k].cols 0 hc]
 have h:=dY s[k].cols[0]
 generalize lY s[k].cols[0]=N at*
 refine aG aF Tryz.func167 (by kernel_rfl) rfl rfl rfl rfl (λst=> ?_)
 (try apply wO pk;rfl);(repeat' first|show All _;constructor|show Imp _ _;constructor|show ImpX _ _ _ _;constructor|apply wC pk;rfl;rfl|apply wE pk;rfl;rfl|refine aA rfl ?_ ?_<;>intro h<;>(try simp at h)<;>try omega|(refine aC ?_;refine ⟨_,_,_,rfl,zwr _,zsr _, ?_,rfl⟩;try first|rfl|(congr 2;grind);done)|(apply aH;rfl;rfl;rfl;(intro _;apply h<;>first|assumption|omega);rotate_left;rfl;rfl)|apply aN pk;(iterate 6 rfl);rotate_left;rfl;(intro hw;rfl);(intro hw;apply aI<;>omega);(intro _;rfl);rfl)
theorem aBr (s:Sc) (k:Nat) (hk:k<s.length) (hB:TbB s[k]):PF Tryz.prog 169 [.agg (scC s),(PV.val (Value.int .i64 ((k:Nat))))] (PV.val (Value.int .i64 (lk4 s[k]!))):=by
 rw [getElem!_pos s k hk]
 have h:=afV s[k] hB.c hB.u
 change PF _ _ _ (PV.val (Value.int .i64 (lk4 s[k]))) at h
 refine aG aF Tryz.func169 (by kernel_rfl) rfl rfl rfl rfl (λst=> ?_)
 (try apply wO pk;rfl);(repeat' first|show All _;constructor|show Imp _ _;constructor|apply wE pk;rfl;rfl|(refine aC ?_;refine ⟨_,_,_,rfl,zwr _,zsr _, ?_,rfl⟩;try first|rfl|rfl;done)|(apply aH;rfl;rfl;rfl;(intro _;apply h<;>first|assumption|omega);rotate_left;rfl;rfl)|apply aN pk;(iterate 6 rfl);rotate_left;rfl;(intro hw;rfl);(intro hw;apply aI<;>omega);(intro _;rfl);rfl)
theorem aBe (s:Sc) (k:Nat) (hk:k<s.length) (hB:TbB s[k]):PF Tryz.prog 171 [.agg (scC s),(PV.val (Value.int .i64 ((k:Nat))))] (PV.val (Value.int .i64 (lk5 s.length s[k]!))):=by
 rw [getElem!_pos s k hk]
 have h:=acE s s[k] hB.c hB.f
 change PF _ _ _ (PV.val (Value.int .i64 (lk5 s.length s[k]))) at h
 refine aG aF Tryz.func171 (by kernel_rfl) rfl rfl rfl rfl (λst=> ?_)
 (try apply wO pk;rfl);(repeat' first|show All _;constructor|show Imp _ _;constructor|apply wE pk;rfl;rfl|apply wD pk [] [];kernel_rfl;rfl;rfl|(refine aC ?_;refine ⟨_,_,_,rfl,zwr _,zsr _, ?_,rfl⟩;try first|rfl|rfl;done)|(apply aH;rfl;rfl;rfl;(intro _;apply h<;>first|assumption|omega);rotate_left;rfl;rfl)|apply aN pk;(iterate 6 rfl);rotate_left;rfl;(intro hw;rfl);(intro hw;apply aI<;>omega);(intro _;rfl);rfl)
theorem ayG (s:Sc) (k:Nat) (hk:k<s.length) (hB:TbB s[k]):PF Tryz.prog 173 [.agg (scC s),(PV.val (Value.int .i64 ((k:Nat))))] (PV.val (Value.int .i64 (lk6 s[k]!))):=by
 rw [getElem!_pos s k hk]
 have h:=auG s[k] hB.c hB.s
 change PF _ _ _ (PV.val (Value.int .i64 (lk6 s[k]))) at h
 refine aG aF Tryz.func173 (by kernel_rfl) rfl rfl rfl rfl (λst=> ?_)
 (try apply wO pk;rfl);(repeat' first|show All _;constructor|show Imp _ _;constructor|apply wE pk;rfl;rfl|(refine aC ?_;refine ⟨_,_,_,rfl,zwr _,zsr _, ?_,rfl⟩;try first|rfl|rfl;done)|(apply aH;rfl;rfl;rfl;(intro _;apply h<;>first|assumption|omega);rotate_left;rfl;rfl)|apply aN pk;(iterate 6 rfl);rotate_left;rfl;(intro hw;rfl);(intro hw;apply aI<;>omega);(intro _;rfl);rfl)
def looksF :List FuncId:=[161,164,165,167,169,171,173]
theorem amI :PF Tryz.prog 102 [] (.seq (looksF.map λf=>[.fn f []])):=by
 refine aG aF Tryz.func102 (by kernel_rfl) rfl rfl rfl rfl (λst=> ?_)
 (try apply wO pk;rfl);(repeat' first|show All _;constructor|(refine aC ?_;refine ⟨_,_,_,rfl,zwr _,zsr _, ?_,rfl⟩;try rfl))
theorem arD (s:Sc) (k:Nat):(lks s k).length=7:=rfl
theorem awW (s:Sc) (k y:Nat) (hl:s.length<200000000000000) (hk:k<s.length) (hB:TbB s[k]) (hy:y<7) (hz:∀j (h:j<y),(lks s k)[j]'(by rw [arD];omega)=0):PF Tryz.prog (looksF[y]'hy) [.agg (scC s),(PV.val (Value.int .i64 ((k:Nat))))] (PV.val (Value.int .i64 ((lks s k)[y]'hy))):=by
 rcases (show y=0\/y=1\/y=2\/y=3\/y=4\/y=5\/y=6 by omega) with rfl|rfl|rfl|rfl|rfl|rfl|rfl
 ·exact aAr s k hl hk
 ·exact aBb s k hk hB
 ·exact ayL s k hk hB
 ·have h1:lk1 s[k]! =0:=hz 1 (by omega)
  rw [getElem!_pos s k hk] at h1
  have:0<s[k].cols.length:=by
   unfold lk1 at h1
   split at h1
   ·omega
   ·omega
  exact aAK s k hk this
 ·exact aBr s k hk hB
 ·exact aBe s k hk hB
 ·exact ayG s k hk hB
theorem wI (s:Sc) (hl:s.length<200000000000000) (hB:∀t∈s,TbB t):PF Tryz.prog 54 [.agg (scC s)] (PV.val (Value.int .i64 (cL s))):=by
 have hlk:=amI
 unfold cL
 by_cases h16:s.length<1\/s.length>16
 ·rw [if_pos h16]
  refine aG aF Tryz.func54 (by kernel_rfl) rfl rfl rfl rfl (λst=> ?_)
  (try apply wO pk;rfl);(repeat' first|(refine adB (λ_ _ h=>h) ?_)|show All _;constructor|show Imp _ _;constructor|show ImpX _ _ _ _;constructor|apply wC pk;rfl;rfl|refine aA rfl ?_ ?_<;>intro h<;>(try simp at h)<;>try omega|(refine aC ?_;refine ⟨_,_,_,rfl,zwr _,zsr _, ?_,rfl⟩;try first|rfl|(exfalso;simp at*;omega);done))
 rw [if_neg h16]
 refine aG aF Tryz.func54 (by kernel_rfl) rfl rfl rfl rfl (λst=> ?_)
 (try apply wO pk;rfl);(repeat' first|(refine adB (λ_ _ h=>h) ?_)|(refine avX ?_)|show All _;constructor|show Imp _ _;constructor|show ImpX _ _ _ _;constructor|apply wC pk;rfl;rfl|refine aA rfl ?_ ?_<;>intro h<;>(try simp at h)<;>try omega)
 refine aK (X:={x:Nat//x<=s.length/\∀j<x,aoC s j=0}) (λi=>(((((St.nil 39 st).var 1 24 ((scC s))).pv 3 ((PV.val (Value.int .i64 (0))))).pv 19 ((PV.val (Value.int .i64 (((s.map Tb.cells).length:Nat)))))).pv 20 ((PV.val (Value.int .i64 ((i.1:Nat))))))) (λi=>s.length-i.1) ⟨0,by omega,by omega⟩ ?_ (λi=> ?_)
 ·((repeat (first|refine Sub.pv ?_ rfl|refine Sub.var ?_ rfl rfl));exact Sub.nil _ _ _ (zsr _) rfl)
 obtain ⟨i,hi,hI⟩:=i
 dsimp only
 by_cases hend:s.length<=i
 ·rw [ajR (f:=aoC s) (n:=s.length) λj hj=>hI j (by omega)]
  (try apply wO pk;rfl);(repeat' first|show All _;constructor|apply wC pk;rfl;rfl|refine aA rfl ?_ ?_<;>intro h<;>(try simp at h)<;>try omega|(refine aC ?_;refine ⟨_,_,_,rfl,zwr _,zsr _, ?_,rfl⟩;try first|rfl|(exfalso;omega);done))
 have hil:i<s.length:=by omega
 have hBi:=hB s[i] (zgm hil)
 (try apply wO pk;rfl);(repeat' first|show All _;constructor|show Imp _ _;constructor|apply wC pk;rfl;rfl|apply wE pk;rfl;rfl|refine aA rfl ?_ ?_<;>intro h<;>(try simp at h)<;>try omega|(apply aH;rfl;rfl;rfl;(intro _;apply hlk<;>first|assumption|omega);rotate_left;rfl;rfl))
 refine aK (X:={x:Nat//x<=7/\∀j (h:j<x) (h7:j<7),(lks s i)[j]'h7=0}) (λy=>(((((((((St.nil 39 st).var 1 24 ((scC s))).pv 3 ((PV.val (Value.int .i64 (0))))).pv 4 ((PV.val (Value.int .i64 ((i:Nat)))))).pv 19 ((PV.val (Value.int .i64 (((s.map Tb.cells).length:Nat)))))).pv 20 ((PV.val (Value.int .i64 ((i:Nat)))))).pv 23 (.seq (looksF.map λf=>[.fn f []]))).pv 24 ((PV.val (Value.int .i64 ((7:Nat)))))).pv 25 ((PV.val (Value.int .i64 ((y.1:Nat))))))) (λy=>7-y.1) ⟨0,by omega,by omega⟩ ?_ (λy=> ?_)
 ·((repeat (first|refine Sub.pv ?_ rfl|refine Sub.var ?_ rfl rfl));exact Sub.nil _ _ _ (zsr _) rfl)
 obtain ⟨y,hy,hyI⟩:=y
 dsimp only
 by_cases hend2:7<=y
 ·have e:aoC s i=0:=by
   unfold aoC
   refine axW λx hx=> ?_
   obtain ⟨j,hj,rfl⟩:=List.getElem_of_mem hx
   exact hyI j (by rw [arD] at hj;omega) hj
  (try apply wO pk;rfl);(repeat' first|show All _;constructor|apply wC pk;rfl;rfl|refine aA rfl ?_ ?_<;>intro h<;>(try simp at h)<;>try omega|(refine ⟨⟨i+1,by omega,λj hj=>by rcases Nat.lt_succ_iff_lt_or_eq.1 hj with q|q;exact hI j q;subst q;exact e⟩, ?_,by simp only;omega⟩;((repeat (first|refine Sub.pv ?_ rfl|refine Sub.var ?_ rfl rfl));exact Sub.nil _ _ _ (zsr _) rfl))|intros;(try simp only [zql]);omega)
 have hy7:y<7:=by omega
 have hc:=awW s i y hl hil hBi hy7 λj hj=>hyI j hj (by omega)
 have hF:(lks s i)[y]'hy7≠0->eI (aoC s) s.length=(lks s i)[y]'hy7:=λh=>by
  have e:aoC s i=(lks s i)[y]'hy7:=aAp (l:=lks s i) hy7 h λj hj h2=>hyI j hj h2
  rw [ajQ hil (by rw [e];exact h) hI,e]
 have hS:(lks s i)[y]'hy7=0->∀j (h:j<y+1) (h7:j<7),(lks s i)[j]'h7=0:=λh j hj h7=>by
  rcases Nat.lt_succ_iff_lt_or_eq.1 hj with q|q
  ·exact hyI j q h7
  ·subst q;exact h
 generalize (lks s i)[y]'hy7=R at*
 have hrow:(looksF.map λf=>[PV.fn f []])[y]?=some [.fn (looksF[y]'hy7) []]:=aI (f:=λf=>[PV.fn f []]) (l:=looksF) hy7
 generalize (looksF[y]'hy7)=F at*
 (try apply wO pk;rfl);(repeat' first|show All _;constructor|show Imp _ _;constructor|apply wC pk;rfl;rfl|apply wE pk;rfl;rfl|refine aA rfl ?_ ?_<;>intro h<;>(try simp at h)<;>try omega|(refine aC ?_;refine ⟨_,_,_,rfl,zwr _,zsr _, ?_,rfl⟩;try first|rfl|(rw [hF ‹_›]);done)|(apply aH;rfl;rfl;rfl;(intro _;apply hc<;>first|assumption|omega);rotate_left;rfl;rfl)|apply aN pk;(iterate 6 rfl);rotate_left;rfl;(intro hw;rfl);(intro hw;apply (λ_=>hrow)<;>omega);(intro _;rfl);rfl|(refine ⟨⟨y+1,by omega,hS ‹_›⟩, ?_,by simp only;omega⟩;((repeat (first|refine Sub.pv ?_ rfl|refine Sub.var ?_ rfl rfl|refine Sub.pv' ?_ rfl (by (first|rfl|simp only [show R=0 from by assumption]))));exact Sub.nil _ _ _ (zsr _) rfl))|intros;(try simp only [zql]);omega)
end Go.Proofs.YtloecjjehapblaaGreatDoor
