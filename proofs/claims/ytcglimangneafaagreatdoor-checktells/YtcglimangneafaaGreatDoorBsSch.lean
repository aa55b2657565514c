import Derived.Test.YtcglimangneafaaGreatDoorBsNum
import Derived.Test.YtcglimangneafaaGreatDoorBsVal
set_option linter.unusedSimpArgs false
set_option linter.unusedVariables false
namespace Go.Proofs.YtcglimangneafaaGreatDoor
open Go Go.Abs
attribute [local irreducible] Ev PWp
set_option maxRecDepth 10000
set_option maxHeartbeats 4000000
structure Tb where
  name:ByteArray
  cols:List Co
  unique:List Int
  checks:List (List PV)
  foreign:List Fr
  sums:List Su
  deriving Inhabited
def Tb.cells (a:Tb):List PV:=[.val (.string (a.name)), .seq (a.cols.map Co.cells), .seq (a.unique.map I1), .seq a.checks, .seq (a.foreign.map Fr.cells), .seq (a.sums.map Su.cells)]
abbrev Sc :=List Tb
def scC (s:Sc):List PV:=[.seq (s.map Tb.cells)]
theorem aoC (fid:FuncId) (caps:List PV) (f:Co→Bool) (l:List Co) (hl:l.length<4611686018427387904) (hf:∀p,PF Tryz.prog fid ([.agg p.cells]++caps) (PV.val (Value.bool (f p)))):PF Tryz.prog 172 [.seq (l.map Co.cells), .fn fid caps] (PV.val (Value.int .i64 (dZ f l))):=by
  refine aH aD Tryz.func172 (by kernel_rfl) rfl rfl rfl rfl (fun st=> ?_)
  (try (apply wO pk;exact rfl));(repeat' ((show All _;constructor)))
  refine aJ (X:={x:Nat//x≤l.length∧∀j (h:j<x) (h2:j<l.length),f l[j]=false}) (fun i=>(((((St.nil 19 st).pv 0 (.seq (l.map Co.cells))).pv 1 (.fn fid caps)).pv 7 ((PV.val (Value.int .i64 ((((l.map Co.cells)).length:Nat)))))).pv 8 ((PV.val (Value.int .i64 ((i.1:Nat))))))) (fun i=>l.length-i.1) ⟨0,by omega,by omega⟩ ?_ (fun i=> ?_)
  · ((repeat (refine Sub.pv ?_ rfl));exact Sub.nil _ _ _ (StSub.refl _) rfl)
  obtain ⟨i,hi,hinv⟩:=i
  dsimp only
  (try (apply wO pk;exact rfl));(repeat' (first|(show All _;constructor)|(show Imp _ _;constructor)|(apply wC pk;(iterate 2 exact rfl))|(apply wE pk;(iterate 2 exact rfl))|(refine aA rfl (fun h=> ?_) (fun h=> ?_)<;>(try simp at h)<;>try (exfalso;omega))|(refine aB ?_;refine ⟨_,_,_,rfl,Wk.refl _,StSub.refl _, ?_,rfl⟩;try first|rfl|((first|(unfold dZ;rw [rI (by assumption) (by assumption) hinv];done)|(unfold dZ;rw [uP (by assumption) hinv]));done))|(apply aI;(iterate 3 exact rfl);(intro _;apply hf<;>first|assumption|omega);rotate_left;(iterate 2 exact rfl))|(apply aM pk;(iterate 6 exact rfl);rotate_left;exact rfl;(intro hw;exact rfl);(intro hw;apply aF<;>omega);(intro _;exact rfl);exact rfl)|(refine ⟨⟨i+1,by omega,fun j h1 h2=>by rcases Nat.lt_succ_iff_lt_or_eq.1 h1 with q|q;exact hinv j q h2;subst q;assumption⟩, ?_,by simp only;omega⟩;((repeat (refine Sub.pv ?_ rfl));exact Sub.nil _ _ _ (StSub.refl _) rfl))|(intros;(try simp only [zql]);omega)))
theorem alR (fid:FuncId) (caps:List PV) (f:Su→Bool) (l:List Su) (hl:l.length<4611686018427387904) (hf:∀p,PF Tryz.prog fid ([.agg p.cells]++caps) (PV.val (Value.bool (f p)))):PF Tryz.prog 173 [.seq (l.map Su.cells), .fn fid caps] (PV.val (Value.int .i64 (dZ f l))):=by
  refine aH aD Tryz.func173 (by kernel_rfl) rfl rfl rfl rfl (fun st=> ?_)
  (try (apply wO pk;exact rfl));(repeat' ((show All _;constructor)))
  refine aJ (X:={x:Nat//x≤l.length∧∀j (h:j<x) (h2:j<l.length),f l[j]=false}) (fun i=>(((((St.nil 19 st).pv 0 (.seq (l.map Su.cells))).pv 1 (.fn fid caps)).pv 7 ((PV.val (Value.int .i64 ((((l.map Su.cells)).length:Nat)))))).pv 8 ((PV.val (Value.int .i64 ((i.1:Nat))))))) (fun i=>l.length-i.1) ⟨0,by omega,by omega⟩ ?_ (fun i=> ?_)
  · ((repeat (refine Sub.pv ?_ rfl));exact Sub.nil _ _ _ (StSub.refl _) rfl)
  obtain ⟨i,hi,hinv⟩:=i
  dsimp only
  (try (apply wO pk;exact rfl));(repeat' (first|(show All _;constructor)|(show Imp _ _;constructor)|(apply wC pk;(iterate 2 exact rfl))|(apply wE pk;(iterate 2 exact rfl))|(refine aA rfl (fun h=> ?_) (fun h=> ?_)<;>(try simp at h)<;>try (exfalso;omega))|(refine aB ?_;refine ⟨_,_,_,rfl,Wk.refl _,StSub.refl _, ?_,rfl⟩;try first|rfl|((first|(unfold dZ;rw [rI (by assumption) (by assumption) hinv];done)|(unfold dZ;rw [uP (by assumption) hinv]));done))|(apply aI;(iterate 3 exact rfl);(intro _;apply hf<;>first|assumption|omega);rotate_left;(iterate 2 exact rfl))|(apply aM pk;(iterate 6 exact rfl);rotate_left;exact rfl;(intro hw;exact rfl);(intro hw;apply aF<;>omega);(intro _;exact rfl);exact rfl)|(refine ⟨⟨i+1,by omega,fun j h1 h2=>by rcases Nat.lt_succ_iff_lt_or_eq.1 h1 with q|q;exact hinv j q h2;subst q;assumption⟩, ?_,by simp only;omega⟩;((repeat (refine Sub.pv ?_ rfl));exact Sub.nil _ _ _ (StSub.refl _) rfl))|(intros;(try simp only [zql]);omega)))
theorem amI (fid:FuncId) (caps:List PV) (f:Tb→Bool) (l:List Tb) (hl:l.length<4611686018427387904) (hf:∀p,PF Tryz.prog fid ([.agg p.cells]++caps) (PV.val (Value.bool (f p)))):PF Tryz.prog 119 [.seq (l.map Tb.cells), .fn fid caps] (PV.val (Value.int .i64 (dZ f l))):=by
  refine aH aD Tryz.func119 (by kernel_rfl) rfl rfl rfl rfl (fun st=> ?_)
  (try (apply wO pk;exact rfl));(repeat' ((show All _;constructor)))
  refine aJ (X:={x:Nat//x≤l.length∧∀j (h:j<x) (h2:j<l.length),f l[j]=false}) (fun i=>(((((St.nil 19 st).pv 0 (.seq (l.map Tb.cells))).pv 1 (.fn fid caps)).pv 7 ((PV.val (Value.int .i64 ((((l.map Tb.cells)).length:Nat)))))).pv 8 ((PV.val (Value.int .i64 ((i.1:Nat))))))) (fun i=>l.length-i.1) ⟨0,by omega,by omega⟩ ?_ (fun i=> ?_)
  · ((repeat (refine Sub.pv ?_ rfl));exact Sub.nil _ _ _ (StSub.refl _) rfl)
  obtain ⟨i,hi,hinv⟩:=i
  dsimp only
  (try (apply wO pk;exact rfl));(repeat' (first|(show All _;constructor)|(show Imp _ _;constructor)|(apply wC pk;(iterate 2 exact rfl))|(apply wE pk;(iterate 2 exact rfl))|(refine aA rfl (fun h=> ?_) (fun h=> ?_)<;>(try simp at h)<;>try (exfalso;omega))|(refine aB ?_;refine ⟨_,_,_,rfl,Wk.refl _,StSub.refl _, ?_,rfl⟩;try first|rfl|((first|(unfold dZ;rw [rI (by assumption) (by assumption) hinv];done)|(unfold dZ;rw [uP (by assumption) hinv]));done))|(apply aI;(iterate 3 exact rfl);(intro _;apply hf<;>first|assumption|omega);rotate_left;(iterate 2 exact rfl))|(apply aM pk;(iterate 6 exact rfl);rotate_left;exact rfl;(intro hw;exact rfl);(intro hw;apply aF<;>omega);(intro _;exact rfl);exact rfl)|(refine ⟨⟨i+1,by omega,fun j h1 h2=>by rcases Nat.lt_succ_iff_lt_or_eq.1 h1 with q|q;exact hinv j q h2;subst q;assumption⟩, ?_,by simp only;omega⟩;((repeat (refine Sub.pv ?_ rfl));exact Sub.nil _ _ _ (StSub.refl _) rfl))|(intros;(try simp only [zql]);omega)))
theorem anD (fid:FuncId) (caps:List PV) (f:Co→Bool) (l:List Co) (hl:l.length<4611686018427387904) (hf:∀p,PF Tryz.prog fid ([.agg p.cells]++caps) (PV.val (Value.bool (f p)))):PF Tryz.prog 124 [.seq (l.map Co.cells), .fn fid caps] (PV.val (Value.bool (l.any f))):=by
  have h:=aoC fid caps f l hl hf
  refine aH aD Tryz.func124 (by kernel_rfl) rfl rfl rfl rfl (fun st=> ?_)
  (try (apply wO pk;exact rfl));(repeat' (first|(show All _;constructor)|(show Imp _ _;constructor)|(apply wE pk;(iterate 2 exact rfl))|(refine aB ?_;refine ⟨_,_,_,rfl,Wk.refl _,StSub.refl _, ?_,rfl⟩;try first|rfl|((rw [sX]);done))|(apply aI;(iterate 3 exact rfl);(intro _;apply h<;>first|assumption|omega);rotate_left;(iterate 2 exact rfl))))
theorem alT (fid:FuncId) (caps:List PV) (f:Su→Bool) (l:List Su) (hl:l.length<4611686018427387904) (hf:∀p,PF Tryz.prog fid ([.agg p.cells]++caps) (PV.val (Value.bool (f p)))):PF Tryz.prog 130 [.seq (l.map Su.cells), .fn fid caps] (PV.val (Value.bool (l.any f))):=by
  have h:=alR fid caps f l hl hf
  refine aH aD Tryz.func130 (by kernel_rfl) rfl rfl rfl rfl (fun st=> ?_)
  (try (apply wO pk;exact rfl));(repeat' (first|(show All _;constructor)|(show Imp _ _;constructor)|(apply wE pk;(iterate 2 exact rfl))|(refine aB ?_;refine ⟨_,_,_,rfl,Wk.refl _,StSub.refl _, ?_,rfl⟩;try first|rfl|((rw [sX]);done))|(apply aI;(iterate 3 exact rfl);(intro _;apply h<;>first|assumption|omega);rotate_left;(iterate 2 exact rfl))))
def dB (f:Nat→Int) (n:Nat):Int:=orI ((List.range n).map f)
theorem arG {l:List Int} {i:Nat} (h:i<l.length) (hf:l[i]≠0) (hn:∀j (h:j<i) (h2:j<l.length),l[j]=0):orI l=l[i]:=by
  induction l generalizing i with
  |nil=>simp at h
  |cons a l ih=>
    cases i with
    |zero=>simp only [List.getElem_cons_zero] at hf⊢;rw [orI,if_neg hf]
    |succ i=>
      have h0:=hn 0 (by omega) (by simp)
      simp only [List.getElem_cons_zero] at h0
      rw [orI,if_pos h0]
      simp only [List.getElem_cons_succ] at hf⊢
      exact ih (by simpa using h) hf fun j hj h2=>by have:=hn (j+1) (by omega) (by simpa using h2);simpa using this
theorem aoU {l:List Int} (hn:∀x∈l,x=0):orI l=0:=by
  induction l with
  |nil=>rfl
  |cons a l ih=>rw [orI,if_pos (hn a (by simp))];exact ih fun x hx=>hn x (by simp [hx])
theorem iU {f:Nat→Int} {n i:Nat} (h:i<n) (hf:f i≠0) (hn:∀j<i,f j=0):dB f n=f i:=by
  unfold dB
  have:=arG (l:=(List.range n).map f) (i:=i) (by simpa using h) (by simpa using hf) (fun j hj h2=>by simpa using hn j hj)
  simpa using this
theorem iV {f:Nat→Int} {n:Nat} (hn:∀j<n,f j=0):dB f n=0:=
  aoU fun x hx=>by
    obtain ⟨j,hj,rfl⟩:=List.mem_map.1 hx
    exact hn j (List.mem_range.1 hj)
theorem gC (fid:FuncId) (caps:List PV) (f:Nat→Int) (n:Nat) (hn:n<4611686018427387904) (hf:∀k,k<n→(∀j<k,f j=0)→PF Tryz.prog fid ([(PV.val (Value.int .i64 ((k:Nat))))]++caps) (PV.val (Value.int .i64 (f k)))):PF Tryz.prog 121 [(PV.val (Value.int .i64 ((n:Nat)))), .fn fid caps] (PV.val (Value.int .i64 (dB f n))):=by
  refine aH aD Tryz.func121 (by kernel_rfl) rfl rfl rfl rfl (fun st=> ?_)
  (try (apply wO pk;exact rfl));(repeat' ((show All _;constructor)))
  refine aJ (X:={x:Nat//x≤n∧∀j<x,f j=0}) (fun i=>((((St.nil 18 st).pv 1 (.fn fid caps)).pv 7 ((PV.val (Value.int .i64 ((n:Nat)))))).pv 8 ((PV.val (Value.int .i64 ((i.1:Nat))))))) (fun i=>n-i.1) ⟨0,by omega,by omega⟩ ?_ (fun i=> ?_)
  · ((repeat (refine Sub.pv ?_ rfl));exact Sub.nil _ _ _ (StSub.refl _) rfl)
  obtain ⟨i,hi,hinv⟩:=i
  dsimp only
  by_cases hend:n≤i
  · rw [iV (f:=f) (n:=n) fun j hj=>hinv j (by omega)]
    (try (apply wO pk;exact rfl));(repeat' (first|(show All _;constructor)|(apply wC pk;(iterate 2 exact rfl))|(refine aA rfl (fun h=> ?_) (fun h=> ?_)<;>(try simp at h)<;>try (exfalso;omega))|(refine aB ?_;refine ⟨_,_,_,rfl,Wk.refl _,StSub.refl _, ?_,rfl⟩;try first|rfl|((exfalso;omega);done))))
  have hfi:=hf i (by omega) hinv
  (try (apply wO pk;exact rfl));(repeat' (first|(show All _;constructor)|(show Imp _ _;constructor)|(apply wC pk;(iterate 2 exact rfl))|(apply wE pk;(iterate 2 exact rfl))|(refine aA rfl (fun h=> ?_) (fun h=> ?_)<;>(try simp at h)<;>try (exfalso;omega))|(refine aB ?_;refine ⟨_,_,_,rfl,Wk.refl _,StSub.refl _, ?_,rfl⟩;try first|rfl|((rw [iU (by omega) (by assumption) hinv]);done))|(apply aI;(iterate 3 exact rfl);(intro _;apply hfi<;>first|assumption|omega);rotate_left;(iterate 2 exact rfl))|(refine ⟨⟨i+1,by omega,fun j hj=>by rcases Nat.lt_succ_iff_lt_or_eq.1 hj with q|q;exact hinv j q;subst q;assumption⟩, ?_,by simp only;omega⟩;((repeat (refine Sub.pv ?_ rfl));exact Sub.nil _ _ _ (StSub.refl _) rfl))|(intros;(try simp only [zql]);omega)))
def eY (c:Co):Bool:=decide (c.kind=0)&&decide (c.type_=1)
def fF (t:Tb) (i:Int):Bool:=decide (i≥1)&&decide (i<t.cols.length)
def eF (t:Tb) (i:Int):Co:=t.cols[i.toNat]!
theorem dA (c:Co):PF Tryz.prog 83 [.agg c.cells] (PV.val (Value.bool (eY c))):=by
  refine aH aD Tryz.func83 (by kernel_rfl) rfl rfl rfl rfl (fun st=> ?_)
  (try (apply wO pk;exact rfl));(repeat' (first|(show All _;constructor)|(show Imp _ _;constructor)|(show ImpX _ _ _ _;constructor)|(refine aB ?_;refine ⟨_,_,_,rfl,Wk.refl _,StSub.refl _, ?_,rfl⟩;try rfl)))
theorem pK (t:Tb) (i:Int):PF Tryz.prog 126 [.agg t.cells,(PV.val (Value.int .i64 (i)))] (PV.val (Value.bool (fF t i))):=by
  refine aH aD Tryz.func126 (by kernel_rfl) rfl rfl rfl rfl (fun st=> ?_)
  (try (apply wO pk;exact rfl));(repeat' (first|(show All _;constructor)|(show Imp _ _;constructor)|(show ImpX _ _ _ _;constructor)|(refine aB ?_;refine ⟨_,_,_,rfl,Wk.refl _,StSub.refl _, ?_,rfl⟩;try first|rfl|((rw [zql];rfl);done))))
def aeT (pre:List Co) (c:Co):Int:=if lP c.name=false∨c.kind<0∨c.kind>4 then 1 else if (pre.any fun x=>decide (x.name=c.name))=true then 5 else if (c.type_≠1∧c.type_≠2)∨(¬(c.kind=0∨c.kind=1)∧¬(c.type_=2↔c.kind=4)) then 6 else if c.null=true∧¬(c.kind=0∨c.kind=1) then 1 else 0
def qM (t:Tb) (k:Nat):Int:=aeT (t.cols.take k) t.cols[k]!
theorem aqY (x c:Co):PF Tryz.prog 123 [.agg x.cells, .rp c.cells] (PV.val (Value.bool (decide (x.name=c.name)))):=by
  refine aH aD Tryz.func123 (by kernel_rfl) rfl rfl rfl rfl (fun st=> ?_)
  (try (apply wO pk;exact rfl));(repeat' (first|(show All _;constructor)|(refine aB ?_;refine ⟨_,_,_,rfl,Wk.refl _,StSub.refl _, ?_,rfl⟩;try rfl)))
theorem axH (t:Tb) (k:Nat) (hl:t.cols.length<200000000000000) (hk:k<t.cols.length):PF Tryz.prog 122 [(PV.val (Value.int .i64 ((k:Nat)))), .rp t.cells] (PV.val (Value.int .i64 (qM t k))):=by
  have hn:=zF t.cols[k].name
  have hc:=anD 123 [.rp t.cols[k].cells] (fun x=>decide (x.name=t.cols[k].name)) (t.cols.take k) (by rw [List.length_take];omega) fun p=>aqY p _
  have e:qM t k=aeT (t.cols.take k) t.cols[k]:=by unfold qM;rw [getElem!_pos t.cols k hk]
  rw [e]
  unfold aeT
  generalize lP t.cols[k].name=N at*
  generalize ((t.cols.take k).any fun x=>decide (x.name=t.cols[k].name))=A at*
  have hE:(((t.cols.drop 0).take (k-0)).map Co.cells)=(t.cols.take k).map Co.cells:=by simp
  refine aH aD Tryz.func122 (by kernel_rfl) rfl rfl rfl rfl (fun st=> ?_)
  (try (apply wO pk;exact rfl));(repeat' (first|(show All _;constructor)|(show Imp _ _;constructor)|(show ImpX _ _ _ _;constructor)|(apply wC pk;(iterate 2 exact rfl))|(apply wE pk;(iterate 2 exact rfl))|(refine aA rfl (fun h=> ?_) (fun h=> ?_)<;>(try simp at h)<;>try (exfalso;omega))|(refine aB ?_;refine ⟨_,_,_,rfl,Wk.refl _,StSub.refl _, ?_,rfl⟩;try first|rfl|((congr 2;grind);done))|(apply aI;(iterate 3 exact rfl);(intro _;(first|apply hn|apply hc)<;>first|assumption|omega);rotate_left;(iterate 2 exact rfl))|(apply aM pk;(iterate 6 exact rfl);rotate_left;exact rfl;(intro hw;exact rfl);(intro hw;apply aF<;>omega);(intro _;exact rfl);exact rfl)|(apply cH 4;exact rfl;exact rfl)|((apply slS pk (f:=Co.cells) (xs:=t.cols) 0 k;(iterate 5 exact rfl);rotate_left;exact rfl;(intro _;rfl);(intro _;exact dC);(intro _;exact cJ rfl rfl);(intro _;omega);(intro _;omega);exact rfl;rw [hE]))))
theorem aaG (t:Tb) (hl:t.cols.length<200000000000000):PF Tryz.prog 81 [.agg t.cells] (PV.val (Value.int .i64 (dB (qM t) t.cols.length))):=by
  have e:(t.cols.map Co.cells).length=t.cols.length:=zql _
  have h:=gC 122 [.rp t.cells] (qM t) (t.cols.map Co.cells).length (by omega) fun k hk _=>axH t k hl (by omega)
  rw [←e]
  refine aH aD Tryz.func81 (by kernel_rfl) rfl rfl rfl rfl (fun st=> ?_)
  (try (apply wO pk;exact rfl));(repeat' (first|(show All _;constructor)|(show Imp _ _;constructor)|(apply wE pk;(iterate 2 exact rfl))|(refine aB ?_;refine ⟨_,_,_,rfl,Wk.refl _,StSub.refl _, ?_,rfl⟩;try first|rfl|(rfl;done))|(apply aI;(iterate 3 exact rfl);(intro _;apply h<;>first|assumption|omega);rotate_left;(iterate 2 exact rfl))|(apply cH 1;exact rfl;exact rfl)))
theorem nK {t:Tb} {i:Int} (h:fF t i=true):∃j:Nat,i=j∧∃h:j<t.cols.length,eF t i=t.cols[j]:=by
  unfold fF at h
  simp only [Bool.and_eq_true,decide_eq_true_eq] at h
  refine ⟨i.toNat,by omega,by omega, ?_⟩
  unfold eF
  rw [getElem!_pos t.cols i.toNat (by omega)]
def wM (h:Bool) (p:Bool) (n:Bool):Int:=if h=false then 4 else if p=true then 1 else if n=false then 6 else 0
def nX (t:Tb) (k:Nat):Int:=wM (fF t t.unique[k]!) (decide (0<k)&&decide (t.unique[k]!≤t.unique[k-1]!)) (eY (eF t t.unique[k]!))
theorem auY (t:Tb) (k:Nat) (hl:t.cols.length<200000000000000) (hu:t.unique.length<200000000000000) (hk:k<t.unique.length):PF Tryz.prog 125 [(PV.val (Value.int .i64 ((k:Nat)))), .rp t.cells] (PV.val (Value.int .i64 (nX t k))):=by
  have hh:=pK t t.unique[k]
  have e:nX t k=wM (fF t t.unique[k]) (decide (0<k)&&decide (t.unique[k]≤t.unique[k-1]'(by omega))) (eY (eF t t.unique[k])):=by
    unfold nX;rw [getElem!_pos t.unique k hk,getElem!_pos t.unique (k-1) (by omega)]
  rw [e]
  unfold wM
  cases hc:fF t t.unique[k] with
  |false=>
    rw [hc] at hh
    refine aH aD Tryz.func125 (by kernel_rfl) rfl rfl rfl rfl (fun st=> ?_)
    (try (apply wO pk;exact rfl));(repeat' (first|(show All _;constructor)|(show Imp _ _;constructor)|(apply wC pk;(iterate 2 exact rfl))|(apply wE pk;(iterate 2 exact rfl))|(refine aA rfl (fun h=> ?_) (fun h=> ?_)<;>(try simp at h)<;>try (exfalso;omega))|(refine aB ?_;refine ⟨_,_,_,rfl,Wk.refl _,StSub.refl _, ?_,rfl⟩;try rfl)|(apply aI;(iterate 3 exact rfl);(intro _;apply hh<;>first|assumption|omega);rotate_left;(iterate 2 exact rfl))|(apply aM pk;(iterate 6 exact rfl);rotate_left;exact rfl;(intro hw;exact rfl);(intro hw;apply aF<;>omega);(intro _;exact rfl);exact rfl)))
  |true=>
    rw [hc] at hh
    obtain ⟨j,hj,hjl,hj2⟩:=nK hc
    rw [hj2]
    have hnn:=dA t.cols[j]
    generalize eY t.cols[j]=N at*
    rcases Nat.eq_zero_or_pos k with rfl|hpos
    · refine aH aD Tryz.func125 (by kernel_rfl) rfl rfl rfl rfl (fun st=> ?_)
      (try (apply wO pk;exact rfl));(repeat' (first|(show All _;constructor)|(show Imp _ _;constructor)|(show ImpX _ _ _ _;constructor)|(apply wC pk;(iterate 2 exact rfl))|(apply wE pk;(iterate 2 exact rfl))|(refine aA rfl (fun h=> ?_) (fun h=> ?_)<;>(try simp at h)<;>try (exfalso;omega))|(refine aB ?_;refine ⟨_,_,_,rfl,Wk.refl _,StSub.refl _, ?_,rfl⟩;try first|rfl|((congr 2;grind);done))|(apply aI;(iterate 3 exact rfl);(intro _;(first|apply hh|apply hnn)<;>first|assumption|omega);rotate_left;(iterate 2 exact rfl))|(apply aM pk;(iterate 6 exact rfl);rotate_left;exact rfl;(intro hw;exact (by first|rfl|exact hj|(exact (show _=((0:Nat):Int) from (hJ hw).elim))));(intro hw;apply aF<;>omega);(intro _;exact rfl);exact rfl)|(intros;(try simp only [zql]);omega)))
    · obtain ⟨m,rfl⟩:∃m,k=m+1:=⟨k-1,by omega⟩
      refine aH aD Tryz.func125 (by kernel_rfl) rfl rfl rfl rfl (fun st=> ?_)
      (try (apply wO pk;exact rfl));(repeat' (first|(show All _;constructor)|(show Imp _ _;constructor)|(show ImpX _ _ _ _;constructor)|(apply wC pk;(iterate 2 exact rfl))|(apply wE pk;(iterate 2 exact rfl))|(refine aA rfl (fun h=> ?_) (fun h=> ?_)<;>(try simp at h)<;>try (exfalso;omega))|(refine aB ?_;refine ⟨_,_,_,rfl,Wk.refl _,StSub.refl _, ?_,rfl⟩;try first|rfl|((congr 2;grind);done))|(apply aI;(iterate 3 exact rfl);(intro _;(first|apply hh|apply hnn)<;>first|assumption|omega);rotate_left;(iterate 2 exact rfl))|(apply aM pk;(iterate 6 exact rfl);rotate_left;exact rfl;(intro hw;exact (by first|rfl|exact hj|exact (show ((((m+1:Nat):Int))-1=((m:Nat):Int)) from by omega)));(intro hw;apply aF<;>omega);(intro _;exact rfl);exact rfl)|(intros;(try simp only [zql]);omega)))
theorem aaU (t:Tb) (hl:t.cols.length<200000000000000) (hu:t.unique.length<200000000000000):PF Tryz.prog 85 [.agg t.cells] (PV.val (Value.int .i64 (dB (nX t) t.unique.length))):=by
  have e:(t.unique.map I1).length=t.unique.length:=zql _
  have h:=gC 125 [.rp t.cells] (nX t) (t.unique.map I1).length (by omega) fun k hk _=>auY t k hl hu (by omega)
  rw [←e]
  refine aH aD Tryz.func85 (by kernel_rfl) rfl rfl rfl rfl (fun st=> ?_)
  (try (apply wO pk;exact rfl));(repeat' (first|(show All _;constructor)|(show Imp _ _;constructor)|(apply wE pk;(iterate 2 exact rfl))|(refine aB ?_;refine ⟨_,_,_,rfl,Wk.refl _,StSub.refl _, ?_,rfl⟩;try first|rfl|(rfl;done))|(apply aI;(iterate 3 exact rfl);(intro _;apply h<;>first|assumption|omega);rotate_left;(iterate 2 exact rfl))|(apply cH 1;exact rfl;exact rfl)))
def xM (h:Bool) (b:Bool) (p:Bool) (a:Bool) (n:Bool) (z:Bool):Int:=if h=false∨b=true then 4 else if p=true∨a=true then 1 else if n=false∨z=true then 6 else 0
def pC (m:Nat) (t:Tb) (k:Nat):Int:=xM (fF t t.foreign[k]!.col) (decide (t.foreign[k]!.table<0)||decide (t.foreign[k]!.table≥m)) (decide (0<k)&&decide (t.foreign[k]!.col≤t.foreign[k-1]!.col)) (decide (t.foreign[k]!.act<0)||decide (t.foreign[k]!.act>2)) (eY (eF t t.foreign[k]!.col)) (decide (t.foreign[k]!.act=2)&& !(eF t t.foreign[k]!.col).null)
theorem auT (s:Sc) (t:Tb) (k:Nat) (hl:t.cols.length<200000000000000) (hu:t.foreign.length<200000000000000) (hk:k<t.foreign.length):PF Tryz.prog 127 [(PV.val (Value.int .i64 ((k:Nat)))), .rp t.cells, .rp (scC s)] (PV.val (Value.int .i64 (pC s.length t k))):=by
  have hh:=pK t t.foreign[k].col
  have e:pC s.length t k=xM (fF t t.foreign[k].col) (decide (t.foreign[k].table<0)||decide (t.foreign[k].table≥s.length)) (decide (0<k)&&decide (t.foreign[k].col≤(t.foreign[k-1]'(by omega)).col)) (decide (t.foreign[k].act<0)||decide (t.foreign[k].act>2)) (eY (eF t t.foreign[k].col)) (decide (t.foreign[k].act=2)&& !(eF t t.foreign[k].col).null):=by
    unfold pC;rw [getElem!_pos t.foreign k hk,getElem!_pos t.foreign (k-1) (by omega)]
  rw [e]
  unfold xM
  have el:(s.map Tb.cells).length=s.length:=zql _
  rw [←el]
  cases hc:fF t t.foreign[k].col with
  |false=>
    rw [hc] at hh
    refine aH aD Tryz.func127 (by kernel_rfl) rfl rfl rfl rfl (fun st=> ?_)
    (try (apply wO pk;exact rfl));(repeat' (first|(show All _;constructor)|(show Imp _ _;constructor)|(show ImpX _ _ _ _;constructor)|(apply wC pk;(iterate 2 exact rfl))|(apply wE pk;(iterate 2 exact rfl))|(refine aA rfl (fun h=> ?_) (fun h=> ?_)<;>(try simp at h)<;>try (exfalso;omega))|(refine aB ?_;refine ⟨_,_,_,rfl,Wk.refl _,StSub.refl _, ?_,rfl⟩;try rfl)|(apply aI;(iterate 3 exact rfl);(intro _;apply hh<;>first|assumption|omega);rotate_left;(iterate 2 exact rfl))|(apply aM pk;(iterate 6 exact rfl);rotate_left;exact rfl;(intro hw;exact rfl);(intro hw;apply aF<;>omega);(intro _;exact rfl);exact rfl)))
  |true=>
    rw [hc] at hh
    obtain ⟨j,hj,hjl,hj2⟩:=nK hc
    rw [hj2]
    have hnn:=dA t.cols[j]
    generalize eY t.cols[j]=N at*
    rcases Nat.eq_zero_or_pos k with rfl|hpos
    · refine aH aD Tryz.func127 (by kernel_rfl) rfl rfl rfl rfl (fun st=> ?_)
      (try (apply wO pk;exact rfl));(repeat' (first|(show All _;constructor)|(show Imp _ _;constructor)|(show ImpX _ _ _ _;constructor)|(apply wC pk;(iterate 2 exact rfl))|(apply wE pk;(iterate 2 exact rfl))|(apply wD pk [] [];kernel_rfl;exact rfl;exact rfl)|(refine aA rfl (fun h=> ?_) (fun h=> ?_)<;>(try simp at h)<;>try (exfalso;omega))|(refine aB ?_;refine ⟨_,_,_,rfl,Wk.refl _,StSub.refl _, ?_,rfl⟩;try first|rfl|((congr 2;grind);done))|(apply aI;(iterate 3 exact rfl);(intro _;(first|apply hh|apply hnn)<;>first|assumption|omega);rotate_left;(iterate 2 exact rfl))|(apply aM pk;(iterate 6 exact rfl);rotate_left;exact rfl;(intro hw;exact (by first|rfl|exact hj|(exact (show _=((0:Nat):Int) from (hJ hw).elim))));(intro hw;apply aF<;>omega);(intro _;exact rfl);exact rfl)|(intros;(try simp only [zql]);omega)))
    · obtain ⟨m,rfl⟩:∃m,k=m+1:=⟨k-1,by omega⟩
      refine aH aD Tryz.func127 (by kernel_rfl) rfl rfl rfl rfl (fun st=> ?_)
      (try (apply wO pk;exact rfl));(repeat' (first|(show All _;constructor)|(show Imp _ _;constructor)|(show ImpX _ _ _ _;constructor)|(apply wC pk;(iterate 2 exact rfl))|(apply wE pk;(iterate 2 exact rfl))|(apply wD pk [] [];kernel_rfl;exact rfl;exact rfl)|(refine aA rfl (fun h=> ?_) (fun h=> ?_)<;>(try simp at h)<;>try (exfalso;omega))|(refine aB ?_;refine ⟨_,_,_,rfl,Wk.refl _,StSub.refl _, ?_,rfl⟩;try first|rfl|((congr 2;grind);done))|(apply aI;(iterate 3 exact rfl);(intro _;(first|apply hh|apply hnn)<;>first|assumption|omega);rotate_left;(iterate 2 exact rfl))|(apply aM pk;(iterate 6 exact rfl);rotate_left;exact rfl;(intro hw;exact (by first|rfl|exact hj|exact (show ((((m+1:Nat):Int))-1=((m:Nat):Int)) from by omega)));(intro hw;apply aF<;>omega);(intro _;exact rfl);exact rfl)|(intros;(try simp only [zql]);omega)))
theorem xY (s:Sc) (t:Tb) (hl:t.cols.length<200000000000000) (hu:t.foreign.length<200000000000000):PF Tryz.prog 87 [.agg (scC s), .agg t.cells] (PV.val (Value.int .i64 (dB (pC s.length t) t.foreign.length))):=by
  have e:(t.foreign.map Fr.cells).length=t.foreign.length:=zql _
  have h:=gC 127 [.rp t.cells, .rp (scC s)] (pC s.length t) (t.foreign.map Fr.cells).length (by omega) fun k hk _=>auT s t k hl hu (by omega)
  rw [←e]
  refine aH aD Tryz.func87 (by kernel_rfl) rfl rfl rfl rfl (fun st=> ?_)
  (try (apply wO pk;exact rfl));(repeat' (first|(show All _;constructor)|(show Imp _ _;constructor)|(apply wE pk;(iterate 2 exact rfl))|(refine aB ?_;refine ⟨_,_,_,rfl,Wk.refl _,StSub.refl _, ?_,rfl⟩;try first|rfl|(rfl;done))|(apply aI;(iterate 3 exact rfl);(intro _;apply h<;>first|assumption|omega);rotate_left;(iterate 2 exact rfl))|(apply cH 3;exact rfl;exact rfl)|(apply cH 2;exact rfl;exact rfl)))
def xD (h:Bool) (a:Bool) (n:Bool) (p:Bool):Int:=if h=false then 4 else if a=true then 1 else if n=false then 6 else if p=true then 5 else 0
def oA (t:Tb) (k:Nat):Int:=xD (fF t t.sums[k]!.col&&fF t t.sums[k]!.by_) ((decide (t.sums[k]!.col=t.sums[k]!.by_)||decide (t.sums[k]!.max<0))||decide (t.sums[k]!.max>1099511627776)) (eY (eF t t.sums[k]!.col)&&eY (eF t t.sums[k]!.by_)) ((t.sums.take k).any fun y=>decide (y.col=t.sums[k]!.col)&&decide (y.by_=t.sums[k]!.by_))
theorem apM (x c:Su):PF Tryz.prog 129 [.agg x.cells, .rp c.cells] (PV.val (Value.bool (decide (x.col=c.col)&&decide (x.by_=c.by_)))):=by
  refine aH aD Tryz.func129 (by kernel_rfl) rfl rfl rfl rfl (fun st=> ?_)
  (try (apply wO pk;exact rfl));(repeat' (first|(show All _;constructor)|(show Imp _ _;constructor)|(show ImpX _ _ _ _;constructor)|(refine aB ?_;refine ⟨_,_,_,rfl,Wk.refl _,StSub.refl _, ?_,rfl⟩;try rfl)))
theorem auX (t:Tb) (k:Nat) (hl:t.cols.length<200000000000000) (hu:t.sums.length<200000000000000) (hk:k<t.sums.length):PF Tryz.prog 128 [(PV.val (Value.int .i64 ((k:Nat)))), .rp t.cells] (PV.val (Value.int .i64 (oA t k))):=by
  have h1:=pK t t.sums[k].col
  have h2:=pK t t.sums[k].by_
  have hc:=alT 129 [.rp t.sums[k].cells] (fun y=>decide (y.col=t.sums[k].col)&&decide (y.by_=t.sums[k].by_)) (t.sums.take k) (by rw [List.length_take];omega) fun p=>apM p _
  have e:oA t k=xD (fF t t.sums[k].col&&fF t t.sums[k].by_) ((decide (t.sums[k].col=t.sums[k].by_)||decide (t.sums[k].max<0))||decide (t.sums[k].max>1099511627776)) (eY (eF t t.sums[k].col)&&eY (eF t t.sums[k].by_)) ((t.sums.take k).any fun y=>decide (y.col=t.sums[k].col)&&decide (y.by_=t.sums[k].by_)):=by
    unfold oA;rw [getElem!_pos t.sums k hk]
  have hE:(((t.sums.drop 0).take (k-0)).map Su.cells)=(t.sums.take k).map Su.cells:=by simp
  rw [e]
  unfold xD
  generalize ((t.sums.take k).any fun y=>decide (y.col=t.sums[k].col)&&decide (y.by_=t.sums[k].by_))=A at*
  cases c1:fF t t.sums[k].col with
  |false=>
    rw [c1] at h1
    refine aH aD Tryz.func128 (by kernel_rfl) rfl rfl rfl rfl (fun st=> ?_)
    (try (apply wO pk;exact rfl));(repeat' (first|(show All _;constructor)|(show Imp _ _;constructor)|(show ImpX _ _ _ _;constructor)|(apply wC pk;(iterate 2 exact rfl))|(apply wE pk;(iterate 2 exact rfl))|(refine aA rfl (fun h=> ?_) (fun h=> ?_)<;>(try simp at h)<;>try (exfalso;omega))|(refine aB ?_;refine ⟨_,_,_,rfl,Wk.refl _,StSub.refl _, ?_,rfl⟩;try first|rfl|((congr 2;grind);done))|(apply aI;(iterate 3 exact rfl);(intro _;(first|apply h1|apply h2)<;>first|assumption|omega);rotate_left;(iterate 2 exact rfl))|(apply aM pk;(iterate 6 exact rfl);rotate_left;exact rfl;(intro hw;exact rfl);(intro hw;apply aF<;>omega);(intro _;exact rfl);exact rfl)|(apply cH 4;exact rfl;exact rfl)))
  |true=>
  cases c2:fF t t.sums[k].by_ with
  |false=>
    rw [c1] at h1
    rw [c2] at h2
    refine aH aD Tryz.func128 (by kernel_rfl) rfl rfl rfl rfl (fun st=> ?_)
    (try (apply wO pk;exact rfl));(repeat' (first|(show All _;constructor)|(show Imp _ _;constructor)|(show ImpX _ _ _ _;constructor)|(apply wC pk;(iterate 2 exact rfl))|(apply wE pk;(iterate 2 exact rfl))|(refine aA rfl (fun h=> ?_) (fun h=> ?_)<;>(try simp at h)<;>try (exfalso;omega))|(refine aB ?_;refine ⟨_,_,_,rfl,Wk.refl _,StSub.refl _, ?_,rfl⟩;try first|rfl|((congr 2;grind);done))|(apply aI;(iterate 3 exact rfl);(intro _;(first|apply h1|apply h2)<;>first|assumption|omega);rotate_left;(iterate 2 exact rfl))|(apply aM pk;(iterate 6 exact rfl);rotate_left;exact rfl;(intro hw;exact rfl);(intro hw;apply aF<;>omega);(intro _;exact rfl);exact rfl)|(apply cH 4;exact rfl;exact rfl)))
  |true=>
    rw [c1] at h1
    rw [c2] at h2
    obtain ⟨j,hj,hjl,hj2⟩:=nK c1
    obtain ⟨i,hi,hil,hi2⟩:=nK c2
    rw [hj2,hi2]
    have hn1:=dA t.cols[j]
    have hn2:=dA t.cols[i]
    generalize eY t.cols[j]=N at*
    generalize eY t.cols[i]=M at*
    refine aH aD Tryz.func128 (by kernel_rfl) rfl rfl rfl rfl (fun st=> ?_)
    (try (apply wO pk;exact rfl));(repeat' (first|(show All _;constructor)|(show Imp _ _;constructor)|(show ImpX _ _ _ _;constructor)|(apply wC pk;(iterate 2 exact rfl))|(apply wE pk;(iterate 2 exact rfl))|(refine aA rfl (fun h=> ?_) (fun h=> ?_)<;>(try simp at h)<;>try (exfalso;omega))|(refine aB ?_;refine ⟨_,_,_,rfl,Wk.refl _,StSub.refl _, ?_,rfl⟩;try first|rfl|((congr 2;grind);done))|(apply aI;(iterate 3 exact rfl);(intro _;(first|apply h1|apply h2|apply hn1|apply hn2|apply hc)<;>first|assumption|omega);rotate_left;(iterate 2 exact rfl))|(apply aM pk;(iterate 6 exact rfl);rotate_left;exact rfl;(intro hw;exact (by first|rfl|exact hj|exact hi));(intro hw;apply aF<;>omega);(intro _;exact rfl);exact rfl)|(apply cH 4;exact rfl;exact rfl)|((apply slS pk (f:=Su.cells) (xs:=t.sums) 0 k;(iterate 5 exact rfl);rotate_left;exact rfl;(intro _;rfl);(intro _;exact dC);(intro _;exact cJ rfl rfl);(intro _;omega);(intro _;omega);exact rfl;rw [hE]))))
theorem amA (t:Tb) (hl:t.cols.length<200000000000000) (hu:t.sums.length<200000000000000):PF Tryz.prog 89 [.agg t.cells] (PV.val (Value.int .i64 (dB (oA t) t.sums.length))):=by
  have e:(t.sums.map Su.cells).length=t.sums.length:=zql _
  have h:=gC 128 [.rp t.cells] (oA t) (t.sums.map Su.cells).length (by omega) fun k hk _=>auX t k hl hu (by omega)
  rw [←e]
  refine aH aD Tryz.func89 (by kernel_rfl) rfl rfl rfl rfl (fun st=> ?_)
  (try (apply wO pk;exact rfl));(repeat' (first|(show All _;constructor)|(show Imp _ _;constructor)|(apply wE pk;(iterate 2 exact rfl))|(refine aB ?_;refine ⟨_,_,_,rfl,Wk.refl _,StSub.refl _, ?_,rfl⟩;try first|rfl|(rfl;done))|(apply aI;(iterate 3 exact rfl);(intro _;apply h<;>first|assumption|omega);rotate_left;(iterate 2 exact rfl))|(apply cH 1;exact rfl;exact rfl)))
theorem anK (t:Tb) (n:ByteArray):PF Tryz.prog 120 [.agg t.cells, .rp [(PV.val (Value.string (n)))]] (PV.val (Value.bool (decide (t.name=n)))):=by
  refine aH aD Tryz.func120 (by kernel_rfl) rfl rfl rfl rfl (fun st=> ?_)
  (try (apply wO pk;exact rfl));(repeat' (first|(show All _;constructor)|(refine aB ?_;refine ⟨_,_,_,rfl,Wk.refl _,StSub.refl _, ?_,rfl⟩;try rfl)))
def alV (s:Sc) (n:ByteArray):Int:=dZ (fun t:Tb=>decide (t.name=n)) s
theorem aiQ (s:Sc) (n:ByteArray) (hl:s.length<200000000000000):PF Tryz.prog 78 [.agg (scC s),(PV.val (Value.string (n)))] (.tup [(PV.val (Value.int .i64 (max (alV s n) 0))),(PV.val (Value.bool (decide (alV s n≥0))))]):=by
  have h:=amI 120 [.rp [(PV.val (Value.string (n)))]] (fun t=>decide (t.name=n)) s (by omega) fun p=>anK p n
  change PF _ _ _ (PV.val (Value.int .i64 (alV s n))) at h
  generalize alV s n=R at*
  refine aH aD Tryz.func78 (by kernel_rfl) rfl rfl rfl rfl (fun st=> ?_)
  (try (apply wO pk;exact rfl));(repeat' (first|(show All _;constructor)|(show Imp _ _;constructor)|(apply wE pk;(iterate 2 exact rfl))|(refine aB ?_;refine ⟨_,_,_,rfl,Wk.refl _,StSub.refl _, ?_,rfl⟩;try first|rfl|((congr 3;grind);done))|(apply aI;(iterate 3 exact rfl);(intro _;apply h<;>first|assumption|omega);rotate_left;(iterate 2 exact rfl))|(apply cH 3;exact rfl;exact rfl)))
def agM (s:Sc) (k:Nat):Bool:=(s.take k).any fun t=>decide (t.name=s[k]!.name)
theorem avX {α:Type} {f:α→Bool} {l:List α} {k:Nat} (hk:k<l.length) (hf:f l[k]=true):decide (max (dZ f l) 0<k)=(l.take k).any f:=by
  unfold dZ
  cases h:l.findIdx? f with
  |none=>rw [List.findIdx?_eq_none_iff.1 h _ (List.getElem_mem hk)] at hf;cases hf
  |some j=>
    obtain ⟨hj,hfj,hn⟩:=List.findIdx?_eq_some_iff_getElem.1 h
    rw [Bool.eq_iff_iff,List.any_eq_true,decide_eq_true_eq]
    show max ((j:Nat):Int) 0<k↔_
    constructor
    · intro q
      exact ⟨l[j],List.mem_take_iff_getElem.2 ⟨j,by omega,rfl⟩,hfj⟩
    · rintro ⟨x,hx,hfx⟩
      obtain ⟨i,hi,rfl⟩:=List.mem_take_iff_getElem.1 hx
      rcases Nat.lt_or_ge i j with q|q
      · exact absurd hfx (by simpa using hn i q)
      · omega
def lk0 (s:Sc) (k:Nat):Int:=if lP s[k]!.name=false then 1 else if agM s k=true then 5 else 0
def lk1 (t:Tb):Int:=if t.cols.length<1∨t.cols.length>16∨t.checks.length>16∨t.unique.length>16∨t.foreign.length>16∨t.sums.length>16 then 2 else 0
def lk2 (t:Tb):Int:=dB (qM t) t.cols.length
def lk3 (t:Tb):Int:=if eY t.cols[0]! =false∨t.cols[0]!.null=true then 6 else 0
def lk4 (t:Tb):Int:=dB (nX t) t.unique.length
def lk5 (m:Nat) (t:Tb):Int:=dB (pC m t) t.foreign.length
def lk6 (t:Tb):Int:=dB (oA t) t.sums.length
def lks (s:Sc) (k:Nat):List Int:=[lk0 s k,lk1 s[k]!,lk2 s[k]!,lk3 s[k]!,lk4 s[k]!,lk5 s.length s[k]!,lk6 s[k]!]
def nZ (s:Sc) (k:Nat):Int:=orI (lks s k)
def cD (s:Sc):Int:=if s.length<1∨s.length>16 then 2 else dB (nZ s) s.length
structure TbB (t:Tb):Prop where
  c:t.cols.length<200000000000000
  u:t.unique.length<200000000000000
  k:t.checks.length<200000000000000
  f:t.foreign.length<200000000000000
  s:t.sums.length<200000000000000
theorem arL (s:Sc) (k:Nat) (hl:s.length<200000000000000) (hk:k<s.length):PF Tryz.prog 76 [.agg (scC s),(PV.val (Value.int .i64 ((k:Nat))))] (PV.val (Value.int .i64 (lk0 s k))):=by
  have hn:=zF s[k].name
  have ht:=aiQ s s[k].name hl
  have hd:=avX (f:=fun t:Tb=>decide (t.name=s[k].name)) hk (decide_eq_true rfl)
  change decide (max (alV s s[k].name) 0<(k:Nat))=_ at hd
  have e:lk0 s k=if lP s[k].name=false then 1 else if ((s.take k).any fun t=>decide (t.name=s[k].name))=true then 5 else 0:=by unfold lk0 agM;rw [getElem!_pos s k hk]
  rw [e,←hd]
  generalize lP s[k].name=N at*
  generalize alV s s[k].name=R at*
  refine aH aD Tryz.func76 (by kernel_rfl) rfl rfl rfl rfl (fun st=> ?_)
  (try (apply wO pk;exact rfl));(repeat' (first|(show All _;constructor)|(show Imp _ _;constructor)|(apply wC pk;(iterate 2 exact rfl))|(apply wE pk;(iterate 2 exact rfl))|(apply wD pk [] [];kernel_rfl;exact rfl;exact rfl)|(refine aA rfl (fun h=> ?_) (fun h=> ?_)<;>(try simp at h)<;>try (exfalso;omega))|(refine aB ?_;refine ⟨_,_,_,rfl,Wk.refl _,StSub.refl _, ?_,rfl⟩;try first|rfl|((congr 2;grind);done))|(apply aI;(iterate 3 exact rfl);(intro _;(first|apply hn|apply ht)<;>first|assumption|omega);rotate_left;(iterate 2 exact rfl))|(apply aM pk;(iterate 6 exact rfl);rotate_left;exact rfl;(intro hw;exact rfl);(intro hw;apply aF<;>omega);(intro _;exact rfl);exact rfl)))
theorem asV (s:Sc) (k:Nat) (hk:k<s.length) (hB:TbB s[k]):PF Tryz.prog 79 [.agg (scC s),(PV.val (Value.int .i64 ((k:Nat))))] (PV.val (Value.int .i64 (lk1 s[k]!))):=by
  rw [getElem!_pos s k hk]
  obtain ⟨b1,b2,b3,b4,b5⟩:=hB
  unfold lk1
  refine aH aD Tryz.func79 (by kernel_rfl) rfl rfl rfl rfl (fun st=> ?_)
  (try (apply wO pk;exact rfl));(repeat' (first|(show All _;constructor)|(show Imp _ _;constructor)|(show ImpX _ _ _ _;constructor)|(apply wC pk;(iterate 2 exact rfl))|(apply wE pk;(iterate 2 exact rfl))|(refine aA rfl (fun h=> ?_) (fun h=> ?_)<;>(try simp at h)<;>try (exfalso;omega))|(refine aB ?_;refine ⟨_,_,_,rfl,Wk.refl _,StSub.refl _, ?_,rfl⟩;try first|rfl|((first|(rw [if_pos (by omega)];done)|(rw [if_neg (by omega)];done));done))|(apply aM pk;(iterate 6 exact rfl);rotate_left;exact rfl;(intro hw;exact rfl);(intro hw;apply aF<;>omega);(intro _;exact rfl);exact rfl)|((apply aAW;(iterate 6 exact rfl);rotate_left;exact rfl;exact rfl))))
theorem apF (s:Sc) (k:Nat) (hk:k<s.length) (hB:TbB s[k]):PF Tryz.prog 80 [.agg (scC s),(PV.val (Value.int .i64 ((k:Nat))))] (PV.val (Value.int .i64 (lk2 s[k]!))):=by
  rw [getElem!_pos s k hk]
  have h:=aaG s[k] hB.c
  change PF _ _ _ (PV.val (Value.int .i64 (lk2 s[k]))) at h
  refine aH aD Tryz.func80 (by kernel_rfl) rfl rfl rfl rfl (fun st=> ?_)
  (try (apply wO pk;exact rfl));(repeat' (first|(show All _;constructor)|(show Imp _ _;constructor)|(apply wE pk;(iterate 2 exact rfl))|(refine aB ?_;refine ⟨_,_,_,rfl,Wk.refl _,StSub.refl _, ?_,rfl⟩;try first|rfl|(rfl;done))|(apply aI;(iterate 3 exact rfl);(intro _;apply h<;>first|assumption|omega);rotate_left;(iterate 2 exact rfl))|(apply aM pk;(iterate 6 exact rfl);rotate_left;exact rfl;(intro hw;exact rfl);(intro hw;apply aF<;>omega);(intro _;exact rfl);exact rfl)))
theorem arX (s:Sc) (k:Nat) (hk:k<s.length) (hc:0<s[k].cols.length):PF Tryz.prog 82 [.agg (scC s),(PV.val (Value.int .i64 ((k:Nat))))] (PV.val (Value.int .i64 (lk3 s[k]!))):=by
  rw [getElem!_pos s k hk]
  unfold lk3
  rw [getElem!_pos s[k].cols 0 hc]
  have h:=dA s[k].cols[0]
  generalize eY s[k].cols[0]=N at*
  refine aH aD Tryz.func82 (by kernel_rfl) rfl rfl rfl rfl (fun st=> ?_)
  (try (apply wO pk;exact rfl));(repeat' (first|(show All _;constructor)|(show Imp _ _;constructor)|(show ImpX _ _ _ _;constructor)|(apply wC pk;(iterate 2 exact rfl))|(apply wE pk;(iterate 2 exact rfl))|(refine aA rfl (fun h=> ?_) (fun h=> ?_)<;>(try simp at h)<;>try (exfalso;omega))|(refine aB ?_;refine ⟨_,_,_,rfl,Wk.refl _,StSub.refl _, ?_,rfl⟩;try first|rfl|((congr 2;grind);done))|(apply aI;(iterate 3 exact rfl);(intro _;apply h<;>first|assumption|omega);rotate_left;(iterate 2 exact rfl))|(apply aM pk;(iterate 6 exact rfl);rotate_left;exact rfl;(intro hw;exact rfl);(intro hw;apply aF<;>omega);(intro _;exact rfl);exact rfl)))
theorem atG (s:Sc) (k:Nat) (hk:k<s.length) (hB:TbB s[k]):PF Tryz.prog 84 [.agg (scC s),(PV.val (Value.int .i64 ((k:Nat))))] (PV.val (Value.int .i64 (lk4 s[k]!))):=by
  rw [getElem!_pos s k hk]
  have h:=aaU s[k] hB.c hB.u
  change PF _ _ _ (PV.val (Value.int .i64 (lk4 s[k]))) at h
  refine aH aD Tryz.func84 (by kernel_rfl) rfl rfl rfl rfl (fun st=> ?_)
  (try (apply wO pk;exact rfl));(repeat' (first|(show All _;constructor)|(show Imp _ _;constructor)|(apply wE pk;(iterate 2 exact rfl))|(refine aB ?_;refine ⟨_,_,_,rfl,Wk.refl _,StSub.refl _, ?_,rfl⟩;try first|rfl|(rfl;done))|(apply aI;(iterate 3 exact rfl);(intro _;apply h<;>first|assumption|omega);rotate_left;(iterate 2 exact rfl))|(apply aM pk;(iterate 6 exact rfl);rotate_left;exact rfl;(intro hw;exact rfl);(intro hw;apply aF<;>omega);(intro _;exact rfl);exact rfl)))
theorem asX (s:Sc) (k:Nat) (hk:k<s.length) (hB:TbB s[k]):PF Tryz.prog 86 [.agg (scC s),(PV.val (Value.int .i64 ((k:Nat))))] (PV.val (Value.int .i64 (lk5 s.length s[k]!))):=by
  rw [getElem!_pos s k hk]
  have h:=xY s s[k] hB.c hB.f
  change PF _ _ _ (PV.val (Value.int .i64 (lk5 s.length s[k]))) at h
  refine aH aD Tryz.func86 (by kernel_rfl) rfl rfl rfl rfl (fun st=> ?_)
  (try (apply wO pk;exact rfl));(repeat' (first|(show All _;constructor)|(show Imp _ _;constructor)|(apply wE pk;(iterate 2 exact rfl))|(apply wD pk [] [];kernel_rfl;exact rfl;exact rfl)|(refine aB ?_;refine ⟨_,_,_,rfl,Wk.refl _,StSub.refl _, ?_,rfl⟩;try first|rfl|(rfl;done))|(apply aI;(iterate 3 exact rfl);(intro _;apply h<;>first|assumption|omega);rotate_left;(iterate 2 exact rfl))|(apply aM pk;(iterate 6 exact rfl);rotate_left;exact rfl;(intro hw;exact rfl);(intro hw;apply aF<;>omega);(intro _;exact rfl);exact rfl)))
theorem apA (s:Sc) (k:Nat) (hk:k<s.length) (hB:TbB s[k]):PF Tryz.prog 88 [.agg (scC s),(PV.val (Value.int .i64 ((k:Nat))))] (PV.val (Value.int .i64 (lk6 s[k]!))):=by
  rw [getElem!_pos s k hk]
  have h:=amA s[k] hB.c hB.s
  change PF _ _ _ (PV.val (Value.int .i64 (lk6 s[k]))) at h
  refine aH aD Tryz.func88 (by kernel_rfl) rfl rfl rfl rfl (fun st=> ?_)
  (try (apply wO pk;exact rfl));(repeat' (first|(show All _;constructor)|(show Imp _ _;constructor)|(apply wE pk;(iterate 2 exact rfl))|(refine aB ?_;refine ⟨_,_,_,rfl,Wk.refl _,StSub.refl _, ?_,rfl⟩;try first|rfl|(rfl;done))|(apply aI;(iterate 3 exact rfl);(intro _;apply h<;>first|assumption|omega);rotate_left;(iterate 2 exact rfl))|(apply aM pk;(iterate 6 exact rfl);rotate_left;exact rfl;(intro hw;exact rfl);(intro hw;apply aF<;>omega);(intro _;exact rfl);exact rfl)))
def looksF :List FuncId:=[76,79,80,82,84,86,88]
theorem agL :PF Tryz.prog 50 [] (.seq (looksF.map fun f=>[.fn f []])):=by
  refine aH aD Tryz.func50 (by kernel_rfl) rfl rfl rfl rfl (fun st=> ?_)
  (try (apply wO pk;exact rfl));(repeat' (first|(show All _;constructor)|(refine aB ?_;refine ⟨_,_,_,rfl,Wk.refl _,StSub.refl _, ?_,rfl⟩;try rfl)))
theorem ajX (s:Sc) (k:Nat):(lks s k).length=7:=rfl
theorem aoB (s:Sc) (k y:Nat) (hl:s.length<200000000000000) (hk:k<s.length) (hB:TbB s[k]) (hy:y<7) (hz:∀j (h:j<y),(lks s k)[j]'(by rw [ajX];omega)=0):PF Tryz.prog (looksF[y]'hy) [.agg (scC s),(PV.val (Value.int .i64 ((k:Nat))))] (PV.val (Value.int .i64 ((lks s k)[y]'hy))):=by
  rcases (show y=0∨y=1∨y=2∨y=3∨y=4∨y=5∨y=6 by omega) with rfl|rfl|rfl|rfl|rfl|rfl|rfl
  · exact arL s k hl hk
  · exact asV s k hk hB
  · exact apF s k hk hB
  · have h1:lk1 s[k]! =0:=hz 1 (by omega)
    rw [getElem!_pos s k hk] at h1
    have:0<s[k].cols.length:=by
      unfold lk1 at h1
      split at h1
      · omega
      · omega
    exact arX s k hk this
  · exact atG s k hk hB
  · exact asX s k hk hB
  · exact apA s k hk hB
theorem sJ (s:Sc) (hl:s.length<200000000000000) (hB:∀t∈s,TbB t):PF Tryz.prog 22 [.agg (scC s)] (PV.val (Value.int .i64 (cD s))):=by
  have hlk:=agL
  unfold cD
  by_cases h16:s.length<1∨s.length>16
  · rw [if_pos h16]
    refine aH aD Tryz.func22 (by kernel_rfl) rfl rfl rfl rfl (fun st=> ?_)
    (try (apply wO pk;exact rfl));(repeat' (first|(refine yQ (fun _ _ h=>h) ?_)|(show All _;constructor)|(show Imp _ _;constructor)|(show ImpX _ _ _ _;constructor)|(apply wC pk;(iterate 2 exact rfl))|(refine aA rfl (fun h=> ?_) (fun h=> ?_)<;>(try simp at h)<;>try (exfalso;omega))|(refine aB ?_;refine ⟨_,_,_,rfl,Wk.refl _,StSub.refl _, ?_,rfl⟩;try first|rfl|((exfalso;simp at*;omega);done))))
  rw [if_neg h16]
  refine aH aD Tryz.func22 (by kernel_rfl) rfl rfl rfl rfl (fun st=> ?_)
  (try (apply wO pk;exact rfl));(repeat' (first|(refine yQ (fun _ _ h=>h) ?_)|(refine anF ?_)|(show All _;constructor)|(show Imp _ _;constructor)|(show ImpX _ _ _ _;constructor)|(apply wC pk;(iterate 2 exact rfl))|(refine aA rfl (fun h=> ?_) (fun h=> ?_)<;>(try simp at h)<;>try (exfalso;omega))))
  refine aJ (X:={x:Nat//x≤s.length∧∀j<x,nZ s j=0}) (fun i=>(((((St.nil 39 st).var 1 24 ((scC s))).pv 3 ((PV.val (Value.int .i64 (0))))).pv 19 ((PV.val (Value.int .i64 (((s.map Tb.cells).length:Nat)))))).pv 20 ((PV.val (Value.int .i64 ((i.1:Nat))))))) (fun i=>s.length-i.1) ⟨0,by omega,by omega⟩ ?_ (fun i=> ?_)
  · ((repeat (first|refine Sub.pv ?_ rfl|refine Sub.var ?_ rfl rfl));exact Sub.nil _ _ _ (StSub.refl _) rfl)
  obtain ⟨i,hi,hI⟩:=i
  dsimp only
  by_cases hend:s.length≤i
  · rw [iV (f:=nZ s) (n:=s.length) fun j hj=>hI j (by omega)]
    (try (apply wO pk;exact rfl));(repeat' (first|(show All _;constructor)|(apply wC pk;(iterate 2 exact rfl))|(refine aA rfl (fun h=> ?_) (fun h=> ?_)<;>(try simp at h)<;>try (exfalso;omega))|(refine aB ?_;refine ⟨_,_,_,rfl,Wk.refl _,StSub.refl _, ?_,rfl⟩;try first|rfl|((exfalso;omega);done))))
  have hil:i<s.length:=by omega
  have hBi:=hB s[i] (List.getElem_mem hil)
  (try (apply wO pk;exact rfl));(repeat' (first|(show All _;constructor)|(show Imp _ _;constructor)|(apply wC pk;(iterate 2 exact rfl))|(apply wE pk;(iterate 2 exact rfl))|(refine aA rfl (fun h=> ?_) (fun h=> ?_)<;>(try simp at h)<;>try (exfalso;omega))|(apply aI;(iterate 3 exact rfl);(intro _;apply hlk<;>first|assumption|omega);rotate_left;(iterate 2 exact rfl))))
  refine aJ (X:={x:Nat//x≤7∧∀j (h:j<x) (h7:j<7),(lks s i)[j]'h7=0}) (fun y=>(((((((((St.nil 39 st).var 1 24 ((scC s))).pv 3 ((PV.val (Value.int .i64 (0))))).pv 4 ((PV.val (Value.int .i64 ((i:Nat)))))).pv 19 ((PV.val (Value.int .i64 (((s.map Tb.cells).length:Nat)))))).pv 20 ((PV.val (Value.int .i64 ((i:Nat)))))).pv 23 (.seq (looksF.map fun f=>[.fn f []]))).pv 24 ((PV.val (Value.int .i64 ((7:Nat)))))).pv 25 ((PV.val (Value.int .i64 ((y.1:Nat))))))) (fun y=>7-y.1) ⟨0,by omega,by omega⟩ ?_ (fun y=> ?_)
  · ((repeat (first|refine Sub.pv ?_ rfl|refine Sub.var ?_ rfl rfl));exact Sub.nil _ _ _ (StSub.refl _) rfl)
  obtain ⟨y,hy,hyI⟩:=y
  dsimp only
  by_cases hend2:7≤y
  · have e:nZ s i=0:=by
      unfold nZ
      refine aoU fun x hx=> ?_
      obtain ⟨j,hj,rfl⟩:=List.getElem_of_mem hx
      exact hyI j (by rw [ajX] at hj;omega) hj
    (try (apply wO pk;exact rfl));(repeat' (first|(show All _;constructor)|(apply wC pk;(iterate 2 exact rfl))|(refine aA rfl (fun h=> ?_) (fun h=> ?_)<;>(try simp at h)<;>try (exfalso;omega))|(refine ⟨⟨i+1,by omega,fun j hj=>by rcases Nat.lt_succ_iff_lt_or_eq.1 hj with q|q;exact hI j q;subst q;exact e⟩, ?_,by simp only;omega⟩;((repeat (first|refine Sub.pv ?_ rfl|refine Sub.var ?_ rfl rfl));exact Sub.nil _ _ _ (StSub.refl _) rfl))|(intros;(try simp only [zql]);omega)))
  have hy7:y<7:=by omega
  have hc:=aoB s i y hl hil hBi hy7 fun j hj=>hyI j hj (by omega)
  have hF:(lks s i)[y]'hy7≠0→dB (nZ s) s.length=(lks s i)[y]'hy7:=fun h=>by
    have e:nZ s i=(lks s i)[y]'hy7:=arG (l:=lks s i) hy7 h fun j hj h2=>hyI j hj h2
    rw [iU hil (by rw [e];exact h) hI,e]
  have hS:(lks s i)[y]'hy7=0→∀j (h:j<y+1) (h7:j<7),(lks s i)[j]'h7=0:=fun h j hj h7=>by
    rcases Nat.lt_succ_iff_lt_or_eq.1 hj with q|q
    · exact hyI j q h7
    · subst q;exact h
  generalize (lks s i)[y]'hy7=R at*
  have hrow:(looksF.map fun f=>[PV.fn f []])[y]?=some [.fn (looksF[y]'hy7) []]:=aF (f:=fun f=>[PV.fn f []]) (l:=looksF) hy7
  generalize (looksF[y]'hy7)=F at*
  (try (apply wO pk;exact rfl));(repeat' (first|(show All _;constructor)|(show Imp _ _;constructor)|(apply wC pk;(iterate 2 exact rfl))|(apply wE pk;(iterate 2 exact rfl))|(refine aA rfl (fun h=> ?_) (fun h=> ?_)<;>(try simp at h)<;>try (exfalso;omega))|(refine aB ?_;refine ⟨_,_,_,rfl,Wk.refl _,StSub.refl _, ?_,rfl⟩;try first|rfl|((rw [hF (by assumption)]);done))|(apply aI;(iterate 3 exact rfl);(intro _;apply hc<;>first|assumption|omega);rotate_left;(iterate 2 exact rfl))|(apply aM pk;(iterate 6 exact rfl);rotate_left;exact rfl;(intro hw;exact rfl);(intro hw;apply (fun _=>hrow)<;>omega);(intro _;exact rfl);exact rfl)|(refine ⟨⟨y+1,by omega,hS (by assumption)⟩, ?_,by simp only;omega⟩;((repeat (first|refine Sub.pv ?_ rfl|refine Sub.var ?_ rfl rfl|refine Sub.pv' ?_ rfl (by (first|rfl|(simp only [show R=0 from by assumption])))));exact Sub.nil _ _ _ (StSub.refl _) rfl))|(intros;(try simp only [zql]);omega)))
end Go.Proofs.YtcglimangneafaaGreatDoor
