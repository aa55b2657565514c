import Derived.Test.YtcglimangneafaaGreatDoorBsNum
import Derived.Test.YtcglimangneafaaGreatDoorBsVal
set_option linter.unusedSimpArgs false
set_option linter.unusedVariables false
namespace Go.Proofs.YtcglimangneafaaGreatDoor
open Go Go.Abs
attribute [local irreducible] Ev PWp
set_option maxRecDepth 10000
set_option maxHeartbeats 4000000
structure Tb where
  name:ByteArray
  cols:List Co
  unique:List Int
  checks:List (List PV)
  foreign:List Fr
  sums:List Su
  deriving Inhabited
def Tb.cells (a:Tb):List PV:=[.val (.string (a.name)), .seq (a.cols.map Co.cells), .seq (a.unique.map I1), .seq a.checks, .seq (a.foreign.map Fr.cells), .seq (a.sums.map Su.cells)]
abbrev Sc :=List Tb
def scC (s:Sc):List PV:=[.seq (s.map Tb.cells)]
theorem amG (fid:FuncId) (caps:List PV) (f:Co→Bool) (l:List Co) (hl:l.length<4611686018427387904) (hf:∀p,PF Tryz.prog fid ([.agg p.cells]++caps) (PV.val (Value.bool (f p)))):PF Tryz.prog 172 [.seq (l.map Co.cells), .fn fid caps] (PV.val (Value.int .i64 (dY f l))):=by
  refine aK aG Tryz.func172 (by kernel_rfl) rfl rfl rfl rfl (fun st=> ?_)
  (try (apply wO pk;exact rfl));(repeat' (first|(show All _;constructor)|(show Imp _ _;constructor)|(show ImpX _ _ _ _;constructor)|(apply wC pk;(iterate 2 exact rfl))|(apply wE pk;(iterate 2 exact rfl))|(apply wX pk;exact rfl)|(apply wN pk;exact rfl)|(apply wD pk [] [];kernel_rfl;exact rfl;exact rfl)|(apply aB;simp only [zqt,zqf])|(refine aC rfl (fun h=> ?_) (fun h=> ?_)<;>(try simp at h)<;>try (exfalso;omega))|(refine aD ?_;refine ⟨_,_,_,rfl,Wk.refl _,StSub.refl _, ?_,rfl⟩;try rfl)|(intros;(try simp only [zql]);omega)))
  refine aP (X:={x:Nat//x≤l.length∧∀j (h:j<x) (h2:j<l.length),f l[j]=false}) (fun i=>(((((St.nil 19 st).pv 0 (.seq (l.map Co.cells))).pv 1 (.fn fid caps)).pv 7 ((PV.val (Value.int .i64 ((((l.map Co.cells)).length:Nat)))))).pv 8 ((PV.val (Value.int .i64 ((i.1:Nat))))))) (fun i=>l.length-i.1) ⟨0,by omega,by omega⟩ ?_ (fun i=> ?_)
  · ((repeat (first|refine Sub.pv ?_ rfl|refine Sub.var ?_ rfl rfl));exact Sub.nil _ _ _ (StSub.refl _) rfl)
  obtain ⟨i,hi,hinv⟩:=i
  dsimp only
  (try (apply wO pk;exact rfl));(repeat' (first|(show All _;constructor)|(show Imp _ _;constructor)|(show ImpX _ _ _ _;constructor)|(apply wC pk;(iterate 2 exact rfl))|(apply wE pk;(iterate 2 exact rfl))|(apply wX pk;exact rfl)|(apply wN pk;exact rfl)|(apply wD pk [] [];kernel_rfl;exact rfl;exact rfl)|(apply aB;simp only [zqt,zqf])|(refine aC rfl (fun h=> ?_) (fun h=> ?_)<;>(try simp at h)<;>try (exfalso;omega))|(refine aD ?_;refine ⟨_,_,_,rfl,Wk.refl _,StSub.refl _, ?_,rfl⟩;try first|rfl|((first|(unfold dY;rw [zN (by assumption) (by assumption) hinv];done)|(unfold dY;rw [yQ (by assumption) hinv]));done))|(apply aL;(iterate 3 exact rfl);(intro _;apply hf<;>first|assumption|omega);rotate_left;(iterate 2 exact rfl))|(apply bC pk;(iterate 6 exact rfl);rotate_left;exact rfl;(intro hw;exact rfl);(intro hw;apply aM<;>omega);(intro _;exact rfl);exact rfl)|(refine ⟨⟨i+1,by omega,fun j h1 h2=>by rcases Nat.lt_succ_iff_lt_or_eq.1 h1 with q|q;exact hinv j q h2;subst q;assumption⟩, ?_,by simp only;omega⟩;((repeat (first|refine Sub.pv ?_ rfl|refine Sub.var ?_ rfl rfl));exact Sub.nil _ _ _ (StSub.refl _) rfl))|(intros;(try simp only [zql]);omega)))
theorem ajV (fid:FuncId) (caps:List PV) (f:Su→Bool) (l:List Su) (hl:l.length<4611686018427387904) (hf:∀p,PF Tryz.prog fid ([.agg p.cells]++caps) (PV.val (Value.bool (f p)))):PF Tryz.prog 173 [.seq (l.map Su.cells), .fn fid caps] (PV.val (Value.int .i64 (dY f l))):=by
  refine aK aG Tryz.func173 (by kernel_rfl) rfl rfl rfl rfl (fun st=> ?_)
  (try (apply wO pk;exact rfl));(repeat' (first|(show All _;constructor)|(show Imp _ _;constructor)|(show ImpX _ _ _ _;constructor)|(apply wC pk;(iterate 2 exact rfl))|(apply wE pk;(iterate 2 exact rfl))|(apply wX pk;exact rfl)|(apply wN pk;exact rfl)|(apply wD pk [] [];kernel_rfl;exact rfl;exact rfl)|(apply aB;simp only [zqt,zqf])|(refine aC rfl (fun h=> ?_) (fun h=> ?_)<;>(try simp at h)<;>try (exfalso;omega))|(refine aD ?_;refine ⟨_,_,_,rfl,Wk.refl _,StSub.refl _, ?_,rfl⟩;try rfl)|(intros;(try simp only [zql]);omega)))
  refine aP (X:={x:Nat//x≤l.length∧∀j (h:j<x) (h2:j<l.length),f l[j]=false}) (fun i=>(((((St.nil 19 st).pv 0 (.seq (l.map Su.cells))).pv 1 (.fn fid caps)).pv 7 ((PV.val (Value.int .i64 ((((l.map Su.cells)).length:Nat)))))).pv 8 ((PV.val (Value.int .i64 ((i.1:Nat))))))) (fun i=>l.length-i.1) ⟨0,by omega,by omega⟩ ?_ (fun i=> ?_)
  · ((repeat (first|refine Sub.pv ?_ rfl|refine Sub.var ?_ rfl rfl));exact Sub.nil _ _ _ (StSub.refl _) rfl)
  obtain ⟨i,hi,hinv⟩:=i
  dsimp only
  (try (apply wO pk;exact rfl));(repeat' (first|(show All _;constructor)|(show Imp _ _;constructor)|(show ImpX _ _ _ _;constructor)|(apply wC pk;(iterate 2 exact rfl))|(apply wE pk;(iterate 2 exact rfl))|(apply wX pk;exact rfl)|(apply wN pk;exact rfl)|(apply wD pk [] [];kernel_rfl;exact rfl;exact rfl)|(apply aB;simp only [zqt,zqf])|(refine aC rfl (fun h=> ?_) (fun h=> ?_)<;>(try simp at h)<;>try (exfalso;omega))|(refine aD ?_;refine ⟨_,_,_,rfl,Wk.refl _,StSub.refl _, ?_,rfl⟩;try first|rfl|((first|(unfold dY;rw [zN (by assumption) (by assumption) hinv];done)|(unfold dY;rw [yQ (by assumption) hinv]));done))|(apply aL;(iterate 3 exact rfl);(intro _;apply hf<;>first|assumption|omega);rotate_left;(iterate 2 exact rfl))|(apply bC pk;(iterate 6 exact rfl);rotate_left;exact rfl;(intro hw;exact rfl);(intro hw;apply aM<;>omega);(intro _;exact rfl);exact rfl)|(refine ⟨⟨i+1,by omega,fun j h1 h2=>by rcases Nat.lt_succ_iff_lt_or_eq.1 h1 with q|q;exact hinv j q h2;subst q;assumption⟩, ?_,by simp only;omega⟩;((repeat (first|refine Sub.pv ?_ rfl|refine Sub.var ?_ rfl rfl));exact Sub.nil _ _ _ (StSub.refl _) rfl))|(intros;(try simp only [zql]);omega)))
theorem akQ (fid:FuncId) (caps:List PV) (f:Tb→Bool) (l:List Tb) (hl:l.length<4611686018427387904) (hf:∀p,PF Tryz.prog fid ([.agg p.cells]++caps) (PV.val (Value.bool (f p)))):PF Tryz.prog 119 [.seq (l.map Tb.cells), .fn fid caps] (PV.val (Value.int .i64 (dY f l))):=by
  refine aK aG Tryz.func119 (by kernel_rfl) rfl rfl rfl rfl (fun st=> ?_)
  (try (apply wO pk;exact rfl));(repeat' (first|(show All _;constructor)|(show Imp _ _;constructor)|(show ImpX _ _ _ _;constructor)|(apply wC pk;(iterate 2 exact rfl))|(apply wE pk;(iterate 2 exact rfl))|(apply wX pk;exact rfl)|(apply wN pk;exact rfl)|(apply wD pk [] [];kernel_rfl;exact rfl;exact rfl)|(apply aB;simp only [zqt,zqf])|(refine aC rfl (fun h=> ?_) (fun h=> ?_)<;>(try simp at h)<;>try (exfalso;omega))|(refine aD ?_;refine ⟨_,_,_,rfl,Wk.refl _,StSub.refl _, ?_,rfl⟩;try rfl)|(intros;(try simp only [zql]);omega)))
  refine aP (X:={x:Nat//x≤l.length∧∀j (h:j<x) (h2:j<l.length),f l[j]=false}) (fun i=>(((((St.nil 19 st).pv 0 (.seq (l.map Tb.cells))).pv 1 (.fn fid caps)).pv 7 ((PV.val (Value.int .i64 ((((l.map Tb.cells)).length:Nat)))))).pv 8 ((PV.val (Value.int .i64 ((i.1:Nat))))))) (fun i=>l.length-i.1) ⟨0,by omega,by omega⟩ ?_ (fun i=> ?_)
  · ((repeat (first|refine Sub.pv ?_ rfl|refine Sub.var ?_ rfl rfl));exact Sub.nil _ _ _ (StSub.refl _) rfl)
  obtain ⟨i,hi,hinv⟩:=i
  dsimp only
  (try (apply wO pk;exact rfl));(repeat' (first|(show All _;constructor)|(show Imp _ _;constructor)|(show ImpX _ _ _ _;constructor)|(apply wC pk;(iterate 2 exact rfl))|(apply wE pk;(iterate 2 exact rfl))|(apply wX pk;exact rfl)|(apply wN pk;exact rfl)|(apply wD pk [] [];kernel_rfl;exact rfl;exact rfl)|(apply aB;simp only [zqt,zqf])|(refine aC rfl (fun h=> ?_) (fun h=> ?_)<;>(try simp at h)<;>try (exfalso;omega))|(refine aD ?_;refine ⟨_,_,_,rfl,Wk.refl _,StSub.refl _, ?_,rfl⟩;try first|rfl|((first|(unfold dY;rw [zN (by assumption) (by assumption) hinv];done)|(unfold dY;rw [yQ (by assumption) hinv]));done))|(apply aL;(iterate 3 exact rfl);(intro _;apply hf<;>first|assumption|omega);rotate_left;(iterate 2 exact rfl))|(apply bC pk;(iterate 6 exact rfl);rotate_left;exact rfl;(intro hw;exact rfl);(intro hw;apply aM<;>omega);(intro _;exact rfl);exact rfl)|(refine ⟨⟨i+1,by omega,fun j h1 h2=>by rcases Nat.lt_succ_iff_lt_or_eq.1 h1 with q|q;exact hinv j q h2;subst q;assumption⟩, ?_,by simp only;omega⟩;((repeat (first|refine Sub.pv ?_ rfl|refine Sub.var ?_ rfl rfl));exact Sub.nil _ _ _ (StSub.refl _) rfl))|(intros;(try simp only [zql]);omega)))
theorem alJ (fid:FuncId) (caps:List PV) (f:Co→Bool) (l:List Co) (hl:l.length<4611686018427387904) (hf:∀p,PF Tryz.prog fid ([.agg p.cells]++caps) (PV.val (Value.bool (f p)))):PF Tryz.prog 124 [.seq (l.map Co.cells), .fn fid caps] (PV.val (Value.bool (l.any f))):=by
  have h:=amG fid caps f l hl hf
  refine aK aG Tryz.func124 (by kernel_rfl) rfl rfl rfl rfl (fun st=> ?_)
  (try (apply wO pk;exact rfl));(repeat' (first|(show All _;constructor)|(show Imp _ _;constructor)|(show ImpX _ _ _ _;constructor)|(apply wC pk;(iterate 2 exact rfl))|(apply wE pk;(iterate 2 exact rfl))|(apply wX pk;exact rfl)|(apply wN pk;exact rfl)|(apply wD pk [] [];kernel_rfl;exact rfl;exact rfl)|(apply aB;simp only [zqt,zqf])|(refine aC rfl (fun h=> ?_) (fun h=> ?_)<;>(try simp at h)<;>try (exfalso;omega))|(refine aD ?_;refine ⟨_,_,_,rfl,Wk.refl _,StSub.refl _, ?_,rfl⟩;try first|rfl|((rw [sP]);done))|(apply aL;(iterate 3 exact rfl);(intro _;apply h<;>first|assumption|omega);rotate_left;(iterate 2 exact rfl))|(intros;(try simp only [zql]);omega)))
theorem ajY (fid:FuncId) (caps:List PV) (f:Su→Bool) (l:List Su) (hl:l.length<4611686018427387904) (hf:∀p,PF Tryz.prog fid ([.agg p.cells]++caps) (PV.val (Value.bool (f p)))):PF Tryz.prog 130 [.seq (l.map Su.cells), .fn fid caps] (PV.val (Value.bool (l.any f))):=by
  have h:=ajV fid caps f l hl hf
  refine aK aG Tryz.func130 (by kernel_rfl) rfl rfl rfl rfl (fun st=> ?_)
  (try (apply wO pk;exact rfl));(repeat' (first|(show All _;constructor)|(show Imp _ _;constructor)|(show ImpX _ _ _ _;constructor)|(apply wC pk;(iterate 2 exact rfl))|(apply wE pk;(iterate 2 exact rfl))|(apply wX pk;exact rfl)|(apply wN pk;exact rfl)|(apply wD pk [] [];kernel_rfl;exact rfl;exact rfl)|(apply aB;simp only [zqt,zqf])|(refine aC rfl (fun h=> ?_) (fun h=> ?_)<;>(try simp at h)<;>try (exfalso;omega))|(refine aD ?_;refine ⟨_,_,_,rfl,Wk.refl _,StSub.refl _, ?_,rfl⟩;try first|rfl|((rw [sP]);done))|(apply aL;(iterate 3 exact rfl);(intro _;apply h<;>first|assumption|omega);rotate_left;(iterate 2 exact rfl))|(intros;(try simp only [zql]);omega)))
def dL (f:Nat→Int) (n:Nat):Int:=orI ((List.range n).map f)
theorem apK {l:List Int} {i:Nat} (h:i<l.length) (hf:l[i]≠0) (hn:∀j (h:j<i) (h2:j<l.length),l[j]=0):orI l=l[i]:=by
  induction l generalizing i with
  |nil=>simp at h
  |cons a l ih=>
    cases i with
    |zero=>simp only [List.getElem_cons_zero] at hf⊢;rw [orI,if_neg hf]
    |succ i=>
      have h0:=hn 0 (by omega) (by simp)
      simp only [List.getElem_cons_zero] at h0
      rw [orI,if_pos h0]
      simp only [List.getElem_cons_succ] at hf⊢
      exact ih (by simpa using h) hf fun j hj h2=>by have:=hn (j+1) (by omega) (by simpa using h2);simpa using this
theorem amX {l:List Int} (hn:∀x∈l,x=0):orI l=0:=by
  induction l with
  |nil=>rfl
  |cons a l ih=>rw [orI,if_pos (hn a (by simp))];exact ih fun x hx=>hn x (by simp [hx])
theorem acC {f:Nat→Int} {n i:Nat} (h:i<n) (hf:f i≠0) (hn:∀j<i,f j=0):dL f n=f i:=by
  unfold dL
  have:=apK (l:=(List.range n).map f) (i:=i) (by simpa using h) (by simpa using hf) (fun j hj h2=>by simpa using hn j hj)
  simpa using this
theorem acD {f:Nat→Int} {n:Nat} (hn:∀j<n,f j=0):dL f n=0:=
  amX fun x hx=>by
    obtain ⟨j,hj,rfl⟩:=List.mem_map.1 hx
    exact hn j (List.mem_range.1 hj)
theorem fZ (fid:FuncId) (caps:List PV) (f:Nat→Int) (n:Nat) (hn:n<4611686018427387904) (hf:∀k,k<n→(∀j<k,f j=0)→PF Tryz.prog fid ([(PV.val (Value.int .i64 ((k:Nat))))]++caps) (PV.val (Value.int .i64 (f k)))):PF Tryz.prog 121 [(PV.val (Value.int .i64 ((n:Nat)))), .fn fid caps] (PV.val (Value.int .i64 (dL f n))):=by
  refine aK aG Tryz.func121 (by kernel_rfl) rfl rfl rfl rfl (fun st=> ?_)
  (try (apply wO pk;exact rfl));(repeat' (first|(show All _;constructor)|(show Imp _ _;constructor)|(show ImpX _ _ _ _;constructor)|(apply wC pk;(iterate 2 exact rfl))|(apply wE pk;(iterate 2 exact rfl))|(apply wX pk;exact rfl)|(apply wN pk;exact rfl)|(apply wD pk [] [];kernel_rfl;exact rfl;exact rfl)|(apply aB;simp only [zqt,zqf])|(refine aC rfl (fun h=> ?_) (fun h=> ?_)<;>(try simp at h)<;>try (exfalso;omega))|(refine aD ?_;refine ⟨_,_,_,rfl,Wk.refl _,StSub.refl _, ?_,rfl⟩;try rfl)|(intros;(try simp only [zql]);omega)))
  refine aP (X:={x:Nat//x≤n∧∀j<x,f j=0}) (fun i=>((((St.nil 18 st).pv 1 (.fn fid caps)).pv 7 ((PV.val (Value.int .i64 ((n:Nat)))))).pv 8 ((PV.val (Value.int .i64 ((i.1:Nat))))))) (fun i=>n-i.1) ⟨0,by omega,by omega⟩ ?_ (fun i=> ?_)
  · ((repeat (first|refine Sub.pv ?_ rfl|refine Sub.var ?_ rfl rfl));exact Sub.nil _ _ _ (StSub.refl _) rfl)
  obtain ⟨i,hi,hinv⟩:=i
  dsimp only
  by_cases hend:n≤i
  · rw [acD (f:=f) (n:=n) fun j hj=>hinv j (by omega)]
    (try (apply wO pk;exact rfl));(repeat' (first|(show All _;constructor)|(show Imp _ _;constructor)|(show ImpX _ _ _ _;constructor)|(apply wC pk;(iterate 2 exact rfl))|(apply wE pk;(iterate 2 exact rfl))|(apply wX pk;exact rfl)|(apply wN pk;exact rfl)|(apply wD pk [] [];kernel_rfl;exact rfl;exact rfl)|(apply aB;simp only [zqt,zqf])|(refine aC rfl (fun h=> ?_) (fun h=> ?_)<;>(try simp at h)<;>try (exfalso;omega))|(refine aD ?_;refine ⟨_,_,_,rfl,Wk.refl _,StSub.refl _, ?_,rfl⟩;try first|rfl|((exfalso;omega);done))|(intros;(try simp only [zql]);omega)))
  have hfi:=hf i (by omega) hinv
  (try (apply wO pk;exact rfl));(repeat' (first|(show All _;constructor)|(show Imp _ _;constructor)|(show ImpX _ _ _ _;constructor)|(apply wC pk;(iterate 2 exact rfl))|(apply wE pk;(iterate 2 exact rfl))|(apply wX pk;exact rfl)|(apply wN pk;exact rfl)|(apply wD pk [] [];kernel_rfl;exact rfl;exact rfl)|(apply aB;simp only [zqt,zqf])|(refine aC rfl (fun h=> ?_) (fun h=> ?_)<;>(try simp at h)<;>try (exfalso;omega))|(refine aD ?_;refine ⟨_,_,_,rfl,Wk.refl _,StSub.refl _, ?_,rfl⟩;try first|rfl|((rw [acC (by omega) (by assumption) hinv]);done))|(apply aL;(iterate 3 exact rfl);(intro _;apply hfi<;>first|assumption|omega);rotate_left;(iterate 2 exact rfl))|(refine ⟨⟨i+1,by omega,fun j hj=>by rcases Nat.lt_succ_iff_lt_or_eq.1 hj with q|q;exact hinv j q;subst q;assumption⟩, ?_,by simp only;omega⟩;((repeat (first|refine Sub.pv ?_ rfl|refine Sub.var ?_ rfl rfl));exact Sub.nil _ _ _ (StSub.refl _) rfl))|(intros;(try simp only [zql]);omega)))
def jY (c:Co):Bool:=decide (c.kind=0)&&decide (c.type_=1)
def lZ (t:Tb) (i:Int):Bool:=decide (i≥1)&&decide (i<t.cols.length)
def jA (t:Tb) (i:Int):Co:=t.cols[i.toNat]!
theorem dG (c:Co):PF Tryz.prog 83 [.agg c.cells] (PV.val (Value.bool (jY c))):=by
  refine aK aG Tryz.func83 (by kernel_rfl) rfl rfl rfl rfl (fun st=> ?_)
  (try (apply wO pk;exact rfl));(repeat' (first|(show All _;constructor)|(show Imp _ _;constructor)|(show ImpX _ _ _ _;constructor)|(apply wC pk;(iterate 2 exact rfl))|(apply wE pk;(iterate 2 exact rfl))|(apply wX pk;exact rfl)|(apply wN pk;exact rfl)|(apply wD pk [] [];kernel_rfl;exact rfl;exact rfl)|(apply aB;simp only [zqt,zqf])|(refine aC rfl (fun h=> ?_) (fun h=> ?_)<;>(try simp at h)<;>try (exfalso;omega))|(refine aD ?_;refine ⟨_,_,_,rfl,Wk.refl _,StSub.refl _, ?_,rfl⟩;try rfl)|(intros;(try simp only [zql]);omega)))
theorem pJ (t:Tb) (i:Int):PF Tryz.prog 126 [.agg t.cells,(PV.val (Value.int .i64 (i)))] (PV.val (Value.bool (lZ t i))):=by
  refine aK aG Tryz.func126 (by kernel_rfl) rfl rfl rfl rfl (fun st=> ?_)
  (try (apply wO pk;exact rfl));(repeat' (first|(show All _;constructor)|(show Imp _ _;constructor)|(show ImpX _ _ _ _;constructor)|(apply wC pk;(iterate 2 exact rfl))|(apply wE pk;(iterate 2 exact rfl))|(apply wX pk;exact rfl)|(apply wN pk;exact rfl)|(apply wD pk [] [];kernel_rfl;exact rfl;exact rfl)|(apply aB;simp only [zqt,zqf])|(refine aC rfl (fun h=> ?_) (fun h=> ?_)<;>(try simp at h)<;>try (exfalso;omega))|(refine aD ?_;refine ⟨_,_,_,rfl,Wk.refl _,StSub.refl _, ?_,rfl⟩;try first|rfl|((rw [zql];rfl);done))|(intros;(try simp only [zql]);omega)))
def aqO (pre:List Co) (c:Co):Int:=if uM c.name=false∨c.kind<0∨c.kind>4 then 1 else if (pre.any fun x=>decide (x.name=c.name))=true then 5 else if (c.type_≠1∧c.type_≠2)∨(¬(c.kind=0∨c.kind=1)∧¬(c.type_=2↔c.kind=4)) then 6 else if c.null=true∧¬(c.kind=0∨c.kind=1) then 1 else 0
def alZ (t:Tb) (k:Nat):Int:=aqO (t.cols.take k) t.cols[k]!
theorem apA (x c:Co):PF Tryz.prog 123 [.agg x.cells, .rp c.cells] (PV.val (Value.bool (decide (x.name=c.name)))):=by
  refine aK aG Tryz.func123 (by kernel_rfl) rfl rfl rfl rfl (fun st=> ?_)
  (try (apply wO pk;exact rfl));(repeat' (first|(show All _;constructor)|(show Imp _ _;constructor)|(show ImpX _ _ _ _;constructor)|(apply wC pk;(iterate 2 exact rfl))|(apply wE pk;(iterate 2 exact rfl))|(apply wX pk;exact rfl)|(apply wN pk;exact rfl)|(apply wD pk [] [];kernel_rfl;exact rfl;exact rfl)|(apply aB;simp only [zqt,zqf])|(refine aC rfl (fun h=> ?_) (fun h=> ?_)<;>(try simp at h)<;>try (exfalso;omega))|(refine aD ?_;refine ⟨_,_,_,rfl,Wk.refl _,StSub.refl _, ?_,rfl⟩;try rfl)|(intros;(try simp only [zql]);omega)))
theorem avP (t:Tb) (k:Nat) (hl:t.cols.length<200000000000000) (hk:k<t.cols.length):PF Tryz.prog 122 [(PV.val (Value.int .i64 ((k:Nat)))), .rp t.cells] (PV.val (Value.int .i64 (alZ t k))):=by
  have hn:=xS t.cols[k].name
  have hc:=alJ 123 [.rp t.cols[k].cells] (fun x=>decide (x.name=t.cols[k].name)) (t.cols.take k) (by rw [List.length_take];omega) fun p=>apA p _
  have e:alZ t k=aqO (t.cols.take k) t.cols[k]:=by unfold alZ;rw [getElem!_pos t.cols k hk]
  rw [e]
  unfold aqO
  generalize uM t.cols[k].name=N at*
  generalize ((t.cols.take k).any fun x=>decide (x.name=t.cols[k].name))=A at*
  have hE:(((t.cols.drop 0).take (k-0)).map Co.cells)=(t.cols.take k).map Co.cells:=by simp
  refine aK aG Tryz.func122 (by kernel_rfl) rfl rfl rfl rfl (fun st=> ?_)
  (try (apply wO pk;exact rfl));(repeat' (first|(show All _;constructor)|(show Imp _ _;constructor)|(show ImpX _ _ _ _;constructor)|(apply wC pk;(iterate 2 exact rfl))|(apply wE pk;(iterate 2 exact rfl))|(apply wX pk;exact rfl)|(apply wN pk;exact rfl)|(apply wD pk [] [];kernel_rfl;exact rfl;exact rfl)|(apply aB;simp only [zqt,zqf])|(refine aC rfl (fun h=> ?_) (fun h=> ?_)<;>(try simp at h)<;>try (exfalso;omega))|(refine aD ?_;refine ⟨_,_,_,rfl,Wk.refl _,StSub.refl _, ?_,rfl⟩;try first|rfl|((congr 2;grind);done))|(apply aL;(iterate 3 exact rfl);(intro _;(first|apply hn|apply hc)<;>first|assumption|omega);rotate_left;(iterate 2 exact rfl))|(apply bC pk;(iterate 6 exact rfl);rotate_left;exact rfl;(intro hw;exact rfl);(intro hw;apply aM<;>omega);(intro _;exact rfl);exact rfl)|(apply cP 4;exact rfl;exact rfl)|((apply slS pk (f:=Co.cells) (xs:=t.cols) 0 k;(iterate 5 exact rfl);rotate_left;exact rfl;(intro _;rfl);(intro _;exact bU);(intro _;exact bF rfl rfl);(intro _;omega);(intro _;omega);exact rfl;rw [hE]))|(intros;(try simp only [zql]);omega)))
theorem zC (t:Tb) (hl:t.cols.length<200000000000000):PF Tryz.prog 81 [.agg t.cells] (PV.val (Value.int .i64 (dL (alZ t) t.cols.length))):=by
  have e:(t.cols.map Co.cells).length=t.cols.length:=zql _
  have h:=fZ 122 [.rp t.cells] (alZ t) (t.cols.map Co.cells).length (by omega) fun k hk _=>avP t k hl (by omega)
  rw [←e]
  refine aK aG Tryz.func81 (by kernel_rfl) rfl rfl rfl rfl (fun st=> ?_)
  (try (apply wO pk;exact rfl));(repeat' (first|(show All _;constructor)|(show Imp _ _;constructor)|(show ImpX _ _ _ _;constructor)|(apply wC pk;(iterate 2 exact rfl))|(apply wE pk;(iterate 2 exact rfl))|(apply wX pk;exact rfl)|(apply wN pk;exact rfl)|(apply wD pk [] [];kernel_rfl;exact rfl;exact rfl)|(apply aB;simp only [zqt,zqf])|(refine aC rfl (fun h=> ?_) (fun h=> ?_)<;>(try simp at h)<;>try (exfalso;omega))|(refine aD ?_;refine ⟨_,_,_,rfl,Wk.refl _,StSub.refl _, ?_,rfl⟩;try first|rfl|(rfl;done))|(apply aL;(iterate 3 exact rfl);(intro _;apply h<;>first|assumption|omega);rotate_left;(iterate 2 exact rfl))|(apply cP 1;exact rfl;exact rfl)|(intros;(try simp only [zql]);omega)))
theorem tL {t:Tb} {i:Int} (h:lZ t i=true):∃j:Nat,i=j∧∃h:j<t.cols.length,jA t i=t.cols[j]:=by
  unfold lZ at h
  simp only [Bool.and_eq_true,decide_eq_true_eq] at h
  refine ⟨i.toNat,by omega,by omega, ?_⟩
  unfold jA
  rw [getElem!_pos t.cols i.toNat (by omega)]
def acR (h:Bool) (p:Bool) (n:Bool):Int:=if h=false then 4 else if p=true then 1 else if n=false then 6 else 0
def abD (t:Tb) (k:Nat):Int:=acR (lZ t t.unique[k]!) (decide (0<k)&&decide (t.unique[k]!≤t.unique[k-1]!)) (jY (jA t t.unique[k]!))
theorem asV (t:Tb) (k:Nat) (hl:t.cols.length<200000000000000) (hu:t.unique.length<200000000000000) (hk:k<t.unique.length):PF Tryz.prog 125 [(PV.val (Value.int .i64 ((k:Nat)))), .rp t.cells] (PV.val (Value.int .i64 (abD t k))):=by
  have hh:=pJ t t.unique[k]
  have e:abD t k=acR (lZ t t.unique[k]) (decide (0<k)&&decide (t.unique[k]≤t.unique[k-1]'(by omega))) (jY (jA t t.unique[k])):=by
    unfold abD;rw [getElem!_pos t.unique k hk,getElem!_pos t.unique (k-1) (by omega)]
  rw [e]
  unfold acR
  cases hc:lZ t t.unique[k] with
  |false=>
    rw [hc] at hh
    refine aK aG Tryz.func125 (by kernel_rfl) rfl rfl rfl rfl (fun st=> ?_)
    (try (apply wO pk;exact rfl));(repeat' (first|(show All _;constructor)|(show Imp _ _;constructor)|(show ImpX _ _ _ _;constructor)|(apply wC pk;(iterate 2 exact rfl))|(apply wE pk;(iterate 2 exact rfl))|(apply wX pk;exact rfl)|(apply wN pk;exact rfl)|(apply wD pk [] [];kernel_rfl;exact rfl;exact rfl)|(apply aB;simp only [zqt,zqf])|(refine aC rfl (fun h=> ?_) (fun h=> ?_)<;>(try simp at h)<;>try (exfalso;omega))|(refine aD ?_;refine ⟨_,_,_,rfl,Wk.refl _,StSub.refl _, ?_,rfl⟩;try rfl)|(apply aL;(iterate 3 exact rfl);(intro _;apply hh<;>first|assumption|omega);rotate_left;(iterate 2 exact rfl))|(apply bC pk;(iterate 6 exact rfl);rotate_left;exact rfl;(intro hw;exact rfl);(intro hw;apply aM<;>omega);(intro _;exact rfl);exact rfl)|(intros;(try simp only [zql]);omega)))
  |true=>
    rw [hc] at hh
    obtain ⟨j,hj,hjl,hj2⟩:=tL hc
    rw [hj2]
    have hnn:=dG t.cols[j]
    generalize jY t.cols[j]=N at*
    rcases Nat.eq_zero_or_pos k with rfl|hpos
    · refine aK aG Tryz.func125 (by kernel_rfl) rfl rfl rfl rfl (fun st=> ?_)
      (try (apply wO pk;exact rfl));(repeat' (first|(show All _;constructor)|(show Imp _ _;constructor)|(show ImpX _ _ _ _;constructor)|(apply wC pk;(iterate 2 exact rfl))|(apply wE pk;(iterate 2 exact rfl))|(apply wX pk;exact rfl)|(apply wN pk;exact rfl)|(apply wD pk [] [];kernel_rfl;exact rfl;exact rfl)|(apply aB;simp only [zqt,zqf])|(refine aC rfl (fun h=> ?_) (fun h=> ?_)<;>(try simp at h)<;>try (exfalso;omega))|(refine aD ?_;refine ⟨_,_,_,rfl,Wk.refl _,StSub.refl _, ?_,rfl⟩;try first|rfl|((congr 2;grind);done))|(apply aL;(iterate 3 exact rfl);(intro _;(first|apply hh|apply hnn)<;>first|assumption|omega);rotate_left;(iterate 2 exact rfl))|(apply bC pk;(iterate 6 exact rfl);rotate_left;exact rfl;(intro hw;exact (by first|rfl|exact hj|(exact (show _=((0:Nat):Int) from (qM hw).elim))));(intro hw;apply aM<;>omega);(intro _;exact rfl);exact rfl)|(intros;(try simp only [zql]);omega)))
    · obtain ⟨m,rfl⟩:∃m,k=m+1:=⟨k-1,by omega⟩
      refine aK aG Tryz.func125 (by kernel_rfl) rfl rfl rfl rfl (fun st=> ?_)
      (try (apply wO pk;exact rfl));(repeat' (first|(show All _;constructor)|(show Imp _ _;constructor)|(show ImpX _ _ _ _;constructor)|(apply wC pk;(iterate 2 exact rfl))|(apply wE pk;(iterate 2 exact rfl))|(apply wX pk;exact rfl)|(apply wN pk;exact rfl)|(apply wD pk [] [];kernel_rfl;exact rfl;exact rfl)|(apply aB;simp only [zqt,zqf])|(refine aC rfl (fun h=> ?_) (fun h=> ?_)<;>(try simp at h)<;>try (exfalso;omega))|(refine aD ?_;refine ⟨_,_,_,rfl,Wk.refl _,StSub.refl _, ?_,rfl⟩;try first|rfl|((congr 2;grind);done))|(apply aL;(iterate 3 exact rfl);(intro _;(first|apply hh|apply hnn)<;>first|assumption|omega);rotate_left;(iterate 2 exact rfl))|(apply bC pk;(iterate 6 exact rfl);rotate_left;exact rfl;(intro hw;exact (by first|rfl|exact hj|exact (show ((((m+1:Nat):Int))-1=((m:Nat):Int)) from by omega)));(intro hw;apply aM<;>omega);(intro _;exact rfl);exact rfl)|(intros;(try simp only [zql]);omega)))
theorem zO (t:Tb) (hl:t.cols.length<200000000000000) (hu:t.unique.length<200000000000000):PF Tryz.prog 85 [.agg t.cells] (PV.val (Value.int .i64 (dL (abD t) t.unique.length))):=by
  have e:(t.unique.map I1).length=t.unique.length:=zql _
  have h:=fZ 125 [.rp t.cells] (abD t) (t.unique.map I1).length (by omega) fun k hk _=>asV t k hl hu (by omega)
  rw [←e]
  refine aK aG Tryz.func85 (by kernel_rfl) rfl rfl rfl rfl (fun st=> ?_)
  (try (apply wO pk;exact rfl));(repeat' (first|(show All _;constructor)|(show Imp _ _;constructor)|(show ImpX _ _ _ _;constructor)|(apply wC pk;(iterate 2 exact rfl))|(apply wE pk;(iterate 2 exact rfl))|(apply wX pk;exact rfl)|(apply wN pk;exact rfl)|(apply wD pk [] [];kernel_rfl;exact rfl;exact rfl)|(apply aB;simp only [zqt,zqf])|(refine aC rfl (fun h=> ?_) (fun h=> ?_)<;>(try simp at h)<;>try (exfalso;omega))|(refine aD ?_;refine ⟨_,_,_,rfl,Wk.refl _,StSub.refl _, ?_,rfl⟩;try first|rfl|(rfl;done))|(apply aL;(iterate 3 exact rfl);(intro _;apply h<;>first|assumption|omega);rotate_left;(iterate 2 exact rfl))|(apply cP 1;exact rfl;exact rfl)|(intros;(try simp only [zql]);omega)))
def adU (h:Bool) (b:Bool) (p:Bool) (a:Bool) (n:Bool) (z:Bool):Int:=if h=false∨b=true then 4 else if p=true∨a=true then 1 else if n=false∨z=true then 6 else 0
def afQ (m:Nat) (t:Tb) (k:Nat):Int:=adU (lZ t t.foreign[k]!.col) (decide (t.foreign[k]!.table<0)||decide (t.foreign[k]!.table≥m)) (decide (0<k)&&decide (t.foreign[k]!.col≤t.foreign[k-1]!.col)) (decide (t.foreign[k]!.act<0)||decide (t.foreign[k]!.act>2)) (jY (jA t t.foreign[k]!.col)) (decide (t.foreign[k]!.act=2)&& !(jA t t.foreign[k]!.col).null)
theorem asS (s:Sc) (t:Tb) (k:Nat) (hl:t.cols.length<200000000000000) (hu:t.foreign.length<200000000000000) (hk:k<t.foreign.length):PF Tryz.prog 127 [(PV.val (Value.int .i64 ((k:Nat)))), .rp t.cells, .rp (scC s)] (PV.val (Value.int .i64 (afQ s.length t k))):=by
  have hh:=pJ t t.foreign[k].col
  have e:afQ s.length t k=adU (lZ t t.foreign[k].col) (decide (t.foreign[k].table<0)||decide (t.foreign[k].table≥s.length)) (decide (0<k)&&decide (t.foreign[k].col≤(t.foreign[k-1]'(by omega)).col)) (decide (t.foreign[k].act<0)||decide (t.foreign[k].act>2)) (jY (jA t t.foreign[k].col)) (decide (t.foreign[k].act=2)&& !(jA t t.foreign[k].col).null):=by
    unfold afQ;rw [getElem!_pos t.foreign k hk,getElem!_pos t.foreign (k-1) (by omega)]
  rw [e]
  unfold adU
  have el:(s.map Tb.cells).length=s.length:=zql _
  rw [←el]
  cases hc:lZ t t.foreign[k].col with
  |false=>
    rw [hc] at hh
    refine aK aG Tryz.func127 (by kernel_rfl) rfl rfl rfl rfl (fun st=> ?_)
    (try (apply wO pk;exact rfl));(repeat' (first|(show All _;constructor)|(show Imp _ _;constructor)|(show ImpX _ _ _ _;constructor)|(apply wC pk;(iterate 2 exact rfl))|(apply wE pk;(iterate 2 exact rfl))|(apply wX pk;exact rfl)|(apply wN pk;exact rfl)|(apply wD pk [] [];kernel_rfl;exact rfl;exact rfl)|(apply aB;simp only [zqt,zqf])|(refine aC rfl (fun h=> ?_) (fun h=> ?_)<;>(try simp at h)<;>try (exfalso;omega))|(refine aD ?_;refine ⟨_,_,_,rfl,Wk.refl _,StSub.refl _, ?_,rfl⟩;try rfl)|(apply aL;(iterate 3 exact rfl);(intro _;apply hh<;>first|assumption|omega);rotate_left;(iterate 2 exact rfl))|(apply bC pk;(iterate 6 exact rfl);rotate_left;exact rfl;(intro hw;exact rfl);(intro hw;apply aM<;>omega);(intro _;exact rfl);exact rfl)|(intros;(try simp only [zql]);omega)))
  |true=>
    rw [hc] at hh
    obtain ⟨j,hj,hjl,hj2⟩:=tL hc
    rw [hj2]
    have hnn:=dG t.cols[j]
    generalize jY t.cols[j]=N at*
    rcases Nat.eq_zero_or_pos k with rfl|hpos
    · refine aK aG Tryz.func127 (by kernel_rfl) rfl rfl rfl rfl (fun st=> ?_)
      (try (apply wO pk;exact rfl));(repeat' (first|(show All _;constructor)|(show Imp _ _;constructor)|(show ImpX _ _ _ _;constructor)|(apply wC pk;(iterate 2 exact rfl))|(apply wE pk;(iterate 2 exact rfl))|(apply wX pk;exact rfl)|(apply wN pk;exact rfl)|(apply wD pk [] [];kernel_rfl;exact rfl;exact rfl)|(apply aB;simp only [zqt,zqf])|(refine aC rfl (fun h=> ?_) (fun h=> ?_)<;>(try simp at h)<;>try (exfalso;omega))|(refine aD ?_;refine ⟨_,_,_,rfl,Wk.refl _,StSub.refl _, ?_,rfl⟩;try first|rfl|((congr 2;grind);done))|(apply aL;(iterate 3 exact rfl);(intro _;(first|apply hh|apply hnn)<;>first|assumption|omega);rotate_left;(iterate 2 exact rfl))|(apply bC pk;(iterate 6 exact rfl);rotate_left;exact rfl;(intro hw;exact (by first|rfl|exact hj|(exact (show _=((0:Nat):Int) from (qM hw).elim))));(intro hw;apply aM<;>omega);(intro _;exact rfl);exact rfl)|(intros;(try simp only [zql]);omega)))
    · obtain ⟨m,rfl⟩:∃m,k=m+1:=⟨k-1,by omega⟩
      refine aK aG Tryz.func127 (by kernel_rfl) rfl rfl rfl rfl (fun st=> ?_)
      (try (apply wO pk;exact rfl));(repeat' (first|(show All _;constructor)|(show Imp _ _;constructor)|(show ImpX _ _ _ _;constructor)|(apply wC pk;(iterate 2 exact rfl))|(apply wE pk;(iterate 2 exact rfl))|(apply wX pk;exact rfl)|(apply wN pk;exact rfl)|(apply wD pk [] [];kernel_rfl;exact rfl;exact rfl)|(apply aB;simp only [zqt,zqf])|(refine aC rfl (fun h=> ?_) (fun h=> ?_)<;>(try simp at h)<;>try (exfalso;omega))|(refine aD ?_;refine ⟨_,_,_,rfl,Wk.refl _,StSub.refl _, ?_,rfl⟩;try first|rfl|((congr 2;grind);done))|(apply aL;(iterate 3 exact rfl);(intro _;(first|apply hh|apply hnn)<;>first|assumption|omega);rotate_left;(iterate 2 exact rfl))|(apply bC pk;(iterate 6 exact rfl);rotate_left;exact rfl;(intro hw;exact (by first|rfl|exact hj|exact (show ((((m+1:Nat):Int))-1=((m:Nat):Int)) from by omega)));(intro hw;apply aM<;>omega);(intro _;exact rfl);exact rfl)|(intros;(try simp only [zql]);omega)))
theorem wG (s:Sc) (t:Tb) (hl:t.cols.length<200000000000000) (hu:t.foreign.length<200000000000000):PF Tryz.prog 87 [.agg (scC s), .agg t.cells] (PV.val (Value.int .i64 (dL (afQ s.length t) t.foreign.length))):=by
  have e:(t.foreign.map Fr.cells).length=t.foreign.length:=zql _
  have h:=fZ 127 [.rp t.cells, .rp (scC s)] (afQ s.length t) (t.foreign.map Fr.cells).length (by omega) fun k hk _=>asS s t k hl hu (by omega)
  rw [←e]
  refine aK aG Tryz.func87 (by kernel_rfl) rfl rfl rfl rfl (fun st=> ?_)
  (try (apply wO pk;exact rfl));(repeat' (first|(show All _;constructor)|(show Imp _ _;constructor)|(show ImpX _ _ _ _;constructor)|(apply wC pk;(iterate 2 exact rfl))|(apply wE pk;(iterate 2 exact rfl))|(apply wX pk;exact rfl)|(apply wN pk;exact rfl)|(apply wD pk [] [];kernel_rfl;exact rfl;exact rfl)|(apply aB;simp only [zqt,zqf])|(refine aC rfl (fun h=> ?_) (fun h=> ?_)<;>(try simp at h)<;>try (exfalso;omega))|(refine aD ?_;refine ⟨_,_,_,rfl,Wk.refl _,StSub.refl _, ?_,rfl⟩;try first|rfl|(rfl;done))|(apply aL;(iterate 3 exact rfl);(intro _;apply h<;>first|assumption|omega);rotate_left;(iterate 2 exact rfl))|(apply cP 3;exact rfl;exact rfl)|(apply cP 2;exact rfl;exact rfl)|(intros;(try simp only [zql]);omega)))
def adN (h:Bool) (a:Bool) (n:Bool) (p:Bool):Int:=if h=false then 4 else if a=true then 1 else if n=false then 6 else if p=true then 5 else 0
def acJ (t:Tb) (k:Nat):Int:=adN (lZ t t.sums[k]!.col&&lZ t t.sums[k]!.by_) ((decide (t.sums[k]!.col=t.sums[k]!.by_)||decide (t.sums[k]!.max<0))||decide (t.sums[k]!.max>1099511627776)) (jY (jA t t.sums[k]!.col)&&jY (jA t t.sums[k]!.by_)) ((t.sums.take k).any fun y=>decide (y.col=t.sums[k]!.col)&&decide (y.by_=t.sums[k]!.by_))
theorem anS (x c:Su):PF Tryz.prog 129 [.agg x.cells, .rp c.cells] (PV.val (Value.bool (decide (x.col=c.col)&&decide (x.by_=c.by_)))):=by
  refine aK aG Tryz.func129 (by kernel_rfl) rfl rfl rfl rfl (fun st=> ?_)
  (try (apply wO pk;exact rfl));(repeat' (first|(show All _;constructor)|(show Imp _ _;constructor)|(show ImpX _ _ _ _;constructor)|(apply wC pk;(iterate 2 exact rfl))|(apply wE pk;(iterate 2 exact rfl))|(apply wX pk;exact rfl)|(apply wN pk;exact rfl)|(apply wD pk [] [];kernel_rfl;exact rfl;exact rfl)|(apply aB;simp only [zqt,zqf])|(refine aC rfl (fun h=> ?_) (fun h=> ?_)<;>(try simp at h)<;>try (exfalso;omega))|(refine aD ?_;refine ⟨_,_,_,rfl,Wk.refl _,StSub.refl _, ?_,rfl⟩;try rfl)|(intros;(try simp only [zql]);omega)))
theorem asU (t:Tb) (k:Nat) (hl:t.cols.length<200000000000000) (hu:t.sums.length<200000000000000) (hk:k<t.sums.length):PF Tryz.prog 128 [(PV.val (Value.int .i64 ((k:Nat)))), .rp t.cells] (PV.val (Value.int .i64 (acJ t k))):=by
  have h1:=pJ t t.sums[k].col
  have h2:=pJ t t.sums[k].by_
  have hc:=ajY 129 [.rp t.sums[k].cells] (fun y=>decide (y.col=t.sums[k].col)&&decide (y.by_=t.sums[k].by_)) (t.sums.take k) (by rw [List.length_take];omega) fun p=>anS p _
  have e:acJ t k=adN (lZ t t.sums[k].col&&lZ t t.sums[k].by_) ((decide (t.sums[k].col=t.sums[k].by_)||decide (t.sums[k].max<0))||decide (t.sums[k].max>1099511627776)) (jY (jA t t.sums[k].col)&&jY (jA t t.sums[k].by_)) ((t.sums.take k).any fun y=>decide (y.col=t.sums[k].col)&&decide (y.by_=t.sums[k].by_)):=by
    unfold acJ;rw [getElem!_pos t.sums k hk]
  have hE:(((t.sums.drop 0).take (k-0)).map Su.cells)=(t.sums.take k).map Su.cells:=by simp
  rw [e]
  unfold adN
  generalize ((t.sums.take k).any fun y=>decide (y.col=t.sums[k].col)&&decide (y.by_=t.sums[k].by_))=A at*
  cases c1:lZ t t.sums[k].col with
  |false=>
    rw [c1] at h1
    refine aK aG Tryz.func128 (by kernel_rfl) rfl rfl rfl rfl (fun st=> ?_)
    (try (apply wO pk;exact rfl));(repeat' (first|(show All _;constructor)|(show Imp _ _;constructor)|(show ImpX _ _ _ _;constructor)|(apply wC pk;(iterate 2 exact rfl))|(apply wE pk;(iterate 2 exact rfl))|(apply wX pk;exact rfl)|(apply wN pk;exact rfl)|(apply wD pk [] [];kernel_rfl;exact rfl;exact rfl)|(apply aB;simp only [zqt,zqf])|(refine aC rfl (fun h=> ?_) (fun h=> ?_)<;>(try simp at h)<;>try (exfalso;omega))|(refine aD ?_;refine ⟨_,_,_,rfl,Wk.refl _,StSub.refl _, ?_,rfl⟩;try first|rfl|((congr 2;grind);done))|(apply aL;(iterate 3 exact rfl);(intro _;(first|apply h1|apply h2)<;>first|assumption|omega);rotate_left;(iterate 2 exact rfl))|(apply bC pk;(iterate 6 exact rfl);rotate_left;exact rfl;(intro hw;exact rfl);(intro hw;apply aM<;>omega);(intro _;exact rfl);exact rfl)|(apply cP 4;exact rfl;exact rfl)|(intros;(try simp only [zql]);omega)))
  |true=>
  cases c2:lZ t t.sums[k].by_ with
  |false=>
    rw [c1] at h1
    rw [c2] at h2
    refine aK aG Tryz.func128 (by kernel_rfl) rfl rfl rfl rfl (fun st=> ?_)
    (try (apply wO pk;exact rfl));(repeat' (first|(show All _;constructor)|(show Imp _ _;constructor)|(show ImpX _ _ _ _;constructor)|(apply wC pk;(iterate 2 exact rfl))|(apply wE pk;(iterate 2 exact rfl))|(apply wX pk;exact rfl)|(apply wN pk;exact rfl)|(apply wD pk [] [];kernel_rfl;exact rfl;exact rfl)|(apply aB;simp only [zqt,zqf])|(refine aC rfl (fun h=> ?_) (fun h=> ?_)<;>(try simp at h)<;>try (exfalso;omega))|(refine aD ?_;refine ⟨_,_,_,rfl,Wk.refl _,StSub.refl _, ?_,rfl⟩;try first|rfl|((congr 2;grind);done))|(apply aL;(iterate 3 exact rfl);(intro _;(first|apply h1|apply h2)<;>first|assumption|omega);rotate_left;(iterate 2 exact rfl))|(apply bC pk;(iterate 6 exact rfl);rotate_left;exact rfl;(intro hw;exact rfl);(intro hw;apply aM<;>omega);(intro _;exact rfl);exact rfl)|(apply cP 4;exact rfl;exact rfl)|(intros;(try simp only [zql]);omega)))
  |true=>
    rw [c1] at h1
    rw [c2] at h2
    obtain ⟨j,hj,hjl,hj2⟩:=tL c1
    obtain ⟨i,hi,hil,hi2⟩:=tL c2
    rw [hj2,hi2]
    have hn1:=dG t.cols[j]
    have hn2:=dG t.cols[i]
    generalize jY t.cols[j]=N at*
    generalize jY t.cols[i]=M at*
    refine aK aG Tryz.func128 (by kernel_rfl) rfl rfl rfl rfl (fun st=> ?_)
    (try (apply wO pk;exact rfl));(repeat' (first|(show All _;constructor)|(show Imp _ _;constructor)|(show ImpX _ _ _ _;constructor)|(apply wC pk;(iterate 2 exact rfl))|(apply wE pk;(iterate 2 exact rfl))|(apply wX pk;exact rfl)|(apply wN pk;exact rfl)|(apply wD pk [] [];kernel_rfl;exact rfl;exact rfl)|(apply aB;simp only [zqt,zqf])|(refine aC rfl (fun h=> ?_) (fun h=> ?_)<;>(try simp at h)<;>try (exfalso;omega))|(refine aD ?_;refine ⟨_,_,_,rfl,Wk.refl _,StSub.refl _, ?_,rfl⟩;try first|rfl|((congr 2;grind);done))|(apply aL;(iterate 3 exact rfl);(intro _;(first|apply h1|apply h2|apply hn1|apply hn2|apply hc)<;>first|assumption|omega);rotate_left;(iterate 2 exact rfl))|(apply bC pk;(iterate 6 exact rfl);rotate_left;exact rfl;(intro hw;exact (by first|rfl|exact hj|exact hi));(intro hw;apply aM<;>omega);(intro _;exact rfl);exact rfl)|(apply cP 4;exact rfl;exact rfl)|((apply slS pk (f:=Su.cells) (xs:=t.sums) 0 k;(iterate 5 exact rfl);rotate_left;exact rfl;(intro _;rfl);(intro _;exact bU);(intro _;exact bF rfl rfl);(intro _;omega);(intro _;omega);exact rfl;rw [hE]))|(intros;(try simp only [zql]);omega)))
theorem akI (t:Tb) (hl:t.cols.length<200000000000000) (hu:t.sums.length<200000000000000):PF Tryz.prog 89 [.agg t.cells] (PV.val (Value.int .i64 (dL (acJ t) t.sums.length))):=by
  have e:(t.sums.map Su.cells).length=t.sums.length:=zql _
  have h:=fZ 128 [.rp t.cells] (acJ t) (t.sums.map Su.cells).length (by omega) fun k hk _=>asU t k hl hu (by omega)
  rw [←e]
  refine aK aG Tryz.func89 (by kernel_rfl) rfl rfl rfl rfl (fun st=> ?_)
  (try (apply wO pk;exact rfl));(repeat' (first|(show All _;constructor)|(show Imp _ _;constructor)|(show ImpX _ _ _ _;constructor)|(apply wC pk;(iterate 2 exact rfl))|(apply wE pk;(iterate 2 exact rfl))|(apply wX pk;exact rfl)|(apply wN pk;exact rfl)|(apply wD pk [] [];kernel_rfl;exact rfl;exact rfl)|(apply aB;simp only [zqt,zqf])|(refine aC rfl (fun h=> ?_) (fun h=> ?_)<;>(try simp at h)<;>try (exfalso;omega))|(refine aD ?_;refine ⟨_,_,_,rfl,Wk.refl _,StSub.refl _, ?_,rfl⟩;try first|rfl|(rfl;done))|(apply aL;(iterate 3 exact rfl);(intro _;apply h<;>first|assumption|omega);rotate_left;(iterate 2 exact rfl))|(apply cP 1;exact rfl;exact rfl)|(intros;(try simp only [zql]);omega)))
theorem alO (t:Tb) (n:ByteArray):PF Tryz.prog 120 [.agg t.cells, .rp [(PV.val (Value.string (n)))]] (PV.val (Value.bool (decide (t.name=n)))):=by
  refine aK aG Tryz.func120 (by kernel_rfl) rfl rfl rfl rfl (fun st=> ?_)
  (try (apply wO pk;exact rfl));(repeat' (first|(show All _;constructor)|(show Imp _ _;constructor)|(show ImpX _ _ _ _;constructor)|(apply wC pk;(iterate 2 exact rfl))|(apply wE pk;(iterate 2 exact rfl))|(apply wX pk;exact rfl)|(apply wN pk;exact rfl)|(apply wD pk [] [];kernel_rfl;exact rfl;exact rfl)|(apply aB;simp only [zqt,zqf])|(refine aC rfl (fun h=> ?_) (fun h=> ?_)<;>(try simp at h)<;>try (exfalso;omega))|(refine aD ?_;refine ⟨_,_,_,rfl,Wk.refl _,StSub.refl _, ?_,rfl⟩;try rfl)|(intros;(try simp only [zql]);omega)))
def akB (s:Sc) (n:ByteArray):Int:=dY (fun t:Tb=>decide (t.name=n)) s
theorem agU (s:Sc) (n:ByteArray) (hl:s.length<200000000000000):PF Tryz.prog 78 [.agg (scC s),(PV.val (Value.string (n)))] (.tup [(PV.val (Value.int .i64 (max (akB s n) 0))),(PV.val (Value.bool (decide (akB s n≥0))))]):=by
  have h:=akQ 120 [.rp [(PV.val (Value.string (n)))]] (fun t=>decide (t.name=n)) s (by omega) fun p=>alO p n
  change PF _ _ _ (PV.val (Value.int .i64 (akB s n))) at h
  generalize akB s n=R at*
  refine aK aG Tryz.func78 (by kernel_rfl) rfl rfl rfl rfl (fun st=> ?_)
  (try (apply wO pk;exact rfl));(repeat' (first|(show All _;constructor)|(show Imp _ _;constructor)|(show ImpX _ _ _ _;constructor)|(apply wC pk;(iterate 2 exact rfl))|(apply wE pk;(iterate 2 exact rfl))|(apply wX pk;exact rfl)|(apply wN pk;exact rfl)|(apply wD pk [] [];kernel_rfl;exact rfl;exact rfl)|(apply aB;simp only [zqt,zqf])|(refine aC rfl (fun h=> ?_) (fun h=> ?_)<;>(try simp at h)<;>try (exfalso;omega))|(refine aD ?_;refine ⟨_,_,_,rfl,Wk.refl _,StSub.refl _, ?_,rfl⟩;try first|rfl|((congr 3;grind);done))|(apply aL;(iterate 3 exact rfl);(intro _;apply h<;>first|assumption|omega);rotate_left;(iterate 2 exact rfl))|(apply cP 3;exact rfl;exact rfl)|(intros;(try simp only [zql]);omega)))
def ayD (s:Sc) (k:Nat):Bool:=(s.take k).any fun t=>decide (t.name=s[k]!.name)
theorem auA {α:Type} {f:α→Bool} {l:List α} {k:Nat} (hk:k<l.length) (hf:f l[k]=true):decide (max (dY f l) 0<k)=(l.take k).any f:=by
  unfold dY
  cases h:l.findIdx? f with
  |none=>rw [List.findIdx?_eq_none_iff.1 h _ (List.getElem_mem hk)] at hf;cases hf
  |some j=>
    obtain ⟨hj,hfj,hn⟩:=List.findIdx?_eq_some_iff_getElem.1 h
    rw [Bool.eq_iff_iff,List.any_eq_true,decide_eq_true_eq]
    show max ((j:Nat):Int) 0<k↔_
    constructor
    · intro q
      exact ⟨l[j],List.mem_take_iff_getElem.2 ⟨j,by omega,rfl⟩,hfj⟩
    · rintro ⟨x,hx,hfx⟩
      obtain ⟨i,hi,rfl⟩:=List.mem_take_iff_getElem.1 hx
      rcases Nat.lt_or_ge i j with q|q
      · exact absurd hfx (by simpa using hn i q)
      · omega
def lk0 (s:Sc) (k:Nat):Int:=if uM s[k]!.name=false then 1 else if ayD s k=true then 5 else 0
def lk1 (t:Tb):Int:=if t.cols.length<1∨t.cols.length>16∨t.checks.length>16∨t.unique.length>16∨t.foreign.length>16∨t.sums.length>16 then 2 else 0
def lk2 (t:Tb):Int:=dL (alZ t) t.cols.length
def lk3 (t:Tb):Int:=if jY t.cols[0]! =false∨t.cols[0]!.null=true then 6 else 0
def lk4 (t:Tb):Int:=dL (abD t) t.unique.length
def lk5 (m:Nat) (t:Tb):Int:=dL (afQ m t) t.foreign.length
def lk6 (t:Tb):Int:=dL (acJ t) t.sums.length
def lks (s:Sc) (k:Nat):List Int:=[lk0 s k,lk1 s[k]!,lk2 s[k]!,lk3 s[k]!,lk4 s[k]!,lk5 s.length s[k]!,lk6 s[k]!]
def afX (s:Sc) (k:Nat):Int:=orI (lks s k)
def cC (s:Sc):Int:=if s.length<1∨s.length>16 then 2 else dL (afX s) s.length
structure TbB (t:Tb):Prop where
  c:t.cols.length<200000000000000
  u:t.unique.length<200000000000000
  k:t.checks.length<200000000000000
  f:t.foreign.length<200000000000000
  s:t.sums.length<200000000000000
theorem apN (s:Sc) (k:Nat) (hl:s.length<200000000000000) (hk:k<s.length):PF Tryz.prog 76 [.agg (scC s),(PV.val (Value.int .i64 ((k:Nat))))] (PV.val (Value.int .i64 (lk0 s k))):=by
  have hn:=xS s[k].name
  have ht:=agU s s[k].name hl
  have hd:=auA (f:=fun t:Tb=>decide (t.name=s[k].name)) hk (decide_eq_true rfl)
  change decide (max (akB s s[k].name) 0<(k:Nat))=_ at hd
  have e:lk0 s k=if uM s[k].name=false then 1 else if ((s.take k).any fun t=>decide (t.name=s[k].name))=true then 5 else 0:=by unfold lk0 ayD;rw [getElem!_pos s k hk]
  rw [e,←hd]
  generalize uM s[k].name=N at*
  generalize akB s s[k].name=R at*
  refine aK aG Tryz.func76 (by kernel_rfl) rfl rfl rfl rfl (fun st=> ?_)
  (try (apply wO pk;exact rfl));(repeat' (first|(show All _;constructor)|(show Imp _ _;constructor)|(show ImpX _ _ _ _;constructor)|(apply wC pk;(iterate 2 exact rfl))|(apply wE pk;(iterate 2 exact rfl))|(apply wX pk;exact rfl)|(apply wN pk;exact rfl)|(apply wD pk [] [];kernel_rfl;exact rfl;exact rfl)|(apply aB;simp only [zqt,zqf])|(refine aC rfl (fun h=> ?_) (fun h=> ?_)<;>(try simp at h)<;>try (exfalso;omega))|(refine aD ?_;refine ⟨_,_,_,rfl,Wk.refl _,StSub.refl _, ?_,rfl⟩;try first|rfl|((congr 2;grind);done))|(apply aL;(iterate 3 exact rfl);(intro _;(first|apply hn|apply ht)<;>first|assumption|omega);rotate_left;(iterate 2 exact rfl))|(apply bC pk;(iterate 6 exact rfl);rotate_left;exact rfl;(intro hw;exact rfl);(intro hw;apply aM<;>omega);(intro _;exact rfl);exact rfl)|(intros;(try simp only [zql]);omega)))
theorem aqX (s:Sc) (k:Nat) (hk:k<s.length) (hB:TbB s[k]):PF Tryz.prog 79 [.agg (scC s),(PV.val (Value.int .i64 ((k:Nat))))] (PV.val (Value.int .i64 (lk1 s[k]!))):=by
  rw [getElem!_pos s k hk]
  obtain ⟨b1,b2,b3,b4,b5⟩:=hB
  unfold lk1
  refine aK aG Tryz.func79 (by kernel_rfl) rfl rfl rfl rfl (fun st=> ?_)
  (try (apply wO pk;exact rfl));(repeat' (first|(show All _;constructor)|(show Imp _ _;constructor)|(show ImpX _ _ _ _;constructor)|(apply wC pk;(iterate 2 exact rfl))|(apply wE pk;(iterate 2 exact rfl))|(apply wX pk;exact rfl)|(apply wN pk;exact rfl)|(apply wD pk [] [];kernel_rfl;exact rfl;exact rfl)|(apply aB;simp only [zqt,zqf])|(refine aC rfl (fun h=> ?_) (fun h=> ?_)<;>(try simp at h)<;>try (exfalso;omega))|(refine aD ?_;refine ⟨_,_,_,rfl,Wk.refl _,StSub.refl _, ?_,rfl⟩;try first|rfl|((first|(rw [if_pos (by omega)];done)|(rw [if_neg (by omega)];done));done))|(apply bC pk;(iterate 6 exact rfl);rotate_left;exact rfl;(intro hw;exact rfl);(intro hw;apply aM<;>omega);(intro _;exact rfl);exact rfl)|((apply aAh;(iterate 6 exact rfl);rotate_left;exact rfl;exact rfl))|(intros;(try simp only [zql]);omega)))
theorem anL (s:Sc) (k:Nat) (hk:k<s.length) (hB:TbB s[k]):PF Tryz.prog 80 [.agg (scC s),(PV.val (Value.int .i64 ((k:Nat))))] (PV.val (Value.int .i64 (lk2 s[k]!))):=by
  rw [getElem!_pos s k hk]
  have h:=zC s[k] hB.c
  change PF _ _ _ (PV.val (Value.int .i64 (lk2 s[k]))) at h
  refine aK aG Tryz.func80 (by kernel_rfl) rfl rfl rfl rfl (fun st=> ?_)
  (try (apply wO pk;exact rfl));(repeat' (first|(show All _;constructor)|(show Imp _ _;constructor)|(show ImpX _ _ _ _;constructor)|(apply wC pk;(iterate 2 exact rfl))|(apply wE pk;(iterate 2 exact rfl))|(apply wX pk;exact rfl)|(apply wN pk;exact rfl)|(apply wD pk [] [];kernel_rfl;exact rfl;exact rfl)|(apply aB;simp only [zqt,zqf])|(refine aC rfl (fun h=> ?_) (fun h=> ?_)<;>(try simp at h)<;>try (exfalso;omega))|(refine aD ?_;refine ⟨_,_,_,rfl,Wk.refl _,StSub.refl _, ?_,rfl⟩;try first|rfl|(rfl;done))|(apply aL;(iterate 3 exact rfl);(intro _;apply h<;>first|assumption|omega);rotate_left;(iterate 2 exact rfl))|(apply bC pk;(iterate 6 exact rfl);rotate_left;exact rfl;(intro hw;exact rfl);(intro hw;apply aM<;>omega);(intro _;exact rfl);exact rfl)|(intros;(try simp only [zql]);omega)))
theorem aqD (s:Sc) (k:Nat) (hk:k<s.length) (hc:0<s[k].cols.length):PF Tryz.prog 82 [.agg (scC s),(PV.val (Value.int .i64 ((k:Nat))))] (PV.val (Value.int .i64 (lk3 s[k]!))):=by
  rw [getElem!_pos s k hk]
  unfold lk3
  rw [getElem!_pos s[k].cols 0 hc]
  have h:=dG s[k].cols[0]
  generalize jY s[k].cols[0]=N at*
  refine aK aG Tryz.func82 (by kernel_rfl) rfl rfl rfl rfl (fun st=> ?_)
  (try (apply wO pk;exact rfl));(repeat' (first|(show All _;constructor)|(show Imp _ _;constructor)|(show ImpX _ _ _ _;constructor)|(apply wC pk;(iterate 2 exact rfl))|(apply wE pk;(iterate 2 exact rfl))|(apply wX pk;exact rfl)|(apply wN pk;exact rfl)|(apply wD pk [] [];kernel_rfl;exact rfl;exact rfl)|(apply aB;simp only [zqt,zqf])|(refine aC rfl (fun h=> ?_) (fun h=> ?_)<;>(try simp at h)<;>try (exfalso;omega))|(refine aD ?_;refine ⟨_,_,_,rfl,Wk.refl _,StSub.refl _, ?_,rfl⟩;try first|rfl|((congr 2;grind);done))|(apply aL;(iterate 3 exact rfl);(intro _;apply h<;>first|assumption|omega);rotate_left;(iterate 2 exact rfl))|(apply bC pk;(iterate 6 exact rfl);rotate_left;exact rfl;(intro hw;exact rfl);(intro hw;apply aM<;>omega);(intro _;exact rfl);exact rfl)|(intros;(try simp only [zql]);omega)))
theorem arI (s:Sc) (k:Nat) (hk:k<s.length) (hB:TbB s[k]):PF Tryz.prog 84 [.agg (scC s),(PV.val (Value.int .i64 ((k:Nat))))] (PV.val (Value.int .i64 (lk4 s[k]!))):=by
  rw [getElem!_pos s k hk]
  have h:=zO s[k] hB.c hB.u
  change PF _ _ _ (PV.val (Value.int .i64 (lk4 s[k]))) at h
  refine aK aG Tryz.func84 (by kernel_rfl) rfl rfl rfl rfl (fun st=> ?_)
  (try (apply wO pk;exact rfl));(repeat' (first|(show All _;constructor)|(show Imp _ _;constructor)|(show ImpX _ _ _ _;constructor)|(apply wC pk;(iterate 2 exact rfl))|(apply wE pk;(iterate 2 exact rfl))|(apply wX pk;exact rfl)|(apply wN pk;exact rfl)|(apply wD pk [] [];kernel_rfl;exact rfl;exact rfl)|(apply aB;simp only [zqt,zqf])|(refine aC rfl (fun h=> ?_) (fun h=> ?_)<;>(try simp at h)<;>try (exfalso;omega))|(refine aD ?_;refine ⟨_,_,_,rfl,Wk.refl _,StSub.refl _, ?_,rfl⟩;try first|rfl|(rfl;done))|(apply aL;(iterate 3 exact rfl);(intro _;apply h<;>first|assumption|omega);rotate_left;(iterate 2 exact rfl))|(apply bC pk;(iterate 6 exact rfl);rotate_left;exact rfl;(intro hw;exact rfl);(intro hw;apply aM<;>omega);(intro _;exact rfl);exact rfl)|(intros;(try simp only [zql]);omega)))
theorem aqY (s:Sc) (k:Nat) (hk:k<s.length) (hB:TbB s[k]):PF Tryz.prog 86 [.agg (scC s),(PV.val (Value.int .i64 ((k:Nat))))] (PV.val (Value.int .i64 (lk5 s.length s[k]!))):=by
  rw [getElem!_pos s k hk]
  have h:=wG s s[k] hB.c hB.f
  change PF _ _ _ (PV.val (Value.int .i64 (lk5 s.length s[k]))) at h
  refine aK aG Tryz.func86 (by kernel_rfl) rfl rfl rfl rfl (fun st=> ?_)
  (try (apply wO pk;exact rfl));(repeat' (first|(show All _;constructor)|(show Imp _ _;constructor)|(show ImpX _ _ _ _;constructor)|(apply wC pk;(iterate 2 exact rfl))|(apply wE pk;(iterate 2 exact rfl))|(apply wX pk;exact rfl)|(apply wN pk;exact rfl)|(apply wD pk [] [];kernel_rfl;exact rfl;exact rfl)|(apply aB;simp only [zqt,zqf])|(refine aC rfl (fun h=> ?_) (fun h=> ?_)<;>(try simp at h)<;>try (exfalso;omega))|(refine aD ?_;refine ⟨_,_,_,rfl,Wk.refl _,StSub.refl _, ?_,rfl⟩;try first|rfl|(rfl;done))|(apply aL;(iterate 3 exact rfl);(intro _;apply h<;>first|assumption|omega);rotate_left;(iterate 2 exact rfl))|(apply bC pk;(iterate 6 exact rfl);rotate_left;exact rfl;(intro hw;exact rfl);(intro hw;apply aM<;>omega);(intro _;exact rfl);exact rfl)|(intros;(try simp only [zql]);omega)))
theorem anF (s:Sc) (k:Nat) (hk:k<s.length) (hB:TbB s[k]):PF Tryz.prog 88 [.agg (scC s),(PV.val (Value.int .i64 ((k:Nat))))] (PV.val (Value.int .i64 (lk6 s[k]!))):=by
  rw [getElem!_pos s k hk]
  have h:=akI s[k] hB.c hB.s
  change PF _ _ _ (PV.val (Value.int .i64 (lk6 s[k]))) at h
  refine aK aG Tryz.func88 (by kernel_rfl) rfl rfl rfl rfl (fun st=> ?_)
  (try (apply wO pk;exact rfl));(repeat' (first|(show All _;constructor)|(show Imp _ _;constructor)|(show ImpX _ _ _ _;constructor)|(apply wC pk;(iterate 2 exact rfl))|(apply wE pk;(iterate 2 exact rfl))|(apply wX pk;exact rfl)|(apply wN pk;exact rfl)|(apply wD pk [] [];kernel_rfl;exact rfl;exact rfl)|(apply aB;simp only [zqt,zqf])|(refine aC rfl (fun h=> ?_) (fun h=> ?_)<;>(try simp at h)<;>try (exfalso;omega))|(refine aD ?_;refine ⟨_,_,_,rfl,Wk.refl _,StSub.refl _, ?_,rfl⟩;try first|rfl|(rfl;done))|(apply aL;(iterate 3 exact rfl);(intro _;apply h<;>first|assumption|omega);rotate_left;(iterate 2 exact rfl))|(apply bC pk;(iterate 6 exact rfl);rotate_left;exact rfl;(intro hw;exact rfl);(intro hw;apply aM<;>omega);(intro _;exact rfl);exact rfl)|(intros;(try simp only [zql]);omega)))
def looksF :List FuncId:=[76,79,80,82,84,86,88]
theorem aeM :PF Tryz.prog 50 [] (.seq (looksF.map fun f=>[.fn f []])):=by
  refine aK aG Tryz.func50 (by kernel_rfl) rfl rfl rfl rfl (fun st=> ?_)
  (try (apply wO pk;exact rfl));(repeat' (first|(show All _;constructor)|(show Imp _ _;constructor)|(show ImpX _ _ _ _;constructor)|(apply wC pk;(iterate 2 exact rfl))|(apply wE pk;(iterate 2 exact rfl))|(apply wX pk;exact rfl)|(apply wN pk;exact rfl)|(apply wD pk [] [];kernel_rfl;exact rfl;exact rfl)|(apply aB;simp only [zqt,zqf])|(refine aC rfl (fun h=> ?_) (fun h=> ?_)<;>(try simp at h)<;>try (exfalso;omega))|(refine aD ?_;refine ⟨_,_,_,rfl,Wk.refl _,StSub.refl _, ?_,rfl⟩;try rfl)|(intros;(try simp only [zql]);omega)))
theorem ahY (s:Sc) (k:Nat):(lks s k).length=7:=rfl
theorem amE (s:Sc) (k y:Nat) (hl:s.length<200000000000000) (hk:k<s.length) (hB:TbB s[k]) (hy:y<7) (hz:∀j (h:j<y),(lks s k)[j]'(by rw [ahY];omega)=0):PF Tryz.prog (looksF[y]'hy) [.agg (scC s),(PV.val (Value.int .i64 ((k:Nat))))] (PV.val (Value.int .i64 ((lks s k)[y]'hy))):=by
  rcases (show y=0∨y=1∨y=2∨y=3∨y=4∨y=5∨y=6 by omega) with rfl|rfl|rfl|rfl|rfl|rfl|rfl
  · exact apN s k hl hk
  · exact aqX s k hk hB
  · exact anL s k hk hB
  · have h1:lk1 s[k]! =0:=hz 1 (by omega)
    rw [getElem!_pos s k hk] at h1
    have:0<s[k].cols.length:=by
      unfold lk1 at h1
      split at h1
      · omega
      · omega
    exact aqD s k hk this
  · exact arI s k hk hB
  · exact aqY s k hk hB
  · exact anF s k hk hB
theorem mF (s:Sc) (hl:s.length<200000000000000) (hB:∀t∈s,TbB t):PF Tryz.prog 22 [.agg (scC s)] (PV.val (Value.int .i64 (cC s))):=by
  have hlk:=aeM
  unfold cC
  by_cases h16:s.length<1∨s.length>16
  · rw [if_pos h16]
    refine aK aG Tryz.func22 (by kernel_rfl) rfl rfl rfl rfl (fun st=> ?_)
    (try (apply wO pk;exact rfl));(repeat' (first|(refine xB (fun _ _ h=>h) ?_)|((refine xW ?_))|((exfalso;simp at*;omega))|(show All _;constructor)|(show Imp _ _;constructor)|(show ImpX _ _ _ _;constructor)|(apply wC pk;(iterate 2 exact rfl))|(apply wE pk;(iterate 2 exact rfl))|(apply wX pk;exact rfl)|(apply wN pk;exact rfl)|(apply wD pk [] [];kernel_rfl;exact rfl;exact rfl)|(apply aB;simp only [zqt,zqf])|(refine aC rfl (fun h=> ?_) (fun h=> ?_)<;>(try simp at h)<;>try (exfalso;omega))|(refine aD ?_;refine ⟨_,_,_,rfl,Wk.refl _,StSub.refl _, ?_,rfl⟩;try first|rfl|((exfalso;simp at*;omega);done))|(intros;(try simp only [zql]);omega)))
  rw [if_neg h16]
  refine aK aG Tryz.func22 (by kernel_rfl) rfl rfl rfl rfl (fun st=> ?_)
  (try (apply wO pk;exact rfl));(repeat' (first|(refine xB (fun _ _ h=>h) ?_)|(refine xW ?_)|(show All _;constructor)|(show Imp _ _;constructor)|(show ImpX _ _ _ _;constructor)|(apply wC pk;(iterate 2 exact rfl))|(apply wE pk;(iterate 2 exact rfl))|(apply wX pk;exact rfl)|(apply wN pk;exact rfl)|(apply wD pk [] [];kernel_rfl;exact rfl;exact rfl)|(apply aB;simp only [zqt,zqf])|(refine aC rfl (fun h=> ?_) (fun h=> ?_)<;>(try simp at h)<;>try (exfalso;omega))|(refine aD ?_;refine ⟨_,_,_,rfl,Wk.refl _,StSub.refl _, ?_,rfl⟩;try first|rfl|((exfalso;simp at*;omega);done))|(intros;(try simp only [zql]);omega)))
  refine aP (X:={x:Nat//x≤s.length∧∀j<x,afX s j=0}) (fun i=>(((((St.nil 39 st).var 1 24 ((scC s))).pv 3 ((PV.val (Value.int .i64 (0))))).pv 19 ((PV.val (Value.int .i64 (((s.map Tb.cells).length:Nat)))))).pv 20 ((PV.val (Value.int .i64 ((i.1:Nat))))))) (fun i=>s.length-i.1) ⟨0,by omega,by omega⟩ ?_ (fun i=> ?_)
  · ((repeat (first|refine Sub.pv ?_ rfl|refine Sub.var ?_ rfl rfl));exact Sub.nil _ _ _ (StSub.refl _) rfl)
  obtain ⟨i,hi,hI⟩:=i
  dsimp only
  by_cases hend:s.length≤i
  · rw [acD (f:=afX s) (n:=s.length) fun j hj=>hI j (by omega)]
    (try (apply wO pk;exact rfl));(repeat' (first|(show All _;constructor)|(show Imp _ _;constructor)|(show ImpX _ _ _ _;constructor)|(apply wC pk;(iterate 2 exact rfl))|(apply wE pk;(iterate 2 exact rfl))|(apply wX pk;exact rfl)|(apply wN pk;exact rfl)|(apply wD pk [] [];kernel_rfl;exact rfl;exact rfl)|(apply aB;simp only [zqt,zqf])|(refine aC rfl (fun h=> ?_) (fun h=> ?_)<;>(try simp at h)<;>try (exfalso;omega))|(refine aD ?_;refine ⟨_,_,_,rfl,Wk.refl _,StSub.refl _, ?_,rfl⟩;try first|rfl|((exfalso;omega);done))|(intros;(try simp only [zql]);omega)))
  have hil:i<s.length:=by omega
  have hBi:=hB s[i] (List.getElem_mem hil)
  (try (apply wO pk;exact rfl));(repeat' (first|(show All _;constructor)|(show Imp _ _;constructor)|(show ImpX _ _ _ _;constructor)|(apply wC pk;(iterate 2 exact rfl))|(apply wE pk;(iterate 2 exact rfl))|(apply wX pk;exact rfl)|(apply wN pk;exact rfl)|(apply wD pk [] [];kernel_rfl;exact rfl;exact rfl)|(apply aB;simp only [zqt,zqf])|(refine aC rfl (fun h=> ?_) (fun h=> ?_)<;>(try simp at h)<;>try (exfalso;omega))|(refine aD ?_;refine ⟨_,_,_,rfl,Wk.refl _,StSub.refl _, ?_,rfl⟩;try rfl)|(apply aL;(iterate 3 exact rfl);(intro _;apply hlk<;>first|assumption|omega);rotate_left;(iterate 2 exact rfl))|(intros;(try simp only [zql]);omega)))
  refine aP (X:={x:Nat//x≤7∧∀j (h:j<x) (h7:j<7),(lks s i)[j]'h7=0}) (fun y=>(((((((((St.nil 39 st).var 1 24 ((scC s))).pv 3 ((PV.val (Value.int .i64 (0))))).pv 4 ((PV.val (Value.int .i64 ((i:Nat)))))).pv 19 ((PV.val (Value.int .i64 (((s.map Tb.cells).length:Nat)))))).pv 20 ((PV.val (Value.int .i64 ((i:Nat)))))).pv 23 (.seq (looksF.map fun f=>[.fn f []]))).pv 24 ((PV.val (Value.int .i64 ((7:Nat)))))).pv 25 ((PV.val (Value.int .i64 ((y.1:Nat))))))) (fun y=>7-y.1) ⟨0,by omega,by omega⟩ ?_ (fun y=> ?_)
  · ((repeat (first|refine Sub.pv ?_ rfl|refine Sub.var ?_ rfl rfl));exact Sub.nil _ _ _ (StSub.refl _) rfl)
  obtain ⟨y,hy,hyI⟩:=y
  dsimp only
  by_cases hend2:7≤y
  · have e:afX s i=0:=by
      unfold afX
      refine amX fun x hx=> ?_
      obtain ⟨j,hj,rfl⟩:=List.getElem_of_mem hx
      exact hyI j (by rw [ahY] at hj;omega) hj
    (try (apply wO pk;exact rfl));(repeat' (first|(show All _;constructor)|(show Imp _ _;constructor)|(show ImpX _ _ _ _;constructor)|(apply wC pk;(iterate 2 exact rfl))|(apply wE pk;(iterate 2 exact rfl))|(apply wX pk;exact rfl)|(apply wN pk;exact rfl)|(apply wD pk [] [];kernel_rfl;exact rfl;exact rfl)|(apply aB;simp only [zqt,zqf])|(refine aC rfl (fun h=> ?_) (fun h=> ?_)<;>(try simp at h)<;>try (exfalso;omega))|(refine aD ?_;refine ⟨_,_,_,rfl,Wk.refl _,StSub.refl _, ?_,rfl⟩;try rfl)|(refine ⟨⟨i+1,by omega,fun j hj=>by rcases Nat.lt_succ_iff_lt_or_eq.1 hj with q|q;exact hI j q;subst q;exact e⟩, ?_,by simp only;omega⟩;((repeat (first|refine Sub.pv ?_ rfl|refine Sub.var ?_ rfl rfl));exact Sub.nil _ _ _ (StSub.refl _) rfl))|(intros;(try simp only [zql]);omega)))
  have hy7:y<7:=by omega
  have hc:=amE s i y hl hil hBi hy7 fun j hj=>hyI j hj (by omega)
  have hF:(lks s i)[y]'hy7≠0→dL (afX s) s.length=(lks s i)[y]'hy7:=fun h=>by
    have e:afX s i=(lks s i)[y]'hy7:=apK (l:=lks s i) hy7 h fun j hj h2=>hyI j hj h2
    rw [acC hil (by rw [e];exact h) hI,e]
  have hS:(lks s i)[y]'hy7=0→∀j (h:j<y+1) (h7:j<7),(lks s i)[j]'h7=0:=fun h j hj h7=>by
    rcases Nat.lt_succ_iff_lt_or_eq.1 hj with q|q
    · exact hyI j q h7
    · subst q;exact h
  generalize (lks s i)[y]'hy7=R at*
  have hrow:(looksF.map fun f=>[PV.fn f []])[y]?=some [.fn (looksF[y]'hy7) []]:=aM (f:=fun f=>[PV.fn f []]) (l:=looksF) hy7
  generalize (looksF[y]'hy7)=F at*
  (try (apply wO pk;exact rfl));(repeat' (first|(show All _;constructor)|(show Imp _ _;constructor)|(show ImpX _ _ _ _;constructor)|(apply wC pk;(iterate 2 exact rfl))|(apply wE pk;(iterate 2 exact rfl))|(apply wX pk;exact rfl)|(apply wN pk;exact rfl)|(apply wD pk [] [];kernel_rfl;exact rfl;exact rfl)|(apply aB;simp only [zqt,zqf])|(refine aC rfl (fun h=> ?_) (fun h=> ?_)<;>(try simp at h)<;>try (exfalso;omega))|(refine aD ?_;refine ⟨_,_,_,rfl,Wk.refl _,StSub.refl _, ?_,rfl⟩;try first|rfl|((rw [hF (by assumption)]);done))|(apply aL;(iterate 3 exact rfl);(intro _;apply hc<;>first|assumption|omega);rotate_left;(iterate 2 exact rfl))|(apply bC pk;(iterate 6 exact rfl);rotate_left;exact rfl;(intro hw;exact rfl);(intro hw;apply (fun _=>hrow)<;>omega);(intro _;exact rfl);exact rfl)|(refine ⟨⟨y+1,by omega,hS (by assumption)⟩, ?_,by simp only;omega⟩;((repeat (first|refine Sub.pv ?_ rfl|refine Sub.var ?_ rfl rfl|refine Sub.pv' ?_ rfl (by (first|rfl|(simp only [show R=0 from by assumption])))|refine Sub.var' ?_ rfl rfl (by (first|rfl|(simp only [show R=0 from by assumption])))));exact Sub.nil _ _ _ (StSub.refl _) rfl))|(intros;(try simp only [zql]);omega)))
end Go.Proofs.YtcglimangneafaaGreatDoor
