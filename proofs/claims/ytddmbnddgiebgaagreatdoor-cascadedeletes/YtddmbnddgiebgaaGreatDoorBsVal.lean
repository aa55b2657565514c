import Derived.Test.YtddmbnddgiebgaaGreatDoorBsFn
set_option linter.unusedSimpArgs false
set_option linter.unusedVariables false
namespace Go.Proofs.YtddmbnddgiebgaaGreatDoor
open Go Go.Abs
attribute [local irreducible] Ev PWp
set_option maxRecDepth 10000
set_option maxHeartbeats 2000000
def kC (v:Vl):Bool:=if v.kind=0 then decide (v.n=0)&&decide (v.s=e0) else if v.kind=1 then (decide (v.s=e0)&&decide (v.n≥ -1099511627776))&&decide (v.n≤1099511627776) else if v.kind=2 then decide (v.n=0)&&decide ((v.s.size:Int)≤200) else false
theorem lM (v:Vl):PF Tryz.prog 103 [.agg v.cells] (PV.val (Value.bool (kC v))):=by
  unfold kC
  by_cases h0:v.kind=0
  · rw [if_pos h0]
    refine aL aH Tryz.func103 (by kernel_rfl) rfl rfl rfl rfl (fun st=> ?_)
    (try (apply wO pk;exact rfl));(repeat' (first|(show All _;constructor)|(show Imp _ _;constructor)|(show ImpX _ _ _ _;constructor)|(apply wC pk;(iterate 2 exact rfl))|(apply wE pk;(iterate 2 exact rfl))|(apply wX pk;exact rfl)|(apply wN pk;exact rfl)|(apply wD pk [] [];kernel_rfl;exact rfl;exact rfl)|(apply aB;simp only [zqt,zqf])|(refine aD rfl (fun h=> ?_) (fun h=> ?_)<;>(try simp at h)<;>try (exfalso;omega))|(refine aF ?_;refine ⟨_,_,_,rfl,Wk.refl _,StSub.refl _, ?_,rfl⟩;try first|rfl|((first|(simp [h0];done)|(exfalso;omega));done))|(intros;(try simp only [zql]);omega)))
  by_cases h1:v.kind=1
  · rw [if_neg h0,if_pos h1]
    refine aL aH Tryz.func103 (by kernel_rfl) rfl rfl rfl rfl (fun st=> ?_)
    (try (apply wO pk;exact rfl));(repeat' (first|(show All _;constructor)|(show Imp _ _;constructor)|(show ImpX _ _ _ _;constructor)|(apply wC pk;(iterate 2 exact rfl))|(apply wE pk;(iterate 2 exact rfl))|(apply wX pk;exact rfl)|(apply wN pk;exact rfl)|(apply wD pk [] [];kernel_rfl;exact rfl;exact rfl)|(apply aB;simp only [zqt,zqf])|(refine aD rfl (fun h=> ?_) (fun h=> ?_)<;>(try simp at h)<;>try (exfalso;omega))|(refine aF ?_;refine ⟨_,_,_,rfl,Wk.refl _,StSub.refl _, ?_,rfl⟩;try first|rfl|((first|(simp;done)|(exfalso;omega));done))|(intros;(try simp only [zql]);omega)))
  rw [if_neg h0,if_neg h1]
  by_cases h2:v.kind=2
  · rw [if_pos h2]
    refine aL aH Tryz.func103 (by kernel_rfl) rfl rfl rfl rfl (fun st=> ?_)
    (try (apply wO pk;exact rfl));(repeat' (first|(show All _;constructor)|(show Imp _ _;constructor)|(show ImpX _ _ _ _;constructor)|(apply wC pk;(iterate 2 exact rfl))|(apply wE pk;(iterate 2 exact rfl))|(apply wX pk;exact rfl)|(apply wN pk;exact rfl)|(apply wD pk [] [];kernel_rfl;exact rfl;exact rfl)|(apply aB;simp only [zqt,zqf])|(refine aD rfl (fun h=> ?_) (fun h=> ?_)<;>(try simp at h)<;>try (exfalso;omega))|(refine aF ?_;refine ⟨_,_,_,rfl,Wk.refl _,StSub.refl _, ?_,rfl⟩;try first|rfl|((first|(simp;done)|(exfalso;omega));done))|(intros;(try simp only [zql]);omega)))
  rw [if_neg h2]
  refine aL aH Tryz.func103 (by kernel_rfl) rfl rfl rfl rfl (fun st=> ?_)
  (try (apply wO pk;exact rfl));(repeat' (first|(show All _;constructor)|(show Imp _ _;constructor)|(show ImpX _ _ _ _;constructor)|(apply wC pk;(iterate 2 exact rfl))|(apply wE pk;(iterate 2 exact rfl))|(apply wX pk;exact rfl)|(apply wN pk;exact rfl)|(apply wD pk [] [];kernel_rfl;exact rfl;exact rfl)|(apply aB;simp only [zqt,zqf])|(refine aD rfl (fun h=> ?_) (fun h=> ?_)<;>(try simp at h)<;>try (exfalso;omega))|(refine aF ?_;refine ⟨_,_,_,rfl,Wk.refl _,StSub.refl _, ?_,rfl⟩;try first|rfl|((first|(simp;done)|(exfalso;omega));done))|(intros;(try simp only [zql]);omega)))
theorem jX (v:Vl):PF Tryz.prog 143 [.agg v.cells] (PV.val (Value.bool (kC v))):=by
  unfold kC
  by_cases h0:v.kind=0
  · rw [if_pos h0]
    refine aL aH Tryz.func143 (by kernel_rfl) rfl rfl rfl rfl (fun st=> ?_)
    (try (apply wO pk;exact rfl));(repeat' (first|(show All _;constructor)|(show Imp _ _;constructor)|(show ImpX _ _ _ _;constructor)|(apply wC pk;(iterate 2 exact rfl))|(apply wE pk;(iterate 2 exact rfl))|(apply wX pk;exact rfl)|(apply wN pk;exact rfl)|(apply wD pk [] [];kernel_rfl;exact rfl;exact rfl)|(apply aB;simp only [zqt,zqf])|(refine aD rfl (fun h=> ?_) (fun h=> ?_)<;>(try simp at h)<;>try (exfalso;omega))|(refine aF ?_;refine ⟨_,_,_,rfl,Wk.refl _,StSub.refl _, ?_,rfl⟩;try first|rfl|((first|(simp [h0];done)|(exfalso;omega));done))|(intros;(try simp only [zql]);omega)))
  by_cases h1:v.kind=1
  · rw [if_neg h0,if_pos h1]
    refine aL aH Tryz.func143 (by kernel_rfl) rfl rfl rfl rfl (fun st=> ?_)
    (try (apply wO pk;exact rfl));(repeat' (first|(show All _;constructor)|(show Imp _ _;constructor)|(show ImpX _ _ _ _;constructor)|(apply wC pk;(iterate 2 exact rfl))|(apply wE pk;(iterate 2 exact rfl))|(apply wX pk;exact rfl)|(apply wN pk;exact rfl)|(apply wD pk [] [];kernel_rfl;exact rfl;exact rfl)|(apply aB;simp only [zqt,zqf])|(refine aD rfl (fun h=> ?_) (fun h=> ?_)<;>(try simp at h)<;>try (exfalso;omega))|(refine aF ?_;refine ⟨_,_,_,rfl,Wk.refl _,StSub.refl _, ?_,rfl⟩;try first|rfl|((first|(simp;done)|(exfalso;omega));done))|(intros;(try simp only [zql]);omega)))
  rw [if_neg h0,if_neg h1]
  refine aL aH Tryz.func143 (by kernel_rfl) rfl rfl rfl rfl (fun st=> ?_)
  (try (apply wO pk;exact rfl));(repeat' (first|(show All _;constructor)|(show Imp _ _;constructor)|(show ImpX _ _ _ _;constructor)|(apply wC pk;(iterate 2 exact rfl))|(apply wE pk;(iterate 2 exact rfl))|(apply wX pk;exact rfl)|(apply wN pk;exact rfl)|(apply wD pk [] [];kernel_rfl;exact rfl;exact rfl)|(apply aB;simp only [zqt,zqf])|(refine aD rfl (fun h=> ?_) (fun h=> ?_)<;>(try simp at h)<;>try (exfalso;omega))|(refine aF ?_;refine ⟨_,_,_,rfl,Wk.refl _,StSub.refl _, ?_,rfl⟩;try first|rfl|((first|(by_cases h2:v.kind=2<;>simp [h2];done)|(exfalso;omega));done))|(intros;(try simp only [zql]);omega)))
def nV (c:Cl):Int:=if c.kind≠2∨c.val.kind≠1 then 6 else if c.val.s≠e0∨0<c.parts.length then 1 else if c.val.n< -1099511627776∨c.val.n>1099511627776 then 20 else 0
theorem ahA (n:Int):PF Tryz.prog 149 [(PV.val (Value.int .i64 (n)))] (PV.val (Value.bool (decide (n≥ -1099511627776)&&decide (n≤1099511627776)))):=by
  refine aL aH Tryz.func149 (by kernel_rfl) rfl rfl rfl rfl (fun st=> ?_)
  (try (apply wO pk;exact rfl));(repeat' (first|(show All _;constructor)|(show Imp _ _;constructor)|(show ImpX _ _ _ _;constructor)|(apply wC pk;(iterate 2 exact rfl))|(apply wE pk;(iterate 2 exact rfl))|(apply wX pk;exact rfl)|(apply wN pk;exact rfl)|(apply wD pk [] [];kernel_rfl;exact rfl;exact rfl)|(apply aB;simp only [zqt,zqf])|(refine aD rfl (fun h=> ?_) (fun h=> ?_)<;>(try simp at h)<;>try (exfalso;omega))|(refine aF ?_;refine ⟨_,_,_,rfl,Wk.refl _,StSub.refl _, ?_,rfl⟩;try rfl)|(intros;(try simp only [zql]);omega)))
theorem abR (c:Cl):PF Tryz.prog 105 [.agg c.cells] (PV.val (Value.int .i64 (nV c))):=by
  have hf:=ahA c.val.n
  unfold nV
  by_cases h1:c.kind≠2∨c.val.kind≠1
  · rw [if_pos h1]
    refine aL aH Tryz.func105 (by kernel_rfl) rfl rfl rfl rfl (fun st=> ?_)
    (try (apply wO pk;exact rfl));(repeat' (first|(show All _;constructor)|(show Imp _ _;constructor)|(show ImpX _ _ _ _;constructor)|(apply wC pk;(iterate 2 exact rfl))|(apply wE pk;(iterate 2 exact rfl))|(apply wX pk;exact rfl)|(apply wN pk;exact rfl)|(apply wD pk [] [];kernel_rfl;exact rfl;exact rfl)|(apply aB;simp only [zqt,zqf])|(refine aD rfl (fun h=> ?_) (fun h=> ?_)<;>(try simp at h)<;>try (exfalso;omega))|(refine aF ?_;refine ⟨_,_,_,rfl,Wk.refl _,StSub.refl _, ?_,rfl⟩;try first|rfl|((first|rfl|(exfalso;omega));done))|(apply aN;(iterate 3 exact rfl);(intro _;apply hf<;>first|assumption|omega);rotate_left;(iterate 2 exact rfl))|(intros;(try simp only [zql]);omega)))
  rw [if_neg h1]
  by_cases h2:c.val.s≠e0∨0<c.parts.length
  · rw [if_pos h2]
    refine aL aH Tryz.func105 (by kernel_rfl) rfl rfl rfl rfl (fun st=> ?_)
    (try (apply wO pk;exact rfl));(repeat' (first|(show All _;constructor)|(show Imp _ _;constructor)|(show ImpX _ _ _ _;constructor)|(apply wC pk;(iterate 2 exact rfl))|(apply wE pk;(iterate 2 exact rfl))|(apply wX pk;exact rfl)|(apply wN pk;exact rfl)|(apply wD pk [] [];kernel_rfl;exact rfl;exact rfl)|(apply aB;simp only [zqt,zqf])|(refine aD rfl (fun h=> ?_) (fun h=> ?_)<;>(try simp at h)<;>try (exfalso;omega))|(refine aF ?_;refine ⟨_,_,_,rfl,Wk.refl _,StSub.refl _, ?_,rfl⟩;try first|rfl|((first|rfl|(exfalso;omega)|(exfalso;simp at*;grind));done))|(apply aN;(iterate 3 exact rfl);(intro _;apply hf<;>first|assumption|omega);rotate_left;(iterate 2 exact rfl))|(intros;(try simp only [zql]);omega)))
  rw [if_neg h2]
  by_cases h3:c.val.n< -1099511627776∨c.val.n>1099511627776
  · rw [if_pos h3]
    refine aL aH Tryz.func105 (by kernel_rfl) rfl rfl rfl rfl (fun st=> ?_)
    (try (apply wO pk;exact rfl));(repeat' (first|(show All _;constructor)|(show Imp _ _;constructor)|(show ImpX _ _ _ _;constructor)|(apply wC pk;(iterate 2 exact rfl))|(apply wE pk;(iterate 2 exact rfl))|(apply wX pk;exact rfl)|(apply wN pk;exact rfl)|(apply wD pk [] [];kernel_rfl;exact rfl;exact rfl)|(apply aB;simp only [zqt,zqf])|(refine aD rfl (fun h=> ?_) (fun h=> ?_)<;>(try simp at h)<;>try (exfalso;omega))|(refine aF ?_;refine ⟨_,_,_,rfl,Wk.refl _,StSub.refl _, ?_,rfl⟩;try first|rfl|((first|rfl|(exfalso;omega)|(exfalso;simp at*;grind));done))|(apply aN;(iterate 3 exact rfl);(intro _;apply hf<;>first|assumption|omega);rotate_left;(iterate 2 exact rfl))|(intros;(try simp only [zql]);omega)))
  rw [if_neg h3]
  refine aL aH Tryz.func105 (by kernel_rfl) rfl rfl rfl rfl (fun st=> ?_)
  (try (apply wO pk;exact rfl));(repeat' (first|(show All _;constructor)|(show Imp _ _;constructor)|(show ImpX _ _ _ _;constructor)|(apply wC pk;(iterate 2 exact rfl))|(apply wE pk;(iterate 2 exact rfl))|(apply wX pk;exact rfl)|(apply wN pk;exact rfl)|(apply wD pk [] [];kernel_rfl;exact rfl;exact rfl)|(apply aB;simp only [zqt,zqf])|(refine aD rfl (fun h=> ?_) (fun h=> ?_)<;>(try simp at h)<;>try (exfalso;omega))|(refine aF ?_;refine ⟨_,_,_,rfl,Wk.refl _,StSub.refl _, ?_,rfl⟩;try first|rfl|((first|rfl|(exfalso;omega)|(exfalso;simp at*;grind));done))|(apply aN;(iterate 3 exact rfl);(intro _;apply hf<;>first|assumption|omega);rotate_left;(iterate 2 exact rfl))|(intros;(try simp only [zql]);omega)))
theorem yO (c:Cl):PF Tryz.prog 145 [.agg c.cells] (PV.val (Value.int .i64 (nV c))):=by
  unfold nV
  by_cases h1:c.kind≠2∨c.val.kind≠1
  · rw [if_pos h1]
    refine aL aH Tryz.func145 (by kernel_rfl) rfl rfl rfl rfl (fun st=> ?_)
    (try (apply wO pk;exact rfl));(repeat' (first|(show All _;constructor)|(show Imp _ _;constructor)|(show ImpX _ _ _ _;constructor)|(apply wC pk;(iterate 2 exact rfl))|(apply wE pk;(iterate 2 exact rfl))|(apply wX pk;exact rfl)|(apply wN pk;exact rfl)|(apply wD pk [] [];kernel_rfl;exact rfl;exact rfl)|(apply aB;simp only [zqt,zqf])|(refine aD rfl (fun h=> ?_) (fun h=> ?_)<;>(try simp at h)<;>try (exfalso;omega))|(refine aF ?_;refine ⟨_,_,_,rfl,Wk.refl _,StSub.refl _, ?_,rfl⟩;try first|rfl|((first|rfl|(exfalso;omega));done))|(intros;(try simp only [zql]);omega)))
  rw [if_neg h1]
  by_cases h2:c.val.s≠e0∨0<c.parts.length
  · rw [if_pos h2]
    refine aL aH Tryz.func145 (by kernel_rfl) rfl rfl rfl rfl (fun st=> ?_)
    (try (apply wO pk;exact rfl));(repeat' (first|(show All _;constructor)|(show Imp _ _;constructor)|(show ImpX _ _ _ _;constructor)|(apply wC pk;(iterate 2 exact rfl))|(apply wE pk;(iterate 2 exact rfl))|(apply wX pk;exact rfl)|(apply wN pk;exact rfl)|(apply wD pk [] [];kernel_rfl;exact rfl;exact rfl)|(apply aB;simp only [zqt,zqf])|(refine aD rfl (fun h=> ?_) (fun h=> ?_)<;>(try simp at h)<;>try (exfalso;omega))|(refine aF ?_;refine ⟨_,_,_,rfl,Wk.refl _,StSub.refl _, ?_,rfl⟩;try first|rfl|((first|rfl|(exfalso;omega)|(exfalso;simp at*;grind));done))|(intros;(try simp only [zql]);omega)))
  rw [if_neg h2]
  by_cases h3:c.val.n< -1099511627776∨c.val.n>1099511627776
  · rw [if_pos h3]
    refine aL aH Tryz.func145 (by kernel_rfl) rfl rfl rfl rfl (fun st=> ?_)
    (try (apply wO pk;exact rfl));(repeat' (first|(show All _;constructor)|(show Imp _ _;constructor)|(show ImpX _ _ _ _;constructor)|(apply wC pk;(iterate 2 exact rfl))|(apply wE pk;(iterate 2 exact rfl))|(apply wX pk;exact rfl)|(apply wN pk;exact rfl)|(apply wD pk [] [];kernel_rfl;exact rfl;exact rfl)|(apply aB;simp only [zqt,zqf])|(refine aD rfl (fun h=> ?_) (fun h=> ?_)<;>(try simp at h)<;>try (exfalso;omega))|(refine aF ?_;refine ⟨_,_,_,rfl,Wk.refl _,StSub.refl _, ?_,rfl⟩;try first|rfl|((first|rfl|(exfalso;omega)|(exfalso;simp at*;grind));done))|(intros;(try simp only [zql]);omega)))
  rw [if_neg h3]
  refine aL aH Tryz.func145 (by kernel_rfl) rfl rfl rfl rfl (fun st=> ?_)
  (try (apply wO pk;exact rfl));(repeat' (first|(show All _;constructor)|(show Imp _ _;constructor)|(show ImpX _ _ _ _;constructor)|(apply wC pk;(iterate 2 exact rfl))|(apply wE pk;(iterate 2 exact rfl))|(apply wX pk;exact rfl)|(apply wN pk;exact rfl)|(apply wD pk [] [];kernel_rfl;exact rfl;exact rfl)|(apply aB;simp only [zqt,zqf])|(refine aD rfl (fun h=> ?_) (fun h=> ?_)<;>(try simp at h)<;>try (exfalso;omega))|(refine aF ?_;refine ⟨_,_,_,rfl,Wk.refl _,StSub.refl _, ?_,rfl⟩;try first|rfl|((first|rfl|(exfalso;omega)|(exfalso;simp at*;grind));done))|(intros;(try simp only [zql]);omega)))
end Go.Proofs.YtddmbnddgiebgaaGreatDoor
namespace Go.Proofs.YtddmbnddgiebgaaGreatDoor
open Go Go.Abs
attribute [local irreducible] Ev PWp
set_option maxRecDepth 10000
set_option maxHeartbeats 4000000
theorem aiV (a b:Dt):PF Tryz.prog 148 [.agg a.cells, .agg b.cells] (PV.val (Value.int .i64 (byD a b))):=by
  have ho:=rT [eT a.dev b.dev,eT a.seq b.seq] (by simp)
  refine aL aH Tryz.func148 (by kernel_rfl) rfl rfl rfl rfl (fun st=> ?_)
  (try (apply wO pk;exact rfl));(repeat' (first|(show All _;constructor)|(show Imp _ _;constructor)|(show ImpX _ _ _ _;constructor)|(apply wC pk;(iterate 2 exact rfl))|(apply wE pk;(iterate 2 exact rfl))|(apply wX pk;exact rfl)|(apply wN pk;exact rfl)|(apply wD pk [] [];kernel_rfl;exact rfl;exact rfl)|(apply aB;simp only [zqt,zqf])|(refine aD rfl (fun h=> ?_) (fun h=> ?_)<;>(try simp at h)<;>try (exfalso;omega))|(refine aF ?_;refine ⟨_,_,_,rfl,Wk.refl _,StSub.refl _, ?_,rfl⟩;try rfl)|(apply aN;(iterate 3 exact rfl);(intro _;(first|apply (eQ a.dev b.dev)|apply (eQ a.seq b.seq)|apply ho)<;>first|assumption|omega);rotate_left;(iterate 2 exact rfl))|(intros;(try simp only [zql]);omega)))
theorem afN (a b:Dt):decide (byD a b≥0)= !bO b a:=by
  unfold byD bO eT
  simp only [orI]
  rw [Bool.eq_iff_iff]
  simp only [decide_eq_true_eq,Bool.not_eq_true',Bool.or_eq_false_iff,Bool.and_eq_false_iff,decide_eq_false_iff_not]
  grind
def eX (p:Pt):Prop:=p.at_=0∧p.time=0∧p.after=Dt.zero∧p.afterAt=0∧p.gone=false
instance (p :Pt):Decidable (eX p):=by unfold eX;infer_instance
def eE (d:Dt):Bool:=((decide (1≤d.dev)&&decide (d.dev≤64))&&decide (1≤d.seq))&&decide (d.seq≤1048576)
def dM (p:Pt):Bool:=(decide (eX p)&&kC p.val)&&eE p.dot
def dV (p:Pt):Bool:=(decide (eX p)&&(decide (p.val.kind=1)&&kC p.val))&&eE p.dot
def oV (ok:Pt→Bool) (bh:Pt→Pt→Bool) (l:List Pt):Bool:=(List.range l.length).all fun j=>ok l[j]! &&(decide (j=0)||bh l[j]! l[j-1]!)
theorem xX {ok:Pt→Bool} {bh:Pt→Pt→Bool} {l:List Pt} {j:Nat} (h:j<l.length) (hf:(ok l[j]&&(decide (j=0)||bh l[j] (l[j-1]'(by omega))))=false):oV ok bh l=false:=by
  unfold oV
  rw [←Bool.not_eq_true,List.all_eq_true]
  intro q
  have:=q j (List.mem_range.2 h)
  rw [getElem!_pos l j h,getElem!_pos l (j-1) (by omega),hf] at this
  cases this
theorem rV {ok:Pt→Bool} {bh:Pt→Pt→Bool} {l:List Pt} (hf:∀j (h:j<l.length),(ok l[j]&&(decide (j=0)||bh l[j] (l[j-1]'(by omega))))=true):oV ok bh l=true:=by
  unfold oV
  rw [List.all_eq_true]
  intro j hj
  have h:=List.mem_range.1 hj
  rw [getElem!_pos l j h,getElem!_pos l (j-1) (by omega)]
  exact hf j h
def nM (c:Cl):Bool:=decide (c.kind=1∧c.val=Vl.zero)&&oV dM (fun p q=>bO p.dot q.dot) c.parts
def aeY (p:Pt):List PV:=[(PV.val (Value.int .i64 (p.val.n))),(PV.val (Value.int .i64 (p.dot.dev))),(PV.val (Value.int .i64 (p.dot.seq)))]
theorem uL (p:Pt):PF Tryz.prog 150 [.agg p.cells] (.agg (aeY p)):=by
  refine aL aH Tryz.func150 (by kernel_rfl) rfl rfl rfl rfl (fun st=> ?_)
  (try (apply wO pk;exact rfl));(repeat' (first|(show All _;constructor)|(show Imp _ _;constructor)|(show ImpX _ _ _ _;constructor)|(apply wC pk;(iterate 2 exact rfl))|(apply wE pk;(iterate 2 exact rfl))|(apply wX pk;exact rfl)|(apply wN pk;exact rfl)|(apply wD pk [] [];kernel_rfl;exact rfl;exact rfl)|(apply aB;simp only [zqt,zqf])|(refine aD rfl (fun h=> ?_) (fun h=> ?_)<;>(try simp at h)<;>try (exfalso;omega))|(refine aF ?_;refine ⟨_,_,_,rfl,Wk.refl _,StSub.refl _, ?_,rfl⟩;try rfl)|(intros;(try simp only [zql]);omega)))
def ahI (p q:Pt):Int:=orI [eT p.val.n q.val.n,eT p.dot.dev q.dot.dev,eT p.dot.seq q.dot.seq]
theorem aoW (p q:Pt):PF Tryz.prog 151 [.agg (aeY p), .agg (aeY q)] (PV.val (Value.int .i64 (ahI p q))):=by
  have ho:=rT [eT p.val.n q.val.n,eT p.dot.dev q.dot.dev,eT p.dot.seq q.dot.seq] (by simp)
  refine aL aH Tryz.func151 (by kernel_rfl) rfl rfl rfl rfl (fun st=> ?_)
  (try (apply wO pk;exact rfl));(repeat' (first|(show All _;constructor)|(show Imp _ _;constructor)|(show ImpX _ _ _ _;constructor)|(apply wC pk;(iterate 2 exact rfl))|(apply wE pk;(iterate 2 exact rfl))|(apply wX pk;exact rfl)|(apply wN pk;exact rfl)|(apply wD pk [] [];kernel_rfl;exact rfl;exact rfl)|(apply aB;simp only [zqt,zqf])|(refine aD rfl (fun h=> ?_) (fun h=> ?_)<;>(try simp at h)<;>try (exfalso;omega))|(refine aF ?_;refine ⟨_,_,_,rfl,Wk.refl _,StSub.refl _, ?_,rfl⟩;try rfl)|(apply aN;(iterate 3 exact rfl);(intro _;(first|apply (eQ p.val.n q.val.n)|apply (eQ p.dot.dev q.dot.dev)|apply (eQ p.dot.seq q.dot.seq)|apply ho)<;>first|assumption|omega);rotate_left;(iterate 2 exact rfl))|(intros;(try simp only [zql]);omega)))
def iL (p q:Pt):Bool:=decide (p.val.n>q.val.n)||(decide (p.val.n=q.val.n)&&bO p.dot q.dot)
theorem auB (p q:Pt):decide (ahI p q≥0)= !iL q p:=by
  unfold ahI iL bO eT
  simp only [orI]
  rw [Bool.eq_iff_iff]
  simp only [decide_eq_true_eq,Bool.not_eq_true',Bool.or_eq_false_iff,Bool.and_eq_false_iff,decide_eq_false_iff_not]
  grind
theorem anT (p q:Pt):PF Tryz.prog 183 [.agg p.cells, .agg q.cells] (PV.val (Value.bool (iL p q))):=by
  have h:=gP p.dot q.dot
  refine aL aH Tryz.func183 (by kernel_rfl) rfl rfl rfl rfl (fun st=> ?_)
  (try (apply wO pk;exact rfl));(repeat' (first|(show All _;constructor)|(show Imp _ _;constructor)|(show ImpX _ _ _ _;constructor)|(apply wC pk;(iterate 2 exact rfl))|(apply wE pk;(iterate 2 exact rfl))|(apply wX pk;exact rfl)|(apply wN pk;exact rfl)|(apply wD pk [] [];kernel_rfl;exact rfl;exact rfl)|(apply aB;simp only [zqt,zqf])|(refine aD rfl (fun h=> ?_) (fun h=> ?_)<;>(try simp at h)<;>try (exfalso;omega))|(refine aF ?_;refine ⟨_,_,_,rfl,Wk.refl _,StSub.refl _, ?_,rfl⟩;try rfl)|(apply aN;(iterate 3 exact rfl);(intro _;apply h<;>first|assumption|omega);rotate_left;(iterate 2 exact rfl))|(intros;(try simp only [zql]);omega)))
def nX (c:Cl):Bool:=decide (c.kind=3∧c.val=Vl.zero)&&oV dV iL c.parts
theorem fZ {x:Bool} (h:gw x (decide (((0:Nat):Int)>0)) true=true):False:=by
  cases x<;>simp [gw] at h
theorem aaD (c:Cl) (hl:c.parts.length<4611686018427387904):PF Tryz.prog 104 [.agg c.cells] (PV.val (Value.bool (nM c))):=by
  unfold nM
  by_cases hk:¬(c.kind=1∧c.val=Vl.zero)
  · rw [decide_eq_false hk,Bool.false_and]
    rw [Vl.ext_iff] at hk
    simp only [Vl.zero] at hk
    refine aL aH Tryz.func104 (by kernel_rfl) rfl rfl rfl rfl (fun st=> ?_)
    (try (apply wO pk;exact rfl));(repeat' (first|((exfalso;grind))|(show All _;constructor)|(show Imp _ _;constructor)|(show ImpX _ _ _ _;constructor)|(apply wC pk;(iterate 2 exact rfl))|(apply wE pk;(iterate 2 exact rfl))|(apply wX pk;exact rfl)|(apply wN pk;exact rfl)|(apply wD pk [] [];kernel_rfl;exact rfl;exact rfl)|(apply aB;simp only [zqt,zqf])|(refine aD rfl (fun h=> ?_) (fun h=> ?_)<;>(try simp at h)<;>try (exfalso;omega))|(refine aF ?_;refine ⟨_,_,_,rfl,Wk.refl _,StSub.refl _, ?_,rfl⟩;try first|rfl|((exfalso;grind);done))|(intros;(try simp only [zql]);omega)))
  replace hk:=Decidable.of_not_not hk
  rw [decide_eq_true hk,Bool.true_and]
  obtain ⟨k1,k2⟩:=hk
  rw [Vl.ext_iff] at k2
  obtain ⟨k2,k3,k4⟩:=k2
  simp only [Vl.zero] at k2 k3 k4
  refine aL aH Tryz.func104 (by kernel_rfl) rfl rfl rfl rfl (fun st=> ?_)
  (try (apply wO pk;exact rfl));(repeat' (first|(show All _;constructor)|(show Imp _ _;constructor)|(show ImpX _ _ _ _;constructor)|(apply wC pk;(iterate 2 exact rfl))|(apply wE pk;(iterate 2 exact rfl))|(apply wX pk;exact rfl)|(apply wN pk;exact rfl)|(apply wD pk [] [];kernel_rfl;exact rfl;exact rfl)|(apply aB;simp only [zqt,zqf])|(refine aD rfl (fun h=> ?_) (fun h=> ?_)<;>(try simp at h)<;>try (exfalso;omega))|(refine aF ?_;refine ⟨_,_,_,rfl,Wk.refl _,StSub.refl _, ?_,rfl⟩;try first|rfl|((exfalso;grind);done))|(intros;(try simp only [zql]);omega)))
  refine aO (X:={x:Nat//x≤c.parts.length∧∀j (h:j<x) (h1:j<c.parts.length),(dM c.parts[j]&&(decide (j=0)||bO c.parts[j].dot (c.parts[j-1]'(by omega)).dot))=true}) (fun i=>(((((St.nil 79 st).var 1 75 (c.cells)).pv 16 (.seq (c.parts.map Pt.cells))).pv 17 ((PV.val (Value.int .i64 (((c.parts.map Pt.cells).length:Nat)))))).pv 18 ((PV.val (Value.int .i64 ((i.1:Nat))))))) (fun i=>c.parts.length-i.1) ⟨0,by omega,fun _ h=>absurd h (Nat.not_lt_zero _)⟩ ?_ (fun i=> ?_)
  · ((repeat (first|refine Sub.pv ?_ rfl|refine Sub.var ?_ rfl rfl));exact Sub.nil _ _ _ (StSub.refl _) rfl)
  obtain ⟨i,hi,hI⟩:=i
  dsimp only
  by_cases hend:c.parts.length≤i
  · have e:=rV (ok:=dM) (bh:=fun p q=>bO p.dot q.dot) fun j h=>hI j (by omega) h
    (try (apply wO pk;exact rfl));(repeat' (first|(show All _;constructor)|(show Imp _ _;constructor)|(show ImpX _ _ _ _;constructor)|(apply wC pk;(iterate 2 exact rfl))|(apply wE pk;(iterate 2 exact rfl))|(apply wX pk;exact rfl)|(apply wN pk;exact rfl)|(apply wD pk [] [];kernel_rfl;exact rfl;exact rfl)|(apply aB;simp only [zqt,zqf])|(refine aD rfl (fun h=> ?_) (fun h=> ?_)<;>(try simp at h)<;>try (exfalso;omega))|(refine aF ?_;refine ⟨_,_,_,rfl,Wk.refl _,StSub.refl _, ?_,rfl⟩;try first|rfl|((rw [e]);done))|(intros;(try simp only [zql]);omega)))
  have h1:i<c.parts.length:=by omega
  have hF:=xX (ok:=dM) (bh:=fun p q=>bO p.dot q.dot) h1
  have hS:(dM c.parts[i]&&(decide (i=0)||bO c.parts[i].dot (c.parts[i-1]'(by omega)).dot))=true→∀j (h:j<i+1) (h1:j<c.parts.length),(dM c.parts[j]&&(decide (j=0)||bO c.parts[j].dot (c.parts[j-1]'(by omega)).dot))=true:=fun h j hj h1=>by
    rcases Nat.lt_succ_iff_lt_or_eq.1 hj with q|q
    · exact hI j q h1
    · subst q;exact h
  have hv:=lM c.parts[i].val
  by_cases h0:i=0
  · subst h0
    have hF':¬(dM c.parts[0]=true)→oV dM (fun p q=>bO p.dot q.dot) c.parts=false:=fun h=>hF (by rw [←Bool.not_eq_true];intro q;rw [Bool.and_eq_true] at q;exact h q.1)
    simp only [dM,eX,eE,Dt.ext_iff,Dt.zero,Bool.and_eq_true,decide_eq_true_eq] at hF'
    (try (apply wO pk;exact rfl));(repeat' (first|(show All _;constructor)|(show Imp _ _;constructor)|(show ImpX _ _ _ _;constructor)|(apply wC pk;(iterate 2 exact rfl))|(apply wE pk;(iterate 2 exact rfl))|(apply wX pk;exact rfl)|(apply wN pk;exact rfl)|(apply wD pk [] [];kernel_rfl;exact rfl;exact rfl)|(apply aB;simp only [zqt,zqf])|(refine aD rfl (fun h=> ?_) (fun h=> ?_)<;>(try simp at h)<;>try (exfalso;omega))|(refine aF ?_;refine ⟨_,_,_,rfl,Wk.refl _,StSub.refl _, ?_,rfl⟩;try first|rfl|((first|(rw [hF' (by grind)];done)|(exact absurd (by assumption:c.parts=[]) (List.ne_nil_of_length_pos h1)));done))|(apply aN;(iterate 3 exact rfl);(intro _;(first|apply hv|apply (show PF Tryz.prog 148 [_, .agg c.parts[0].dot.cells] (PV.val (Value.int .i64 (0))) from by rename_i hh;exact (fZ hh).elim))<;>first|assumption|omega);rotate_left;(iterate 2 exact rfl))|(apply aW pk;(iterate 6 exact rfl);rotate_left;exact rfl;(first|((intro hw;exact (show _=((0:Nat):Int) from by exact (fZ hw).elim));(intro hw;apply aI<;>omega);(intro _;exact rfl))|((intro hw;exact rfl);(intro hw;apply aI<;>omega);(intro _;exact rfl)));exact rfl)|(refine ⟨⟨1,by omega,hS (by simp [dM,eX,eE,Dt.ext_iff,Dt.zero];grind)⟩, ?_,by simp only;omega⟩;((repeat (first|refine Sub.pv ?_ rfl|refine Sub.var ?_ rfl rfl));exact Sub.nil _ _ _ (StSub.refl _) rfl))|(intros;(try simp only [zql]);omega)))
  obtain ⟨k,rfl⟩:∃k,i=k+1:=⟨i-1,by omega⟩
  have hd:=aiV c.parts[k].dot c.parts[k+1].dot
  have hb:byD c.parts[k].dot c.parts[k+1].dot≥0↔bO c.parts[k+1].dot c.parts[k].dot=false:=by have:=afN c.parts[k].dot c.parts[k+1].dot;cases h:bO c.parts[k+1].dot c.parts[k].dot<;>simp [h] at this⊢ <;>omega
  have hF':¬(dM c.parts[k+1]=true∧byD c.parts[k].dot c.parts[k+1].dot<0)→oV dM (fun p q=>bO p.dot q.dot) c.parts=false:=fun h=>hF (by rw [←Bool.not_eq_true];intro q;rw [Bool.and_eq_true] at q;exact h ⟨q.1,by have q2:=q.2;simp at q2;grind⟩)
  simp only [dM,eX,eE,Dt.ext_iff,Dt.zero,Bool.and_eq_true,decide_eq_true_eq] at hF'
  (try (apply wO pk;exact rfl));(repeat' (first|(show All _;constructor)|(show Imp _ _;constructor)|(show ImpX _ _ _ _;constructor)|(apply wC pk;(iterate 2 exact rfl))|(apply wE pk;(iterate 2 exact rfl))|(apply wX pk;exact rfl)|(apply wN pk;exact rfl)|(apply wD pk [] [];kernel_rfl;exact rfl;exact rfl)|(apply aB;simp only [zqt,zqf])|(refine aD rfl (fun h=> ?_) (fun h=> ?_)<;>(try simp at h)<;>try (exfalso;omega))|(refine aF ?_;refine ⟨_,_,_,rfl,Wk.refl _,StSub.refl _, ?_,rfl⟩;try first|rfl|((rw [hF' (by grind)]);done))|(apply aN;(iterate 3 exact rfl);(intro _;(first|apply hv|apply hd)<;>first|assumption|omega);rotate_left;(iterate 2 exact rfl))|(apply aW pk;(iterate 6 exact rfl);rotate_left;exact rfl;(first|((intro hw;exact (show ((((k+1:Nat):Int))-1=((k:Nat):Int)) from by omega));(intro hw;apply aI<;>omega);(intro _;exact rfl))|((intro hw;exact rfl);(intro hw;apply aI<;>omega);(intro _;exact rfl)));exact rfl)|(refine ⟨⟨k+2,by omega,hS (by simp [dM,eX,eE,Dt.ext_iff,Dt.zero];grind)⟩, ?_,by simp only;omega⟩;((repeat (first|refine Sub.pv ?_ rfl|refine Sub.var ?_ rfl rfl));exact Sub.nil _ _ _ (StSub.refl _) rfl))|(intros;(try simp only [zql]);omega)))
theorem xY (c:Cl) (hl:c.parts.length<4611686018427387904):PF Tryz.prog 144 [.agg c.cells] (PV.val (Value.bool (nM c))):=by
  unfold nM
  have hkv:(decide (c.kind=1)&&(decide (c.val.kind=0)&&(decide (c.val.n=0)&&decide (c.val.s=e0))))=decide (c.kind=1∧c.val=Vl.zero):=by rw [Bool.eq_iff_iff];simp [Vl.ext_iff,Vl.zero]
  refine aL aH Tryz.func144 (by kernel_rfl) rfl rfl rfl rfl (fun st=> ?_)
  (try (apply wO pk;exact rfl));(repeat' (first|(show All _;constructor)|(show Imp _ _;constructor)|(show ImpX _ _ _ _;constructor)|(apply wC pk;(iterate 2 exact rfl))|(apply wE pk;(iterate 2 exact rfl))|(apply wX pk;exact rfl)|(apply wN pk;exact rfl)|(apply wD pk [] [];kernel_rfl;exact rfl;exact rfl)|(apply aB;simp only [zqt,zqf])|(refine aD rfl (fun h=> ?_) (fun h=> ?_)<;>(try simp at h)<;>try (exfalso;omega))|(refine aF ?_;refine ⟨_,_,_,rfl,Wk.refl _,StSub.refl _, ?_,rfl⟩;try rfl)|(intros;(try simp only [zql]);omega)))
  refine aO (X:={x:Nat//x≤c.parts.length∧∀j (h:j<x) (h1:j<c.parts.length),(dM c.parts[j]&&(decide (j=0)||bO c.parts[j].dot (c.parts[j-1]'(by omega)).dot))=true}) (fun i=>(((St.nil 76 st).var 1 75 (c.cells)).pv 3 ((PV.val (Value.int .i64 ((i.1:Nat))))))) (fun i=>c.parts.length-i.1) ⟨0,by omega,fun _ h=>absurd h (Nat.not_lt_zero _)⟩ ?_ (fun i=> ?_)
  · ((repeat (first|refine Sub.pv ?_ rfl|refine Sub.var ?_ rfl rfl));exact Sub.nil _ _ _ (StSub.refl _) rfl)
  obtain ⟨i,hi,hI⟩:=i
  dsimp only
  by_cases hend:c.parts.length≤i
  · have e:=rV (ok:=dM) (bh:=fun p q=>bO p.dot q.dot) fun j h=>hI j (by omega) h
    (try (apply wO pk;exact rfl));(repeat' (first|(show All _;constructor)|(show Imp _ _;constructor)|(show ImpX _ _ _ _;constructor)|(apply wC pk;(iterate 2 exact rfl))|(apply wE pk;(iterate 2 exact rfl))|(apply wX pk;exact rfl)|(apply wN pk;exact rfl)|(apply wD pk [] [];kernel_rfl;exact rfl;exact rfl)|(apply aB;simp only [zqt,zqf])|(refine aD rfl (fun h=> ?_) (fun h=> ?_)<;>(try simp at h)<;>try (exfalso;omega))|(refine aF ?_;refine ⟨_,_,_,rfl,Wk.refl _,StSub.refl _, ?_,rfl⟩;try first|rfl|((rw [e,Bool.and_true,←hkv]);done))|(intros;(try simp only [zql]);omega)))
  have h1:i<c.parts.length:=by omega
  have hF:=xX (ok:=dM) (bh:=fun p q=>bO p.dot q.dot) h1
  have hS:(dM c.parts[i]&&(decide (i=0)||bO c.parts[i].dot (c.parts[i-1]'(by omega)).dot))=true→∀j (h:j<i+1) (h1:j<c.parts.length),(dM c.parts[j]&&(decide (j=0)||bO c.parts[j].dot (c.parts[j-1]'(by omega)).dot))=true:=fun h j hj h1=>by
    rcases Nat.lt_succ_iff_lt_or_eq.1 hj with q|q
    · exact hI j q h1
    · subst q;exact h
  have hv:=jX c.parts[i].val
  by_cases h0:i=0
  · subst h0
    have hF':¬(dM c.parts[0]=true)→oV dM (fun p q=>bO p.dot q.dot) c.parts=false:=fun h=>hF (by rw [←Bool.not_eq_true];intro q;rw [Bool.and_eq_true] at q;exact h q.1)
    simp only [dM,eX,eE,Dt.ext_iff,Dt.zero,Bool.and_eq_true,decide_eq_true_eq] at hF'
    (try (apply wO pk;exact rfl));(repeat' (first|(show All _;constructor)|(show Imp _ _;constructor)|(show ImpX _ _ _ _;constructor)|(apply wC pk;(iterate 2 exact rfl))|(apply wE pk;(iterate 2 exact rfl))|(apply wX pk;exact rfl)|(apply wN pk;exact rfl)|(apply wD pk [] [];kernel_rfl;exact rfl;exact rfl)|(apply aB;simp only [zqt,zqf])|(refine aD rfl (fun h=> ?_) (fun h=> ?_)<;>(try simp at h)<;>try (exfalso;omega))|(refine aF ?_;refine ⟨_,_,_,rfl,Wk.refl _,StSub.refl _, ?_,rfl⟩;try first|rfl|((first|(rw [hF' (by grind),Bool.and_false];done)|(exact absurd (by assumption:c.parts=[]) (List.ne_nil_of_length_pos h1)));done))|(apply aN;(iterate 3 exact rfl);(intro _;(first|apply hv|apply (show PF Tryz.prog 102 [.agg c.parts[0].dot.cells,_] (PV.val (Value.bool (false))) from by rename_i hh;exact (fZ hh).elim))<;>first|assumption|omega);rotate_left;(iterate 2 exact rfl))|(apply aW pk;(iterate 6 exact rfl);rotate_left;exact rfl;(first|((intro hw;exact (show _=((0:Nat):Int) from by exact (fZ hw).elim));(intro hw;apply aI<;>omega);(intro _;exact rfl))|((intro hw;exact rfl);(intro hw;apply aI<;>omega);(intro _;exact rfl)));exact rfl)|(refine ⟨⟨1,by omega,hS (by simp [dM,eX,eE,Dt.ext_iff,Dt.zero];grind)⟩, ?_,by simp only;omega⟩;((repeat (first|refine Sub.pv ?_ rfl|refine Sub.var ?_ rfl rfl));exact Sub.nil _ _ _ (StSub.refl _) rfl))|(intros;(try simp only [zql]);omega)))
  obtain ⟨k,rfl⟩:∃k,i=k+1:=⟨i-1,by omega⟩
  have hd:=gP c.parts[k+1].dot c.parts[k].dot
  have hF':¬(dM c.parts[k+1]=true∧bO c.parts[k+1].dot c.parts[k].dot=true)→oV dM (fun p q=>bO p.dot q.dot) c.parts=false:=fun h=>hF (by rw [←Bool.not_eq_true];intro q;rw [Bool.and_eq_true] at q;exact h ⟨q.1,by have q2:=q.2;simp at q2;grind⟩)
  simp only [dM,eX,eE,Dt.ext_iff,Dt.zero,Bool.and_eq_true,decide_eq_true_eq] at hF'
  (try (apply wO pk;exact rfl));(repeat' (first|(show All _;constructor)|(show Imp _ _;constructor)|(show ImpX _ _ _ _;constructor)|(apply wC pk;(iterate 2 exact rfl))|(apply wE pk;(iterate 2 exact rfl))|(apply wX pk;exact rfl)|(apply wN pk;exact rfl)|(apply wD pk [] [];kernel_rfl;exact rfl;exact rfl)|(apply aB;simp only [zqt,zqf])|(refine aD rfl (fun h=> ?_) (fun h=> ?_)<;>(try simp at h)<;>try (exfalso;omega))|(refine aF ?_;refine ⟨_,_,_,rfl,Wk.refl _,StSub.refl _, ?_,rfl⟩;try first|rfl|((rw [hF' (by grind),Bool.and_false]);done))|(apply aN;(iterate 3 exact rfl);(intro _;(first|apply hv|apply hd)<;>first|assumption|omega);rotate_left;(iterate 2 exact rfl))|(apply aW pk;(iterate 6 exact rfl);rotate_left;exact rfl;(first|((intro hw;exact (show ((((k+1:Nat):Int))-1=((k:Nat):Int)) from by omega));(intro hw;apply aI<;>omega);(intro _;exact rfl))|((intro hw;exact rfl);(intro hw;apply aI<;>omega);(intro _;exact rfl)));exact rfl)|(refine ⟨⟨k+2,by omega,hS (by simp [dM,eX,eE,Dt.ext_iff,Dt.zero];grind)⟩, ?_,by simp only;omega⟩;((repeat (first|refine Sub.pv ?_ rfl|refine Sub.var ?_ rfl rfl));exact Sub.nil _ _ _ (StSub.refl _) rfl))|(intros;(try simp only [zql]);omega)))
theorem zL (c:Cl) (hl:c.parts.length<4611686018427387904):PF Tryz.prog 106 [.agg c.cells] (PV.val (Value.bool (nX c))):=by
  unfold nX
  by_cases hk:¬(c.kind=3∧c.val=Vl.zero)
  · rw [decide_eq_false hk,Bool.false_and]
    rw [Vl.ext_iff] at hk
    simp only [Vl.zero] at hk
    refine aL aH Tryz.func106 (by kernel_rfl) rfl rfl rfl rfl (fun st=> ?_)
    (try (apply wO pk;exact rfl));(repeat' (first|((exfalso;grind))|(show All _;constructor)|(show Imp _ _;constructor)|(show ImpX _ _ _ _;constructor)|(apply wC pk;(iterate 2 exact rfl))|(apply wE pk;(iterate 2 exact rfl))|(apply wX pk;exact rfl)|(apply wN pk;exact rfl)|(apply wD pk [] [];kernel_rfl;exact rfl;exact rfl)|(apply aB;simp only [zqt,zqf])|(refine aD rfl (fun h=> ?_) (fun h=> ?_)<;>(try simp at h)<;>try (exfalso;omega))|(refine aF ?_;refine ⟨_,_,_,rfl,Wk.refl _,StSub.refl _, ?_,rfl⟩;try first|rfl|((exfalso;grind);done))|(intros;(try simp only [zql]);omega)))
  replace hk:=Decidable.of_not_not hk
  rw [decide_eq_true hk,Bool.true_and]
  obtain ⟨k1,k2⟩:=hk
  rw [Vl.ext_iff] at k2
  obtain ⟨k2,k3,k4⟩:=k2
  simp only [Vl.zero] at k2 k3 k4
  refine aL aH Tryz.func106 (by kernel_rfl) rfl rfl rfl rfl (fun st=> ?_)
  (try (apply wO pk;exact rfl));(repeat' (first|(show All _;constructor)|(show Imp _ _;constructor)|(show ImpX _ _ _ _;constructor)|(apply wC pk;(iterate 2 exact rfl))|(apply wE pk;(iterate 2 exact rfl))|(apply wX pk;exact rfl)|(apply wN pk;exact rfl)|(apply wD pk [] [];kernel_rfl;exact rfl;exact rfl)|(apply aB;simp only [zqt,zqf])|(refine aD rfl (fun h=> ?_) (fun h=> ?_)<;>(try simp at h)<;>try (exfalso;omega))|(refine aF ?_;refine ⟨_,_,_,rfl,Wk.refl _,StSub.refl _, ?_,rfl⟩;try first|rfl|((exfalso;grind);done))|(intros;(try simp only [zql]);omega)))
  refine aO (X:={x:Nat//x≤c.parts.length∧∀j (h:j<x) (h1:j<c.parts.length),(dV c.parts[j]&&(decide (j=0)||iL c.parts[j] (c.parts[j-1]'(by omega))))=true}) (fun i=>(((((St.nil 85 st).var 1 75 (c.cells)).pv 16 (.seq (c.parts.map Pt.cells))).pv 17 ((PV.val (Value.int .i64 (((c.parts.map Pt.cells).length:Nat)))))).pv 18 ((PV.val (Value.int .i64 ((i.1:Nat))))))) (fun i=>c.parts.length-i.1) ⟨0,by omega,fun _ h=>absurd h (Nat.not_lt_zero _)⟩ ?_ (fun i=> ?_)
  · ((repeat (first|refine Sub.pv ?_ rfl|refine Sub.var ?_ rfl rfl));exact Sub.nil _ _ _ (StSub.refl _) rfl)
  obtain ⟨i,hi,hI⟩:=i
  dsimp only
  by_cases hend:c.parts.length≤i
  · have e:=rV (ok:=dV) (bh:=iL) fun j h=>hI j (by omega) h
    (try (apply wO pk;exact rfl));(repeat' (first|(show All _;constructor)|(show Imp _ _;constructor)|(show ImpX _ _ _ _;constructor)|(apply wC pk;(iterate 2 exact rfl))|(apply wE pk;(iterate 2 exact rfl))|(apply wX pk;exact rfl)|(apply wN pk;exact rfl)|(apply wD pk [] [];kernel_rfl;exact rfl;exact rfl)|(apply aB;simp only [zqt,zqf])|(refine aD rfl (fun h=> ?_) (fun h=> ?_)<;>(try simp at h)<;>try (exfalso;omega))|(refine aF ?_;refine ⟨_,_,_,rfl,Wk.refl _,StSub.refl _, ?_,rfl⟩;try first|rfl|((rw [e]);done))|(intros;(try simp only [zql]);omega)))
  have h1:i<c.parts.length:=by omega
  have hF:=xX (ok:=dV) (bh:=iL) h1
  have hS:(dV c.parts[i]&&(decide (i=0)||iL c.parts[i] (c.parts[i-1]'(by omega))))=true→∀j (h:j<i+1) (h1:j<c.parts.length),(dV c.parts[j]&&(decide (j=0)||iL c.parts[j] (c.parts[j-1]'(by omega))))=true:=fun h j hj h1=>by
    rcases Nat.lt_succ_iff_lt_or_eq.1 hj with q|q
    · exact hI j q h1
    · subst q;exact h
  have hv:=lM c.parts[i].val
  by_cases h0:i=0
  · subst h0
    have hof:=uL c.parts[0]
    have hF':¬(dV c.parts[0]=true)→oV dV (iL) c.parts=false:=fun h=>hF (by rw [←Bool.not_eq_true];intro q;rw [Bool.and_eq_true] at q;exact h q.1)
    simp only [dV,eX,eE,Dt.ext_iff,Dt.zero,Bool.and_eq_true,decide_eq_true_eq] at hF'
    (try (apply wO pk;exact rfl));(repeat' (first|(show All _;constructor)|(show Imp _ _;constructor)|(show ImpX _ _ _ _;constructor)|(apply wC pk;(iterate 2 exact rfl))|(apply wE pk;(iterate 2 exact rfl))|(apply wX pk;exact rfl)|(apply wN pk;exact rfl)|(apply wD pk [] [];kernel_rfl;exact rfl;exact rfl)|(apply aB;simp only [zqt,zqf])|(refine aD rfl (fun h=> ?_) (fun h=> ?_)<;>(try simp at h)<;>try (exfalso;omega))|(refine aF ?_;refine ⟨_,_,_,rfl,Wk.refl _,StSub.refl _, ?_,rfl⟩;try first|rfl|((first|(rw [hF' (by grind)];done)|(exact absurd (by assumption:c.parts=[]) (List.ne_nil_of_length_pos h1)));done))|(apply aN;(iterate 3 exact rfl);(intro _;(first|apply hv|apply hof|apply (show PF Tryz.prog 151 [_,_] (PV.val (Value.int .i64 (0))) from by rename_i hh;exact (fZ hh).elim))<;>first|assumption|omega);rotate_left;(iterate 2 exact rfl))|(apply aW pk;(iterate 6 exact rfl);rotate_left;exact rfl;(first|((intro hw;exact (show _=((0:Nat):Int) from by exact (fZ hw).elim));(intro hw;apply aI<;>omega);(intro _;exact rfl))|((intro hw;exact rfl);(intro hw;apply aI<;>omega);(intro _;exact rfl)));exact rfl)|(refine ⟨⟨1,by omega,hS (by simp [dV,eX,eE,Dt.ext_iff,Dt.zero];grind)⟩, ?_,by simp only;omega⟩;((repeat (first|refine Sub.pv ?_ rfl|refine Sub.var ?_ rfl rfl));exact Sub.nil _ _ _ (StSub.refl _) rfl))|(intros;(try simp only [zql]);omega)))
  obtain ⟨k,rfl⟩:∃k,i=k+1:=⟨i-1,by omega⟩
  have hd1:=uL c.parts[k]
  have hd2:=uL c.parts[k+1]
  have hd:=aoW c.parts[k] c.parts[k+1]
  have hb:ahI c.parts[k] c.parts[k+1]≥0↔iL c.parts[k+1] c.parts[k]=false:=by have:=auB c.parts[k] c.parts[k+1];cases h:iL c.parts[k+1] c.parts[k]<;>simp [h] at this⊢ <;>omega
  have hF':¬(dV c.parts[k+1]=true∧ahI c.parts[k] c.parts[k+1]<0)→oV dV (iL) c.parts=false:=fun h=>hF (by rw [←Bool.not_eq_true];intro q;rw [Bool.and_eq_true] at q;exact h ⟨q.1,by have q2:=q.2;simp at q2;grind⟩)
  simp only [dV,eX,eE,Dt.ext_iff,Dt.zero,Bool.and_eq_true,decide_eq_true_eq] at hF'
  (try (apply wO pk;exact rfl));(repeat' (first|(show All _;constructor)|(show Imp _ _;constructor)|(show ImpX _ _ _ _;constructor)|(apply wC pk;(iterate 2 exact rfl))|(apply wE pk;(iterate 2 exact rfl))|(apply wX pk;exact rfl)|(apply wN pk;exact rfl)|(apply wD pk [] [];kernel_rfl;exact rfl;exact rfl)|(apply aB;simp only [zqt,zqf])|(refine aD rfl (fun h=> ?_) (fun h=> ?_)<;>(try simp at h)<;>try (exfalso;omega))|(refine aF ?_;refine ⟨_,_,_,rfl,Wk.refl _,StSub.refl _, ?_,rfl⟩;try first|rfl|((rw [hF' (by grind)]);done))|(apply aN;(iterate 3 exact rfl);(intro _;(first|apply hv|apply hd1|apply hd2|apply hd)<;>first|assumption|omega);rotate_left;(iterate 2 exact rfl))|(apply aW pk;(iterate 6 exact rfl);rotate_left;exact rfl;(first|((intro hw;exact (show ((((k+1:Nat):Int))-1=((k:Nat):Int)) from by omega));(intro hw;apply aI<;>omega);(intro _;exact rfl))|((intro hw;exact rfl);(intro hw;apply aI<;>omega);(intro _;exact rfl)));exact rfl)|(refine ⟨⟨k+2,by omega,hS (by simp [dV,eX,eE,Dt.ext_iff,Dt.zero];grind)⟩, ?_,by simp only;omega⟩;((repeat (first|refine Sub.pv ?_ rfl|refine Sub.var ?_ rfl rfl));exact Sub.nil _ _ _ (StSub.refl _) rfl))|(intros;(try simp only [zql]);omega)))
theorem xN (c:Cl) (hl:c.parts.length<4611686018427387904):PF Tryz.prog 146 [.agg c.cells] (PV.val (Value.bool (nX c))):=by
  unfold nX
  have hkv:(decide (c.kind=3)&&(decide (c.val.kind=0)&&(decide (c.val.n=0)&&decide (c.val.s=e0))))=decide (c.kind=3∧c.val=Vl.zero):=by rw [Bool.eq_iff_iff];simp [Vl.ext_iff,Vl.zero]
  refine aL aH Tryz.func146 (by kernel_rfl) rfl rfl rfl rfl (fun st=> ?_)
  (try (apply wO pk;exact rfl));(repeat' (first|(show All _;constructor)|(show Imp _ _;constructor)|(show ImpX _ _ _ _;constructor)|(apply wC pk;(iterate 2 exact rfl))|(apply wE pk;(iterate 2 exact rfl))|(apply wX pk;exact rfl)|(apply wN pk;exact rfl)|(apply wD pk [] [];kernel_rfl;exact rfl;exact rfl)|(apply aB;simp only [zqt,zqf])|(refine aD rfl (fun h=> ?_) (fun h=> ?_)<;>(try simp at h)<;>try (exfalso;omega))|(refine aF ?_;refine ⟨_,_,_,rfl,Wk.refl _,StSub.refl _, ?_,rfl⟩;try rfl)|(intros;(try simp only [zql]);omega)))
  refine aO (X:={x:Nat//x≤c.parts.length∧∀j (h:j<x) (h1:j<c.parts.length),(dV c.parts[j]&&(decide (j=0)||iL c.parts[j] (c.parts[j-1]'(by omega))))=true}) (fun i=>(((St.nil 80 st).var 1 75 (c.cells)).pv 3 ((PV.val (Value.int .i64 ((i.1:Nat))))))) (fun i=>c.parts.length-i.1) ⟨0,by omega,fun _ h=>absurd h (Nat.not_lt_zero _)⟩ ?_ (fun i=> ?_)
  · ((repeat (first|refine Sub.pv ?_ rfl|refine Sub.var ?_ rfl rfl));exact Sub.nil _ _ _ (StSub.refl _) rfl)
  obtain ⟨i,hi,hI⟩:=i
  dsimp only
  by_cases hend:c.parts.length≤i
  · have e:=rV (ok:=dV) (bh:=iL) fun j h=>hI j (by omega) h
    (try (apply wO pk;exact rfl));(repeat' (first|(show All _;constructor)|(show Imp _ _;constructor)|(show ImpX _ _ _ _;constructor)|(apply wC pk;(iterate 2 exact rfl))|(apply wE pk;(iterate 2 exact rfl))|(apply wX pk;exact rfl)|(apply wN pk;exact rfl)|(apply wD pk [] [];kernel_rfl;exact rfl;exact rfl)|(apply aB;simp only [zqt,zqf])|(refine aD rfl (fun h=> ?_) (fun h=> ?_)<;>(try simp at h)<;>try (exfalso;omega))|(refine aF ?_;refine ⟨_,_,_,rfl,Wk.refl _,StSub.refl _, ?_,rfl⟩;try first|rfl|((rw [e,Bool.and_true,←hkv]);done))|(intros;(try simp only [zql]);omega)))
  have h1:i<c.parts.length:=by omega
  have hF:=xX (ok:=dV) (bh:=iL) h1
  have hS:(dV c.parts[i]&&(decide (i=0)||iL c.parts[i] (c.parts[i-1]'(by omega))))=true→∀j (h:j<i+1) (h1:j<c.parts.length),(dV c.parts[j]&&(decide (j=0)||iL c.parts[j] (c.parts[j-1]'(by omega))))=true:=fun h j hj h1=>by
    rcases Nat.lt_succ_iff_lt_or_eq.1 hj with q|q
    · exact hI j q h1
    · subst q;exact h
  have hv:=jX c.parts[i].val
  by_cases h0:i=0
  · subst h0
    have hF':¬(dV c.parts[0]=true)→oV dV (iL) c.parts=false:=fun h=>hF (by rw [←Bool.not_eq_true];intro q;rw [Bool.and_eq_true] at q;exact h q.1)
    simp only [dV,eX,eE,Dt.ext_iff,Dt.zero,Bool.and_eq_true,decide_eq_true_eq] at hF'
    (try (apply wO pk;exact rfl));(repeat' (first|(show All _;constructor)|(show Imp _ _;constructor)|(show ImpX _ _ _ _;constructor)|(apply wC pk;(iterate 2 exact rfl))|(apply wE pk;(iterate 2 exact rfl))|(apply wX pk;exact rfl)|(apply wN pk;exact rfl)|(apply wD pk [] [];kernel_rfl;exact rfl;exact rfl)|(apply aB;simp only [zqt,zqf])|(refine aD rfl (fun h=> ?_) (fun h=> ?_)<;>(try simp at h)<;>try (exfalso;omega))|(refine aF ?_;refine ⟨_,_,_,rfl,Wk.refl _,StSub.refl _, ?_,rfl⟩;try first|rfl|((first|(rw [hF' (by grind),Bool.and_false];done)|(exact absurd (by assumption:c.parts=[]) (List.ne_nil_of_length_pos h1)));done))|(apply aN;(iterate 3 exact rfl);(intro _;(first|apply hv|apply (show PF Tryz.prog 183 [.agg c.parts[0].cells,_] (PV.val (Value.bool (false))) from by rename_i hh;exact (fZ hh).elim))<;>first|assumption|omega);rotate_left;(iterate 2 exact rfl))|(apply aW pk;(iterate 6 exact rfl);rotate_left;exact rfl;(first|((intro hw;exact (show _=((0:Nat):Int) from by exact (fZ hw).elim));(intro hw;apply aI<;>omega);(intro _;exact rfl))|((intro hw;exact rfl);(intro hw;apply aI<;>omega);(intro _;exact rfl)));exact rfl)|(refine ⟨⟨1,by omega,hS (by simp [dV,eX,eE,Dt.ext_iff,Dt.zero];grind)⟩, ?_,by simp only;omega⟩;((repeat (first|refine Sub.pv ?_ rfl|refine Sub.var ?_ rfl rfl));exact Sub.nil _ _ _ (StSub.refl _) rfl))|(intros;(try simp only [zql]);omega)))
  obtain ⟨k,rfl⟩:∃k,i=k+1:=⟨i-1,by omega⟩
  have hd:=anT c.parts[k+1] c.parts[k]
  have hF':¬(dV c.parts[k+1]=true∧iL c.parts[k+1] c.parts[k]=true)→oV dV (iL) c.parts=false:=fun h=>hF (by rw [←Bool.not_eq_true];intro q;rw [Bool.and_eq_true] at q;exact h ⟨q.1,by have q2:=q.2;simp at q2;grind⟩)
  simp only [dV,eX,eE,Dt.ext_iff,Dt.zero,Bool.and_eq_true,decide_eq_true_eq] at hF'
  (try (apply wO pk;exact rfl));(repeat' (first|(show All _;constructor)|(show Imp _ _;constructor)|(show ImpX _ _ _ _;constructor)|(apply wC pk;(iterate 2 exact rfl))|(apply wE pk;(iterate 2 exact rfl))|(apply wX pk;exact rfl)|(apply wN pk;exact rfl)|(apply wD pk [] [];kernel_rfl;exact rfl;exact rfl)|(apply aB;simp only [zqt,zqf])|(refine aD rfl (fun h=> ?_) (fun h=> ?_)<;>(try simp at h)<;>try (exfalso;omega))|(refine aF ?_;refine ⟨_,_,_,rfl,Wk.refl _,StSub.refl _, ?_,rfl⟩;try first|rfl|((rw [hF' (by grind),Bool.and_false]);done))|(apply aN;(iterate 3 exact rfl);(intro _;(first|apply hv|apply hd)<;>first|assumption|omega);rotate_left;(iterate 2 exact rfl))|(apply aW pk;(iterate 6 exact rfl);rotate_left;exact rfl;(first|((intro hw;exact (show ((((k+1:Nat):Int))-1=((k:Nat):Int)) from by omega));(intro hw;apply aI<;>omega);(intro _;exact rfl))|((intro hw;exact rfl);(intro hw;apply aI<;>omega);(intro _;exact rfl)));exact rfl)|(refine ⟨⟨k+2,by omega,hS (by simp [dV,eX,eE,Dt.ext_iff,Dt.zero];grind)⟩, ?_,by simp only;omega⟩;((repeat (first|refine Sub.pv ?_ rfl|refine Sub.var ?_ rfl rfl));exact Sub.nil _ _ _ (StSub.refl _) rfl))|(intros;(try simp only [zql]);omega)))
end Go.Proofs.YtddmbnddgiebgaaGreatDoor
