import Derived.Test.YtcglimangneafaaGreatDoorBsFn
set_option linter.unusedSimpArgs false
set_option linter.unusedVariables false
namespace Go.Proofs.YtcglimangneafaaGreatDoor
open Go Go.Abs
attribute [local irreducible] Ev PWp
set_option maxRecDepth 10000
set_option maxHeartbeats 2000000
def eD (v:Vl):Bool:=if v.kind=0 then decide (v.n=0)&&decide (v.s=e0) else if v.kind=1 then (decide (v.s=e0)&&decide (v.n≥ -1099511627776))&&decide (v.n≤1099511627776) else if v.kind=2 then decide (v.n=0)&&decide ((v.s.size:Int)≤200) else false
theorem jQ (v:Vl):PF Tryz.prog 132 [.agg v.cells] (PV.val (Value.bool (eD v))):=by
  unfold eD
  by_cases h0:v.kind=0
  · rw [if_pos h0]
    refine aH aD Tryz.func132 (by kernel_rfl) rfl rfl rfl rfl (fun st=> ?_)
    (try (apply wO pk;exact rfl));(repeat' (first|(show All _;constructor)|(apply wC pk;(iterate 2 exact rfl))|(refine aA rfl (fun h=> ?_) (fun h=> ?_)<;>(try simp at h)<;>try (exfalso;omega))|(refine aB ?_;refine ⟨_,_,_,rfl,Wk.refl _,StSub.refl _, ?_,rfl⟩;try first|rfl|(((simp [h0];done));done))))
  by_cases h1:v.kind=1
  · rw [if_neg h0,if_pos h1]
    refine aH aD Tryz.func132 (by kernel_rfl) rfl rfl rfl rfl (fun st=> ?_)
    (try (apply wO pk;exact rfl));(repeat' (first|(show All _;constructor)|(show Imp _ _;constructor)|(show ImpX _ _ _ _;constructor)|(apply wC pk;(iterate 2 exact rfl))|(refine aA rfl (fun h=> ?_) (fun h=> ?_)<;>(try simp at h)<;>try (exfalso;omega))|(refine aB ?_;refine ⟨_,_,_,rfl,Wk.refl _,StSub.refl _, ?_,rfl⟩;try first|rfl|((fail);done))))
  rw [if_neg h0,if_neg h1]
  by_cases h2:v.kind=2
  · rw [if_pos h2]
    refine aH aD Tryz.func132 (by kernel_rfl) rfl rfl rfl rfl (fun st=> ?_)
    (try (apply wO pk;exact rfl));(repeat' (first|(show All _;constructor)|(show Imp _ _;constructor)|(show ImpX _ _ _ _;constructor)|(apply wC pk;(iterate 2 exact rfl))|(refine aA rfl (fun h=> ?_) (fun h=> ?_)<;>(try simp at h)<;>try (exfalso;omega))|(refine aB ?_;refine ⟨_,_,_,rfl,Wk.refl _,StSub.refl _, ?_,rfl⟩;try first|rfl|((fail);done))))
  rw [if_neg h2]
  refine aH aD Tryz.func132 (by kernel_rfl) rfl rfl rfl rfl (fun st=> ?_)
  (try (apply wO pk;exact rfl));(repeat' (first|(show All _;constructor)|(apply wC pk;(iterate 2 exact rfl))|(refine aA rfl (fun h=> ?_) (fun h=> ?_)<;>(try simp at h)<;>try (exfalso;omega))|(refine aB ?_;refine ⟨_,_,_,rfl,Wk.refl _,StSub.refl _, ?_,rfl⟩;try first|rfl|((fail);done))))
theorem iF (v:Vl):PF Tryz.prog 114 [.agg v.cells] (PV.val (Value.bool (eD v))):=by
  unfold eD
  by_cases h0:v.kind=0
  · rw [if_pos h0]
    refine aH aD Tryz.func114 (by kernel_rfl) rfl rfl rfl rfl (fun st=> ?_)
    (try (apply wO pk;exact rfl));(repeat' (first|(show All _;constructor)|(show Imp _ _;constructor)|(show ImpX _ _ _ _;constructor)|(apply wC pk;(iterate 2 exact rfl))|(refine aA rfl (fun h=> ?_) (fun h=> ?_)<;>(try simp at h)<;>try (exfalso;omega))|(refine aB ?_;refine ⟨_,_,_,rfl,Wk.refl _,StSub.refl _, ?_,rfl⟩;try first|rfl|((fail);done))))
  by_cases h1:v.kind=1
  · rw [if_neg h0,if_pos h1]
    refine aH aD Tryz.func114 (by kernel_rfl) rfl rfl rfl rfl (fun st=> ?_)
    (try (apply wO pk;exact rfl));(repeat' (first|(show All _;constructor)|(show Imp _ _;constructor)|(show ImpX _ _ _ _;constructor)|(apply wC pk;(iterate 2 exact rfl))|(refine aA rfl (fun h=> ?_) (fun h=> ?_)<;>(try simp at h)<;>try (exfalso;omega))|(refine aB ?_;refine ⟨_,_,_,rfl,Wk.refl _,StSub.refl _, ?_,rfl⟩;try first|rfl|((fail);done))))
  rw [if_neg h0,if_neg h1]
  refine aH aD Tryz.func114 (by kernel_rfl) rfl rfl rfl rfl (fun st=> ?_)
  (try (apply wO pk;exact rfl));(repeat' (first|(show All _;constructor)|(show Imp _ _;constructor)|(show ImpX _ _ _ _;constructor)|(apply wC pk;(iterate 2 exact rfl))|(refine aA rfl (fun h=> ?_) (fun h=> ?_)<;>(try simp at h)<;>try (exfalso;omega))|(refine aB ?_;refine ⟨_,_,_,rfl,Wk.refl _,StSub.refl _, ?_,rfl⟩;try first|rfl|(((by_cases h2:v.kind=2<;>simp [h2];done));done))))
def fE (c:Cl):Int:=if c.kind≠2∨c.val.kind≠1 then 6 else if c.val.s≠e0∨0<c.parts.length then 1 else if c.val.n< -1099511627776∨c.val.n>1099511627776 then 20 else 0
theorem alG (n:Int):PF Tryz.prog 176 [(PV.val (Value.int .i64 (n)))] (PV.val (Value.bool (decide (n≥ -1099511627776)&&decide (n≤1099511627776)))):=by
  refine aH aD Tryz.func176 (by kernel_rfl) rfl rfl rfl rfl (fun st=> ?_)
  (try (apply wO pk;exact rfl));(repeat' (first|(show All _;constructor)|(show Imp _ _;constructor)|(show ImpX _ _ _ _;constructor)|(refine aB ?_;refine ⟨_,_,_,rfl,Wk.refl _,StSub.refl _, ?_,rfl⟩;try rfl)))
theorem tD (c:Cl):PF Tryz.prog 134 [.agg c.cells] (PV.val (Value.int .i64 (fE c))):=by
  have hf:=alG c.val.n
  unfold fE
  by_cases h1:c.kind≠2∨c.val.kind≠1
  · rw [if_pos h1]
    refine aH aD Tryz.func134 (by kernel_rfl) rfl rfl rfl rfl (fun st=> ?_)
    (try (apply wO pk;exact rfl));(repeat' (first|(show All _;constructor)|(show Imp _ _;constructor)|(show ImpX _ _ _ _;constructor)|(apply wC pk;(iterate 2 exact rfl))|(refine aA rfl (fun h=> ?_) (fun h=> ?_)<;>(try simp at h)<;>try (exfalso;omega))|(refine aB ?_;refine ⟨_,_,_,rfl,Wk.refl _,StSub.refl _, ?_,rfl⟩;try first|rfl|((fail);done))))
  rw [if_neg h1]
  by_cases h2:c.val.s≠e0∨0<c.parts.length
  · rw [if_pos h2]
    refine aH aD Tryz.func134 (by kernel_rfl) rfl rfl rfl rfl (fun st=> ?_)
    (try (apply wO pk;exact rfl));(repeat' (first|(show All _;constructor)|(show Imp _ _;constructor)|(show ImpX _ _ _ _;constructor)|(apply wC pk;(iterate 2 exact rfl))|(apply wE pk;(iterate 2 exact rfl))|(refine aA rfl (fun h=> ?_) (fun h=> ?_)<;>(try simp at h)<;>try (exfalso;omega))|(refine aB ?_;refine ⟨_,_,_,rfl,Wk.refl _,StSub.refl _, ?_,rfl⟩;try first|rfl|(((exfalso;simp at*;grind));done))|(apply aI;(iterate 3 exact rfl);(intro _;apply hf<;>first|assumption|omega);rotate_left;(iterate 2 exact rfl))))
  rw [if_neg h2]
  by_cases h3:c.val.n< -1099511627776∨c.val.n>1099511627776
  · rw [if_pos h3]
    refine aH aD Tryz.func134 (by kernel_rfl) rfl rfl rfl rfl (fun st=> ?_)
    (try (apply wO pk;exact rfl));(repeat' (first|(show All _;constructor)|(show Imp _ _;constructor)|(show ImpX _ _ _ _;constructor)|(apply wC pk;(iterate 2 exact rfl))|(apply wE pk;(iterate 2 exact rfl))|(refine aA rfl (fun h=> ?_) (fun h=> ?_)<;>(try simp at h)<;>try (exfalso;omega))|(refine aB ?_;refine ⟨_,_,_,rfl,Wk.refl _,StSub.refl _, ?_,rfl⟩;try first|rfl|(((exfalso;simp at*;grind));done))|(apply aI;(iterate 3 exact rfl);(intro _;apply hf<;>first|assumption|omega);rotate_left;(iterate 2 exact rfl))))
  rw [if_neg h3]
  refine aH aD Tryz.func134 (by kernel_rfl) rfl rfl rfl rfl (fun st=> ?_)
  (try (apply wO pk;exact rfl));(repeat' (first|(show All _;constructor)|(show Imp _ _;constructor)|(show ImpX _ _ _ _;constructor)|(apply wC pk;(iterate 2 exact rfl))|(apply wE pk;(iterate 2 exact rfl))|(refine aA rfl (fun h=> ?_) (fun h=> ?_)<;>(try simp at h)<;>try (exfalso;omega))|(refine aB ?_;refine ⟨_,_,_,rfl,Wk.refl _,StSub.refl _, ?_,rfl⟩;try first|rfl|(((exfalso;simp at*;grind));done))|(apply aI;(iterate 3 exact rfl);(intro _;apply hf<;>first|assumption|omega);rotate_left;(iterate 2 exact rfl))))
theorem qF (c:Cl):PF Tryz.prog 155 [.agg c.cells] (PV.val (Value.int .i64 (fE c))):=by
  unfold fE
  by_cases h1:c.kind≠2∨c.val.kind≠1
  · rw [if_pos h1]
    refine aH aD Tryz.func155 (by kernel_rfl) rfl rfl rfl rfl (fun st=> ?_)
    (try (apply wO pk;exact rfl));(repeat' (first|(show All _;constructor)|(show Imp _ _;constructor)|(show ImpX _ _ _ _;constructor)|(apply wC pk;(iterate 2 exact rfl))|(refine aA rfl (fun h=> ?_) (fun h=> ?_)<;>(try simp at h)<;>try (exfalso;omega))|(refine aB ?_;refine ⟨_,_,_,rfl,Wk.refl _,StSub.refl _, ?_,rfl⟩;try first|rfl|((fail);done))))
  rw [if_neg h1]
  by_cases h2:c.val.s≠e0∨0<c.parts.length
  · rw [if_pos h2]
    refine aH aD Tryz.func155 (by kernel_rfl) rfl rfl rfl rfl (fun st=> ?_)
    (try (apply wO pk;exact rfl));(repeat' (first|(show All _;constructor)|(show Imp _ _;constructor)|(show ImpX _ _ _ _;constructor)|(apply wC pk;(iterate 2 exact rfl))|(refine aA rfl (fun h=> ?_) (fun h=> ?_)<;>(try simp at h)<;>try (exfalso;omega))|(refine aB ?_;refine ⟨_,_,_,rfl,Wk.refl _,StSub.refl _, ?_,rfl⟩;try first|rfl|(((exfalso;simp at*;grind));done))))
  rw [if_neg h2]
  by_cases h3:c.val.n< -1099511627776∨c.val.n>1099511627776
  · rw [if_pos h3]
    refine aH aD Tryz.func155 (by kernel_rfl) rfl rfl rfl rfl (fun st=> ?_)
    (try (apply wO pk;exact rfl));(repeat' (first|(show All _;constructor)|(show Imp _ _;constructor)|(show ImpX _ _ _ _;constructor)|(apply wC pk;(iterate 2 exact rfl))|(refine aA rfl (fun h=> ?_) (fun h=> ?_)<;>(try simp at h)<;>try (exfalso;omega))|(refine aB ?_;refine ⟨_,_,_,rfl,Wk.refl _,StSub.refl _, ?_,rfl⟩;try first|rfl|(((exfalso;simp at*;grind));done))))
  rw [if_neg h3]
  refine aH aD Tryz.func155 (by kernel_rfl) rfl rfl rfl rfl (fun st=> ?_)
  (try (apply wO pk;exact rfl));(repeat' (first|(show All _;constructor)|(show Imp _ _;constructor)|(show ImpX _ _ _ _;constructor)|(apply wC pk;(iterate 2 exact rfl))|(refine aA rfl (fun h=> ?_) (fun h=> ?_)<;>(try simp at h)<;>try (exfalso;omega))|(refine aB ?_;refine ⟨_,_,_,rfl,Wk.refl _,StSub.refl _, ?_,rfl⟩;try first|rfl|(((exfalso;simp at*;grind));done))))
theorem aaX (c:Cl):PF Tryz.prog 140 [.seq [c.cells]] (PV.val (Value.int .i64 (fE c))):=by
  have hc:=tD c
  generalize fE c=R at*
  refine aH aD Tryz.func140 (by kernel_rfl) rfl rfl rfl rfl (fun st=> ?_)
  (try (apply wO pk;exact rfl));(repeat' ((show All _;constructor)))
  refine aJ (X:={x:Nat//x≤1∧(x=1→R=0)}) (fun i=>((((St.nil 18 st).pv 6 (.seq [c.cells])).pv 7 ((PV.val (Value.int .i64 ((([c.cells]).length:Nat)))))).pv 8 ((PV.val (Value.int .i64 ((i.1:Nat))))))) (fun i=>1-i.1) ⟨0,by omega,by omega⟩ ?_ (fun i=> ?_)
  · ((repeat (refine Sub.pv ?_ rfl));exact Sub.nil _ _ _ (StSub.refl _) rfl)
  obtain ⟨i,h1,hinv⟩:=i
  dsimp only
  rcases (show i=0∨i=1 by omega) with rfl|rfl
  · (try (apply wO pk;exact rfl));(repeat' (first|(show All _;constructor)|(show Imp _ _;constructor)|(apply wC pk;(iterate 2 exact rfl))|(apply wE pk;(iterate 2 exact rfl))|(refine aA rfl (fun h=> ?_) (fun h=> ?_)<;>(try simp at h)<;>try (exfalso;omega))|(refine aB ?_;refine ⟨_,_,_,rfl,Wk.refl _,StSub.refl _, ?_,rfl⟩;try first|rfl|(rfl;done))|(apply aI;(iterate 3 exact rfl);(intro _;apply hc<;>first|assumption|omega);rotate_left;(iterate 2 exact rfl))|(apply aM pk;(iterate 6 exact rfl);rotate_left;exact rfl;(intro hw;exact rfl);(intro hw;apply (rfl:([c.cells]:List (List PV))[0]?=some c.cells)<;>omega);(intro _;exact rfl);exact rfl)|(refine ⟨⟨1,by omega,fun _=>by assumption⟩, ?_,by simp only;omega⟩;((repeat (refine Sub.pv ?_ rfl));exact Sub.nil _ _ _ (StSub.refl _) rfl))|(intros;(try simp only [zql]);omega)))
  · have h0:=hinv rfl
    (try (apply wO pk;exact rfl));(repeat' (first|(show All _;constructor)|(apply wC pk;(iterate 2 exact rfl))|(refine aA rfl (fun h=> ?_) (fun h=> ?_)<;>(try simp at h)<;>try (exfalso;omega))|(refine aB ?_;refine ⟨_,_,_,rfl,Wk.refl _,StSub.refl _, ?_,rfl⟩;try first|rfl|((rw [h0]);done))))
def vX (c:Cl):Vl:=if fE c=0 then c.val else Vl.zero
theorem ahQ (c:Cl):PF Tryz.prog 96 [.agg c.cells] (.agg (vX c).cells):=by
  have hc:=aaX c
  unfold vX
  by_cases h:fE c=0
  · rw [if_pos h]
    rw [h] at hc
    refine aH aD Tryz.func96 (by kernel_rfl) rfl rfl rfl rfl (fun st=> ?_)
    (try (apply wO pk;exact rfl));(repeat' (first|(show All _;constructor)|(show Imp _ _;constructor)|(apply wC pk;(iterate 2 exact rfl))|(apply wE pk;(iterate 2 exact rfl))|(refine aA rfl (fun h=> ?_) (fun h=> ?_)<;>(try simp at h)<;>try (exfalso;omega))|(refine aB ?_;refine ⟨_,_,_,rfl,Wk.refl _,StSub.refl _, ?_,rfl⟩;try rfl)|(apply aI;(iterate 3 exact rfl);(intro _;apply hc<;>first|assumption|omega);rotate_left;(iterate 2 exact rfl))))
  rw [if_neg h]
  refine aH aD Tryz.func96 (by kernel_rfl) rfl rfl rfl rfl (fun st=> ?_)
  (try (apply wO pk;exact rfl));(repeat' (first|(show All _;constructor)|(show Imp _ _;constructor)|(apply wC pk;(iterate 2 exact rfl))|(apply wE pk;(iterate 2 exact rfl))|(refine aA rfl (fun h=> ?_) (fun h=> ?_)<;>(try simp at h)<;>try (exfalso;omega))|(refine aB ?_;refine ⟨_,_,_,rfl,Wk.refl _,StSub.refl _, ?_,rfl⟩;try first|rfl|((exfalso;omega);done))|(apply aI;(iterate 3 exact rfl);(intro _;apply hc<;>first|assumption|omega);rotate_left;(iterate 2 exact rfl))))
end Go.Proofs.YtcglimangneafaaGreatDoor
namespace Go.Proofs.YtcglimangneafaaGreatDoor
open Go Go.Abs
attribute [local irreducible] Ev PWp
set_option maxRecDepth 10000
set_option maxHeartbeats 4000000
theorem anA (a b:Dt):PF Tryz.prog 175 [.agg a.cells, .agg b.cells] (PV.val (Value.int .i64 (byD a b))):=by
  have ho:=aaS [iB a.dev b.dev,iB a.seq b.seq] (by simp)
  refine aH aD Tryz.func175 (by kernel_rfl) rfl rfl rfl rfl (fun st=> ?_)
  (try (apply wO pk;exact rfl));(repeat' (first|(show All _;constructor)|(show Imp _ _;constructor)|(apply wE pk;(iterate 2 exact rfl))|(apply wD pk [] [];kernel_rfl;exact rfl;exact rfl)|(refine aB ?_;refine ⟨_,_,_,rfl,Wk.refl _,StSub.refl _, ?_,rfl⟩;try rfl)|(apply aI;(iterate 3 exact rfl);(intro _;(first|apply (hZ a.dev b.dev)|apply (hZ a.seq b.seq)|apply ho)<;>first|assumption|omega);rotate_left;(iterate 2 exact rfl))))
theorem ajO (a b:Dt):decide (byD a b≥0)= !cZ b a:=by
  unfold byD cZ iB
  simp only [orI]
  rw [Bool.eq_iff_iff]
  simp only [decide_eq_true_eq,Bool.not_eq_true',Bool.or_eq_false_iff,Bool.and_eq_false_iff,decide_eq_false_iff_not]
  grind
def fK (p:Pt):Prop:=p.at_=0∧p.time=0∧p.after=Dt.zero∧p.afterAt=0∧p.gone=false
instance (p :Pt):Decidable (fK p):=by unfold fK;infer_instance
def eN (d:Dt):Bool:=((decide (1≤d.dev)&&decide (d.dev≤64))&&decide (1≤d.seq))&&decide (d.seq≤1048576)
def dL (p:Pt):Bool:=(decide (fK p)&&eD p.val)&&eN p.dot
def dW (p:Pt):Bool:=(decide (fK p)&&(decide (p.val.kind=1)&&eD p.val))&&eN p.dot
def qB (ok:Pt→Bool) (bh:Pt→Pt→Bool) (l:List Pt):Bool:=(List.range l.length).all fun j=>ok l[j]! &&(decide (j=0)||bh l[j]! l[j-1]!)
theorem aaO {ok:Pt→Bool} {bh:Pt→Pt→Bool} {l:List Pt} {j:Nat} (h:j<l.length) (hf:(ok l[j]&&(decide (j=0)||bh l[j] (l[j-1]'(by omega))))=false):qB ok bh l=false:=by
  unfold qB
  rw [←Bool.not_eq_true,List.all_eq_true]
  intro q
  have:=q j (List.mem_range.2 h)
  rw [getElem!_pos l j h,getElem!_pos l (j-1) (by omega),hf] at this
  cases this
theorem uG {ok:Pt→Bool} {bh:Pt→Pt→Bool} {l:List Pt} (hf:∀j (h:j<l.length),(ok l[j]&&(decide (j=0)||bh l[j] (l[j-1]'(by omega))))=true):qB ok bh l=true:=by
  unfold qB
  rw [List.all_eq_true]
  intro j hj
  have h:=List.mem_range.1 hj
  rw [getElem!_pos l j h,getElem!_pos l (j-1) (by omega)]
  exact hf j h
def oR (c:Cl):Bool:=decide (c.kind=1∧c.val=Vl.zero)&&qB dL (fun p q=>cZ p.dot q.dot) c.parts
def aiX (p:Pt):List PV:=[(PV.val (Value.int .i64 (p.val.n))),(PV.val (Value.int .i64 (p.dot.dev))),(PV.val (Value.int .i64 (p.dot.seq)))]
theorem xQ (p:Pt):PF Tryz.prog 177 [.agg p.cells] (.agg (aiX p)):=by
  refine aH aD Tryz.func177 (by kernel_rfl) rfl rfl rfl rfl (fun st=> ?_)
  (try (apply wO pk;exact rfl));(repeat' (first|(show All _;constructor)|(refine aB ?_;refine ⟨_,_,_,rfl,Wk.refl _,StSub.refl _, ?_,rfl⟩;try rfl)))
def ahI (p q:Pt):Int:=orI [iB p.val.n q.val.n,iB p.dot.dev q.dot.dev,iB p.dot.seq q.dot.seq]
theorem auP (p q:Pt):PF Tryz.prog 178 [.agg (aiX p), .agg (aiX q)] (PV.val (Value.int .i64 (ahI p q))):=by
  have ho:=aaS [iB p.val.n q.val.n,iB p.dot.dev q.dot.dev,iB p.dot.seq q.dot.seq] (by simp)
  refine aH aD Tryz.func178 (by kernel_rfl) rfl rfl rfl rfl (fun st=> ?_)
  (try (apply wO pk;exact rfl));(repeat' (first|(show All _;constructor)|(show Imp _ _;constructor)|(apply wE pk;(iterate 2 exact rfl))|(apply wD pk [] [];kernel_rfl;exact rfl;exact rfl)|(refine aB ?_;refine ⟨_,_,_,rfl,Wk.refl _,StSub.refl _, ?_,rfl⟩;try rfl)|(apply aI;(iterate 3 exact rfl);(intro _;(first|apply (hZ p.val.n q.val.n)|apply (hZ p.dot.dev q.dot.dev)|apply (hZ p.dot.seq q.dot.seq)|apply ho)<;>first|assumption|omega);rotate_left;(iterate 2 exact rfl))))
def jR (p q:Pt):Bool:=decide (p.val.n>q.val.n)||(decide (p.val.n=q.val.n)&&cZ p.dot q.dot)
theorem azC (p q:Pt):decide (ahI p q≥0)= !jR q p:=by
  unfold ahI jR cZ iB
  simp only [orI]
  rw [Bool.eq_iff_iff]
  simp only [decide_eq_true_eq,Bool.not_eq_true',Bool.or_eq_false_iff,Bool.and_eq_false_iff,decide_eq_false_iff_not]
  grind
theorem atK (p q:Pt):PF Tryz.prog 206 [.agg p.cells, .agg q.cells] (PV.val (Value.bool (jR p q))):=by
  have h:=kR p.dot q.dot
  refine aH aD Tryz.func206 (by kernel_rfl) rfl rfl rfl rfl (fun st=> ?_)
  (try (apply wO pk;exact rfl));(repeat' (first|(show All _;constructor)|(show Imp _ _;constructor)|(show ImpX _ _ _ _;constructor)|(apply wE pk;(iterate 2 exact rfl))|(refine aB ?_;refine ⟨_,_,_,rfl,Wk.refl _,StSub.refl _, ?_,rfl⟩;try rfl)|(apply aI;(iterate 3 exact rfl);(intro _;apply h<;>first|assumption|omega);rotate_left;(iterate 2 exact rfl))))
def pB (c:Cl):Bool:=decide (c.kind=3∧c.val=Vl.zero)&&qB dW jR c.parts
theorem hJ {x:Bool} (h:gw x (decide (((0:Nat):Int)>0)) true=true):False:=by
  cases x<;>simp [gw] at h
theorem acZ (c:Cl) (hl:c.parts.length<4611686018427387904):PF Tryz.prog 133 [.agg c.cells] (PV.val (Value.bool (oR c))):=by
  unfold oR
  by_cases hk:¬(c.kind=1∧c.val=Vl.zero)
  · rw [decide_eq_false hk,Bool.false_and]
    rw [Vl.ext_iff] at hk
    simp only [Vl.zero] at hk
    refine aH aD Tryz.func133 (by kernel_rfl) rfl rfl rfl rfl (fun st=> ?_)
    (try (apply wO pk;exact rfl));(repeat' (first|((exfalso;grind))|(show All _;constructor)|(show Imp _ _;constructor)|(show ImpX _ _ _ _;constructor)|(apply wC pk;(iterate 2 exact rfl))|(refine aA rfl (fun h=> ?_) (fun h=> ?_)<;>(try simp at h)<;>try (exfalso;omega))|(refine aB ?_;refine ⟨_,_,_,rfl,Wk.refl _,StSub.refl _, ?_,rfl⟩;try first|rfl|((exfalso;grind);done))))
  replace hk:=Decidable.of_not_not hk
  rw [decide_eq_true hk,Bool.true_and]
  obtain ⟨k1,k2⟩:=hk
  rw [Vl.ext_iff] at k2
  obtain ⟨k2,k3,k4⟩:=k2
  simp only [Vl.zero] at k2 k3 k4
  refine aH aD Tryz.func133 (by kernel_rfl) rfl rfl rfl rfl (fun st=> ?_)
  (try (apply wO pk;exact rfl));(repeat' (first|(show All _;constructor)|(show Imp _ _;constructor)|(show ImpX _ _ _ _;constructor)|(apply wC pk;(iterate 2 exact rfl))|(refine aA rfl (fun h=> ?_) (fun h=> ?_)<;>(try simp at h)<;>try (exfalso;omega))|(refine aB ?_;refine ⟨_,_,_,rfl,Wk.refl _,StSub.refl _, ?_,rfl⟩;try first|rfl|((exfalso;grind);done))))
  refine aJ (X:={x:Nat//x≤c.parts.length∧∀j (h:j<x) (h1:j<c.parts.length),(dL c.parts[j]&&(decide (j=0)||cZ c.parts[j].dot (c.parts[j-1]'(by omega)).dot))=true}) (fun i=>(((((St.nil 79 st).var 1 112 (c.cells)).pv 16 (.seq (c.parts.map Pt.cells))).pv 17 ((PV.val (Value.int .i64 (((c.parts.map Pt.cells).length:Nat)))))).pv 18 ((PV.val (Value.int .i64 ((i.1:Nat))))))) (fun i=>c.parts.length-i.1) ⟨0,by omega,fun _ h=>absurd h (Nat.not_lt_zero _)⟩ ?_ (fun i=> ?_)
  · ((repeat (first|refine Sub.pv ?_ rfl|refine Sub.var ?_ rfl rfl));exact Sub.nil _ _ _ (StSub.refl _) rfl)
  obtain ⟨i,hi,hI⟩:=i
  dsimp only
  by_cases hend:c.parts.length≤i
  · have e:=uG (ok:=dL) (bh:=fun p q=>cZ p.dot q.dot) fun j h=>hI j (by omega) h
    (try (apply wO pk;exact rfl));(repeat' (first|(show All _;constructor)|(apply wC pk;(iterate 2 exact rfl))|(refine aA rfl (fun h=> ?_) (fun h=> ?_)<;>(try simp at h)<;>try (exfalso;omega))|(refine aB ?_;refine ⟨_,_,_,rfl,Wk.refl _,StSub.refl _, ?_,rfl⟩;try first|rfl|((rw [e]);done))))
  have h1:i<c.parts.length:=by omega
  have hF:=aaO (ok:=dL) (bh:=fun p q=>cZ p.dot q.dot) h1
  have hS:(dL c.parts[i]&&(decide (i=0)||cZ c.parts[i].dot (c.parts[i-1]'(by omega)).dot))=true→∀j (h:j<i+1) (h1:j<c.parts.length),(dL c.parts[j]&&(decide (j=0)||cZ c.parts[j].dot (c.parts[j-1]'(by omega)).dot))=true:=fun h j hj h1=>by
    rcases Nat.lt_succ_iff_lt_or_eq.1 hj with q|q
    · exact hI j q h1
    · subst q;exact h
  have hv:=jQ c.parts[i].val
  by_cases h0:i=0
  · subst h0
    have hF':¬(dL c.parts[0]=true)→qB dL (fun p q=>cZ p.dot q.dot) c.parts=false:=fun h=>hF (by rw [←Bool.not_eq_true];intro q;rw [Bool.and_eq_true] at q;exact h q.1)
    simp only [dL,fK,eN,Dt.ext_iff,Dt.zero,Bool.and_eq_true,decide_eq_true_eq] at hF'
    (try (apply wO pk;exact rfl));(repeat' (first|(show All _;constructor)|(show Imp _ _;constructor)|(show ImpX _ _ _ _;constructor)|(apply wC pk;(iterate 2 exact rfl))|(apply wE pk;(iterate 2 exact rfl))|(apply wD pk [] [];kernel_rfl;exact rfl;exact rfl)|(refine aA rfl (fun h=> ?_) (fun h=> ?_)<;>(try simp at h)<;>try (exfalso;omega))|(refine aB ?_;refine ⟨_,_,_,rfl,Wk.refl _,StSub.refl _, ?_,rfl⟩;try first|rfl|((first|(rw [hF' (by grind)];done)|(exact absurd (by assumption:c.parts=[]) (List.ne_nil_of_length_pos h1)));done))|(apply aI;(iterate 3 exact rfl);(intro _;(first|apply hv|apply (show PF Tryz.prog 175 [_, .agg c.parts[0].dot.cells] (PV.val (Value.int .i64 (0))) from by rename_i hh;exact (hJ hh).elim))<;>first|assumption|omega);rotate_left;(iterate 2 exact rfl))|(apply aM pk;(iterate 6 exact rfl);rotate_left;exact rfl;(first|((intro hw;exact (show _=((0:Nat):Int) from by exact (hJ hw).elim));(intro hw;apply aF<;>omega);(intro _;exact rfl))|((intro hw;exact rfl);(intro hw;apply aF<;>omega);(intro _;exact rfl)));exact rfl)|(refine ⟨⟨1,by omega,hS (by simp [dL,fK,eN,Dt.ext_iff,Dt.zero];grind)⟩, ?_,by simp only;omega⟩;((repeat (first|refine Sub.pv ?_ rfl|refine Sub.var ?_ rfl rfl));exact Sub.nil _ _ _ (StSub.refl _) rfl))|(intros;(try simp only [zql]);omega)))
  obtain ⟨k,rfl⟩:∃k,i=k+1:=⟨i-1,by omega⟩
  have hd:=anA c.parts[k].dot c.parts[k+1].dot
  have hb:byD c.parts[k].dot c.parts[k+1].dot≥0↔cZ c.parts[k+1].dot c.parts[k].dot=false:=by have:=ajO c.parts[k].dot c.parts[k+1].dot;cases h:cZ c.parts[k+1].dot c.parts[k].dot<;>simp [h] at this⊢ <;>omega
  have hF':¬(dL c.parts[k+1]=true∧byD c.parts[k].dot c.parts[k+1].dot<0)→qB dL (fun p q=>cZ p.dot q.dot) c.parts=false:=fun h=>hF (by rw [←Bool.not_eq_true];intro q;rw [Bool.and_eq_true] at q;exact h ⟨q.1,by have q2:=q.2;simp at q2;grind⟩)
  simp only [dL,fK,eN,Dt.ext_iff,Dt.zero,Bool.and_eq_true,decide_eq_true_eq] at hF'
  (try (apply wO pk;exact rfl));(repeat' (first|(show All _;constructor)|(show Imp _ _;constructor)|(show ImpX _ _ _ _;constructor)|(apply wC pk;(iterate 2 exact rfl))|(apply wE pk;(iterate 2 exact rfl))|(apply wD pk [] [];kernel_rfl;exact rfl;exact rfl)|(refine aA rfl (fun h=> ?_) (fun h=> ?_)<;>(try simp at h)<;>try (exfalso;omega))|(refine aB ?_;refine ⟨_,_,_,rfl,Wk.refl _,StSub.refl _, ?_,rfl⟩;try first|rfl|((rw [hF' (by grind)]);done))|(apply aI;(iterate 3 exact rfl);(intro _;(first|apply hv|apply hd)<;>first|assumption|omega);rotate_left;(iterate 2 exact rfl))|(apply aM pk;(iterate 6 exact rfl);rotate_left;exact rfl;(first|((intro hw;exact (show ((((k+1:Nat):Int))-1=((k:Nat):Int)) from by omega));(intro hw;apply aF<;>omega);(intro _;exact rfl))|((intro hw;exact rfl);(intro hw;apply aF<;>omega);(intro _;exact rfl)));exact rfl)|(refine ⟨⟨k+2,by omega,hS (by simp [dL,fK,eN,Dt.ext_iff,Dt.zero];grind)⟩, ?_,by simp only;omega⟩;((repeat (first|refine Sub.pv ?_ rfl|refine Sub.var ?_ rfl rfl));exact Sub.nil _ _ _ (StSub.refl _) rfl))|(intros;(try simp only [zql]);omega)))
theorem aaQ (c:Cl) (hl:c.parts.length<4611686018427387904):PF Tryz.prog 154 [.agg c.cells] (PV.val (Value.bool (oR c))):=by
  unfold oR
  have hkv:(decide (c.kind=1)&&(decide (c.val.kind=0)&&(decide (c.val.n=0)&&decide (c.val.s=e0))))=decide (c.kind=1∧c.val=Vl.zero):=by rw [Bool.eq_iff_iff];simp [Vl.ext_iff,Vl.zero]
  refine aH aD Tryz.func154 (by kernel_rfl) rfl rfl rfl rfl (fun st=> ?_)
  (try (apply wO pk;exact rfl));(repeat' ((show All _;constructor)))
  refine aJ (X:={x:Nat//x≤c.parts.length∧∀j (h:j<x) (h1:j<c.parts.length),(dL c.parts[j]&&(decide (j=0)||cZ c.parts[j].dot (c.parts[j-1]'(by omega)).dot))=true}) (fun i=>(((St.nil 76 st).var 1 112 (c.cells)).pv 3 ((PV.val (Value.int .i64 ((i.1:Nat))))))) (fun i=>c.parts.length-i.1) ⟨0,by omega,fun _ h=>absurd h (Nat.not_lt_zero _)⟩ ?_ (fun i=> ?_)
  · ((repeat (first|refine Sub.pv ?_ rfl|refine Sub.var ?_ rfl rfl));exact Sub.nil _ _ _ (StSub.refl _) rfl)
  obtain ⟨i,hi,hI⟩:=i
  dsimp only
  by_cases hend:c.parts.length≤i
  · have e:=uG (ok:=dL) (bh:=fun p q=>cZ p.dot q.dot) fun j h=>hI j (by omega) h
    (try (apply wO pk;exact rfl));(repeat' (first|(show All _;constructor)|(show Imp _ _;constructor)|(show ImpX _ _ _ _;constructor)|(apply wC pk;(iterate 2 exact rfl))|(refine aA rfl (fun h=> ?_) (fun h=> ?_)<;>(try simp at h)<;>try (exfalso;omega))|(refine aB ?_;refine ⟨_,_,_,rfl,Wk.refl _,StSub.refl _, ?_,rfl⟩;try first|rfl|((rw [e,Bool.and_true,←hkv]);done))))
  have h1:i<c.parts.length:=by omega
  have hF:=aaO (ok:=dL) (bh:=fun p q=>cZ p.dot q.dot) h1
  have hS:(dL c.parts[i]&&(decide (i=0)||cZ c.parts[i].dot (c.parts[i-1]'(by omega)).dot))=true→∀j (h:j<i+1) (h1:j<c.parts.length),(dL c.parts[j]&&(decide (j=0)||cZ c.parts[j].dot (c.parts[j-1]'(by omega)).dot))=true:=fun h j hj h1=>by
    rcases Nat.lt_succ_iff_lt_or_eq.1 hj with q|q
    · exact hI j q h1
    · subst q;exact h
  have hv:=iF c.parts[i].val
  by_cases h0:i=0
  · subst h0
    have hF':¬(dL c.parts[0]=true)→qB dL (fun p q=>cZ p.dot q.dot) c.parts=false:=fun h=>hF (by rw [←Bool.not_eq_true];intro q;rw [Bool.and_eq_true] at q;exact h q.1)
    simp only [dL,fK,eN,Dt.ext_iff,Dt.zero,Bool.and_eq_true,decide_eq_true_eq] at hF'
    (try (apply wO pk;exact rfl));(repeat' (first|(show All _;constructor)|(show Imp _ _;constructor)|(show ImpX _ _ _ _;constructor)|(apply wC pk;(iterate 2 exact rfl))|(apply wE pk;(iterate 2 exact rfl))|(apply wD pk [] [];kernel_rfl;exact rfl;exact rfl)|(refine aA rfl (fun h=> ?_) (fun h=> ?_)<;>(try simp at h)<;>try (exfalso;omega))|(refine aB ?_;refine ⟨_,_,_,rfl,Wk.refl _,StSub.refl _, ?_,rfl⟩;try first|rfl|((first|(rw [hF' (by grind),Bool.and_false];done)|(exact absurd (by assumption:c.parts=[]) (List.ne_nil_of_length_pos h1)));done))|(apply aI;(iterate 3 exact rfl);(intro _;(first|apply hv|apply (show PF Tryz.prog 158 [.agg c.parts[0].dot.cells,_] (PV.val (Value.bool (false))) from by rename_i hh;exact (hJ hh).elim))<;>first|assumption|omega);rotate_left;(iterate 2 exact rfl))|(apply aM pk;(iterate 6 exact rfl);rotate_left;exact rfl;(first|((intro hw;exact (show _=((0:Nat):Int) from by exact (hJ hw).elim));(intro hw;apply aF<;>omega);(intro _;exact rfl))|((intro hw;exact rfl);(intro hw;apply aF<;>omega);(intro _;exact rfl)));exact rfl)|(refine ⟨⟨1,by omega,hS (by simp [dL,fK,eN,Dt.ext_iff,Dt.zero];grind)⟩, ?_,by simp only;omega⟩;((repeat (first|refine Sub.pv ?_ rfl|refine Sub.var ?_ rfl rfl));exact Sub.nil _ _ _ (StSub.refl _) rfl))|(intros;(try simp only [zql]);omega)))
  obtain ⟨k,rfl⟩:∃k,i=k+1:=⟨i-1,by omega⟩
  have hd:=kR c.parts[k+1].dot c.parts[k].dot
  have hF':¬(dL c.parts[k+1]=true∧cZ c.parts[k+1].dot c.parts[k].dot=true)→qB dL (fun p q=>cZ p.dot q.dot) c.parts=false:=fun h=>hF (by rw [←Bool.not_eq_true];intro q;rw [Bool.and_eq_true] at q;exact h ⟨q.1,by have q2:=q.2;simp at q2;grind⟩)
  simp only [dL,fK,eN,Dt.ext_iff,Dt.zero,Bool.and_eq_true,decide_eq_true_eq] at hF'
  (try (apply wO pk;exact rfl));(repeat' (first|(show All _;constructor)|(show Imp _ _;constructor)|(show ImpX _ _ _ _;constructor)|(apply wC pk;(iterate 2 exact rfl))|(apply wE pk;(iterate 2 exact rfl))|(apply wD pk [] [];kernel_rfl;exact rfl;exact rfl)|(refine aA rfl (fun h=> ?_) (fun h=> ?_)<;>(try simp at h)<;>try (exfalso;omega))|(refine aB ?_;refine ⟨_,_,_,rfl,Wk.refl _,StSub.refl _, ?_,rfl⟩;try first|rfl|((rw [hF' (by grind),Bool.and_false]);done))|(apply aI;(iterate 3 exact rfl);(intro _;(first|apply hv|apply hd)<;>first|assumption|omega);rotate_left;(iterate 2 exact rfl))|(apply aM pk;(iterate 6 exact rfl);rotate_left;exact rfl;(first|((intro hw;exact (show ((((k+1:Nat):Int))-1=((k:Nat):Int)) from by omega));(intro hw;apply aF<;>omega);(intro _;exact rfl))|((intro hw;exact rfl);(intro hw;apply aF<;>omega);(intro _;exact rfl)));exact rfl)|(refine ⟨⟨k+2,by omega,hS (by simp [dL,fK,eN,Dt.ext_iff,Dt.zero];grind)⟩, ?_,by simp only;omega⟩;((repeat (first|refine Sub.pv ?_ rfl|refine Sub.var ?_ rfl rfl));exact Sub.nil _ _ _ (StSub.refl _) rfl))|(intros;(try simp only [zql]);omega)))
theorem acE (c:Cl) (hl:c.parts.length<4611686018427387904):PF Tryz.prog 135 [.agg c.cells] (PV.val (Value.bool (pB c))):=by
  unfold pB
  by_cases hk:¬(c.kind=3∧c.val=Vl.zero)
  · rw [decide_eq_false hk,Bool.false_and]
    rw [Vl.ext_iff] at hk
    simp only [Vl.zero] at hk
    refine aH aD Tryz.func135 (by kernel_rfl) rfl rfl rfl rfl (fun st=> ?_)
    (try (apply wO pk;exact rfl));(repeat' (first|((exfalso;grind))|(show All _;constructor)|(show Imp _ _;constructor)|(show ImpX _ _ _ _;constructor)|(apply wC pk;(iterate 2 exact rfl))|(refine aA rfl (fun h=> ?_) (fun h=> ?_)<;>(try simp at h)<;>try (exfalso;omega))|(refine aB ?_;refine ⟨_,_,_,rfl,Wk.refl _,StSub.refl _, ?_,rfl⟩;try first|rfl|((exfalso;grind);done))))
  replace hk:=Decidable.of_not_not hk
  rw [decide_eq_true hk,Bool.true_and]
  obtain ⟨k1,k2⟩:=hk
  rw [Vl.ext_iff] at k2
  obtain ⟨k2,k3,k4⟩:=k2
  simp only [Vl.zero] at k2 k3 k4
  refine aH aD Tryz.func135 (by kernel_rfl) rfl rfl rfl rfl (fun st=> ?_)
  (try (apply wO pk;exact rfl));(repeat' (first|(show All _;constructor)|(show Imp _ _;constructor)|(show ImpX _ _ _ _;constructor)|(apply wC pk;(iterate 2 exact rfl))|(refine aA rfl (fun h=> ?_) (fun h=> ?_)<;>(try simp at h)<;>try (exfalso;omega))|(refine aB ?_;refine ⟨_,_,_,rfl,Wk.refl _,StSub.refl _, ?_,rfl⟩;try first|rfl|((exfalso;grind);done))))
  refine aJ (X:={x:Nat//x≤c.parts.length∧∀j (h:j<x) (h1:j<c.parts.length),(dW c.parts[j]&&(decide (j=0)||jR c.parts[j] (c.parts[j-1]'(by omega))))=true}) (fun i=>(((((St.nil 85 st).var 1 112 (c.cells)).pv 16 (.seq (c.parts.map Pt.cells))).pv 17 ((PV.val (Value.int .i64 (((c.parts.map Pt.cells).length:Nat)))))).pv 18 ((PV.val (Value.int .i64 ((i.1:Nat))))))) (fun i=>c.parts.length-i.1) ⟨0,by omega,fun _ h=>absurd h (Nat.not_lt_zero _)⟩ ?_ (fun i=> ?_)
  · ((repeat (first|refine Sub.pv ?_ rfl|refine Sub.var ?_ rfl rfl));exact Sub.nil _ _ _ (StSub.refl _) rfl)
  obtain ⟨i,hi,hI⟩:=i
  dsimp only
  by_cases hend:c.parts.length≤i
  · have e:=uG (ok:=dW) (bh:=jR) fun j h=>hI j (by omega) h
    (try (apply wO pk;exact rfl));(repeat' (first|(show All _;constructor)|(apply wC pk;(iterate 2 exact rfl))|(refine aA rfl (fun h=> ?_) (fun h=> ?_)<;>(try simp at h)<;>try (exfalso;omega))|(refine aB ?_;refine ⟨_,_,_,rfl,Wk.refl _,StSub.refl _, ?_,rfl⟩;try first|rfl|((rw [e]);done))))
  have h1:i<c.parts.length:=by omega
  have hF:=aaO (ok:=dW) (bh:=jR) h1
  have hS:(dW c.parts[i]&&(decide (i=0)||jR c.parts[i] (c.parts[i-1]'(by omega))))=true→∀j (h:j<i+1) (h1:j<c.parts.length),(dW c.parts[j]&&(decide (j=0)||jR c.parts[j] (c.parts[j-1]'(by omega))))=true:=fun h j hj h1=>by
    rcases Nat.lt_succ_iff_lt_or_eq.1 hj with q|q
    · exact hI j q h1
    · subst q;exact h
  have hv:=jQ c.parts[i].val
  by_cases h0:i=0
  · subst h0
    have hof:=xQ c.parts[0]
    have hF':¬(dW c.parts[0]=true)→qB dW (jR) c.parts=false:=fun h=>hF (by rw [←Bool.not_eq_true];intro q;rw [Bool.and_eq_true] at q;exact h q.1)
    simp only [dW,fK,eN,Dt.ext_iff,Dt.zero,Bool.and_eq_true,decide_eq_true_eq] at hF'
    (try (apply wO pk;exact rfl));(repeat' (first|(show All _;constructor)|(show Imp _ _;constructor)|(show ImpX _ _ _ _;constructor)|(apply wC pk;(iterate 2 exact rfl))|(apply wE pk;(iterate 2 exact rfl))|(apply wD pk [] [];kernel_rfl;exact rfl;exact rfl)|(refine aA rfl (fun h=> ?_) (fun h=> ?_)<;>(try simp at h)<;>try (exfalso;omega))|(refine aB ?_;refine ⟨_,_,_,rfl,Wk.refl _,StSub.refl _, ?_,rfl⟩;try first|rfl|((first|(rw [hF' (by grind)];done)|(exact absurd (by assumption:c.parts=[]) (List.ne_nil_of_length_pos h1)));done))|(apply aI;(iterate 3 exact rfl);(intro _;(first|apply hv|apply hof|apply (show PF Tryz.prog 178 [_,_] (PV.val (Value.int .i64 (0))) from by rename_i hh;exact (hJ hh).elim))<;>first|assumption|omega);rotate_left;(iterate 2 exact rfl))|(apply aM pk;(iterate 6 exact rfl);rotate_left;exact rfl;(first|((intro hw;exact (show _=((0:Nat):Int) from by exact (hJ hw).elim));(intro hw;apply aF<;>omega);(intro _;exact rfl))|((intro hw;exact rfl);(intro hw;apply aF<;>omega);(intro _;exact rfl)));exact rfl)|(refine ⟨⟨1,by omega,hS (by simp [dW,fK,eN,Dt.ext_iff,Dt.zero];grind)⟩, ?_,by simp only;omega⟩;((repeat (first|refine Sub.pv ?_ rfl|refine Sub.var ?_ rfl rfl));exact Sub.nil _ _ _ (StSub.refl _) rfl))|(intros;(try simp only [zql]);omega)))
  obtain ⟨k,rfl⟩:∃k,i=k+1:=⟨i-1,by omega⟩
  have hd1:=xQ c.parts[k]
  have hd2:=xQ c.parts[k+1]
  have hd:=auP c.parts[k] c.parts[k+1]
  have hb:ahI c.parts[k] c.parts[k+1]≥0↔jR c.parts[k+1] c.parts[k]=false:=by have:=azC c.parts[k] c.parts[k+1];cases h:jR c.parts[k+1] c.parts[k]<;>simp [h] at this⊢ <;>omega
  have hF':¬(dW c.parts[k+1]=true∧ahI c.parts[k] c.parts[k+1]<0)→qB dW (jR) c.parts=false:=fun h=>hF (by rw [←Bool.not_eq_true];intro q;rw [Bool.and_eq_true] at q;exact h ⟨q.1,by have q2:=q.2;simp at q2;grind⟩)
  simp only [dW,fK,eN,Dt.ext_iff,Dt.zero,Bool.and_eq_true,decide_eq_true_eq] at hF'
  (try (apply wO pk;exact rfl));(repeat' (first|(show All _;constructor)|(show Imp _ _;constructor)|(show ImpX _ _ _ _;constructor)|(apply wC pk;(iterate 2 exact rfl))|(apply wE pk;(iterate 2 exact rfl))|(apply wD pk [] [];kernel_rfl;exact rfl;exact rfl)|(refine aA rfl (fun h=> ?_) (fun h=> ?_)<;>(try simp at h)<;>try (exfalso;omega))|(refine aB ?_;refine ⟨_,_,_,rfl,Wk.refl _,StSub.refl _, ?_,rfl⟩;try first|rfl|((rw [hF' (by grind)]);done))|(apply aI;(iterate 3 exact rfl);(intro _;(first|apply hv|apply hd1|apply hd2|apply hd)<;>first|assumption|omega);rotate_left;(iterate 2 exact rfl))|(apply aM pk;(iterate 6 exact rfl);rotate_left;exact rfl;(first|((intro hw;exact (show ((((k+1:Nat):Int))-1=((k:Nat):Int)) from by omega));(intro hw;apply aF<;>omega);(intro _;exact rfl))|((intro hw;exact rfl);(intro hw;apply aF<;>omega);(intro _;exact rfl)));exact rfl)|(refine ⟨⟨k+2,by omega,hS (by simp [dW,fK,eN,Dt.ext_iff,Dt.zero];grind)⟩, ?_,by simp only;omega⟩;((repeat (first|refine Sub.pv ?_ rfl|refine Sub.var ?_ rfl rfl));exact Sub.nil _ _ _ (StSub.refl _) rfl))|(intros;(try simp only [zql]);omega)))
theorem aaE (c:Cl) (hl:c.parts.length<4611686018427387904):PF Tryz.prog 156 [.agg c.cells] (PV.val (Value.bool (pB c))):=by
  unfold pB
  have hkv:(decide (c.kind=3)&&(decide (c.val.kind=0)&&(decide (c.val.n=0)&&decide (c.val.s=e0))))=decide (c.kind=3∧c.val=Vl.zero):=by rw [Bool.eq_iff_iff];simp [Vl.ext_iff,Vl.zero]
  refine aH aD Tryz.func156 (by kernel_rfl) rfl rfl rfl rfl (fun st=> ?_)
  (try (apply wO pk;exact rfl));(repeat' ((show All _;constructor)))
  refine aJ (X:={x:Nat//x≤c.parts.length∧∀j (h:j<x) (h1:j<c.parts.length),(dW c.parts[j]&&(decide (j=0)||jR c.parts[j] (c.parts[j-1]'(by omega))))=true}) (fun i=>(((St.nil 80 st).var 1 112 (c.cells)).pv 3 ((PV.val (Value.int .i64 ((i.1:Nat))))))) (fun i=>c.parts.length-i.1) ⟨0,by omega,fun _ h=>absurd h (Nat.not_lt_zero _)⟩ ?_ (fun i=> ?_)
  · ((repeat (first|refine Sub.pv ?_ rfl|refine Sub.var ?_ rfl rfl));exact Sub.nil _ _ _ (StSub.refl _) rfl)
  obtain ⟨i,hi,hI⟩:=i
  dsimp only
  by_cases hend:c.parts.length≤i
  · have e:=uG (ok:=dW) (bh:=jR) fun j h=>hI j (by omega) h
    (try (apply wO pk;exact rfl));(repeat' (first|(show All _;constructor)|(show Imp _ _;constructor)|(show ImpX _ _ _ _;constructor)|(apply wC pk;(iterate 2 exact rfl))|(refine aA rfl (fun h=> ?_) (fun h=> ?_)<;>(try simp at h)<;>try (exfalso;omega))|(refine aB ?_;refine ⟨_,_,_,rfl,Wk.refl _,StSub.refl _, ?_,rfl⟩;try first|rfl|((rw [e,Bool.and_true,←hkv]);done))))
  have h1:i<c.parts.length:=by omega
  have hF:=aaO (ok:=dW) (bh:=jR) h1
  have hS:(dW c.parts[i]&&(decide (i=0)||jR c.parts[i] (c.parts[i-1]'(by omega))))=true→∀j (h:j<i+1) (h1:j<c.parts.length),(dW c.parts[j]&&(decide (j=0)||jR c.parts[j] (c.parts[j-1]'(by omega))))=true:=fun h j hj h1=>by
    rcases Nat.lt_succ_iff_lt_or_eq.1 hj with q|q
    · exact hI j q h1
    · subst q;exact h
  have hv:=iF c.parts[i].val
  by_cases h0:i=0
  · subst h0
    have hF':¬(dW c.parts[0]=true)→qB dW (jR) c.parts=false:=fun h=>hF (by rw [←Bool.not_eq_true];intro q;rw [Bool.and_eq_true] at q;exact h q.1)
    simp only [dW,fK,eN,Dt.ext_iff,Dt.zero,Bool.and_eq_true,decide_eq_true_eq] at hF'
    (try (apply wO pk;exact rfl));(repeat' (first|(show All _;constructor)|(show Imp _ _;constructor)|(show ImpX _ _ _ _;constructor)|(apply wC pk;(iterate 2 exact rfl))|(apply wE pk;(iterate 2 exact rfl))|(apply wD pk [] [];kernel_rfl;exact rfl;exact rfl)|(refine aA rfl (fun h=> ?_) (fun h=> ?_)<;>(try simp at h)<;>try (exfalso;omega))|(refine aB ?_;refine ⟨_,_,_,rfl,Wk.refl _,StSub.refl _, ?_,rfl⟩;try first|rfl|((first|(rw [hF' (by grind),Bool.and_false];done)|(exact absurd (by assumption:c.parts=[]) (List.ne_nil_of_length_pos h1)));done))|(apply aI;(iterate 3 exact rfl);(intro _;(first|apply hv|apply (show PF Tryz.prog 206 [.agg c.parts[0].cells,_] (PV.val (Value.bool (false))) from by rename_i hh;exact (hJ hh).elim))<;>first|assumption|omega);rotate_left;(iterate 2 exact rfl))|(apply aM pk;(iterate 6 exact rfl);rotate_left;exact rfl;(first|((intro hw;exact (show _=((0:Nat):Int) from by exact (hJ hw).elim));(intro hw;apply aF<;>omega);(intro _;exact rfl))|((intro hw;exact rfl);(intro hw;apply aF<;>omega);(intro _;exact rfl)));exact rfl)|(refine ⟨⟨1,by omega,hS (by simp [dW,fK,eN,Dt.ext_iff,Dt.zero];grind)⟩, ?_,by simp only;omega⟩;((repeat (first|refine Sub.pv ?_ rfl|refine Sub.var ?_ rfl rfl));exact Sub.nil _ _ _ (StSub.refl _) rfl))|(intros;(try simp only [zql]);omega)))
  obtain ⟨k,rfl⟩:∃k,i=k+1:=⟨i-1,by omega⟩
  have hd:=atK c.parts[k+1] c.parts[k]
  have hF':¬(dW c.parts[k+1]=true∧jR c.parts[k+1] c.parts[k]=true)→qB dW (jR) c.parts=false:=fun h=>hF (by rw [←Bool.not_eq_true];intro q;rw [Bool.and_eq_true] at q;exact h ⟨q.1,by have q2:=q.2;simp at q2;grind⟩)
  simp only [dW,fK,eN,Dt.ext_iff,Dt.zero,Bool.and_eq_true,decide_eq_true_eq] at hF'
  (try (apply wO pk;exact rfl));(repeat' (first|(show All _;constructor)|(show Imp _ _;constructor)|(show ImpX _ _ _ _;constructor)|(apply wC pk;(iterate 2 exact rfl))|(apply wE pk;(iterate 2 exact rfl))|(apply wD pk [] [];kernel_rfl;exact rfl;exact rfl)|(refine aA rfl (fun h=> ?_) (fun h=> ?_)<;>(try simp at h)<;>try (exfalso;omega))|(refine aB ?_;refine ⟨_,_,_,rfl,Wk.refl _,StSub.refl _, ?_,rfl⟩;try first|rfl|((rw [hF' (by grind),Bool.and_false]);done))|(apply aI;(iterate 3 exact rfl);(intro _;(first|apply hv|apply hd)<;>first|assumption|omega);rotate_left;(iterate 2 exact rfl))|(apply aM pk;(iterate 6 exact rfl);rotate_left;exact rfl;(first|((intro hw;exact (show ((((k+1:Nat):Int))-1=((k:Nat):Int)) from by omega));(intro hw;apply aF<;>omega);(intro _;exact rfl))|((intro hw;exact rfl);(intro hw;apply aF<;>omega);(intro _;exact rfl)));exact rfl)|(refine ⟨⟨k+2,by omega,hS (by simp [dW,fK,eN,Dt.ext_iff,Dt.zero];grind)⟩, ?_,by simp only;omega⟩;((repeat (first|refine Sub.pv ?_ rfl|refine Sub.var ?_ rfl rfl));exact Sub.nil _ _ _ (StSub.refl _) rfl))|(intros;(try simp only [zql]);omega)))
end Go.Proofs.YtcglimangneafaaGreatDoor
