import Derived.Test.YtddmbnddgiebgaaGreatDoorBsFn
set_option linter.unusedSimpArgs false
set_option linter.unusedVariables false
namespace Go.Proofs.YtddmbnddgiebgaaGreatDoor
open Go Go.Abs
attribute [local irreducible] Ev PWp
set_option maxRecDepth 10000
set_option maxHeartbeats 2000000
def pE (v:Vl):Bool:=if v.kind=0 then decide (v.n=0)&&decide (v.s=e0) else if v.kind=1 then (decide (v.s=e0)&&decide (v.n≥ -1099511627776))&&decide (v.n≤1099511627776) else if v.kind=2 then decide (v.n=0)&&decide ((v.s.size:Int)≤200) else false
theorem lF (v:Vl):PF Tryz.prog 103 [.agg v.cells] (PV.val (Value.bool (pE v))):=by
  unfold pE
  by_cases h0:v.kind=0
  · rw [if_pos h0]
    refine aL aH Tryz.func103 (by kernel_rfl) rfl rfl rfl rfl (fun st=> ?_)
    (try (apply wO pk;exact rfl));(repeat' (first|(show All _;constructor)|(show Imp _ _;constructor)|(show ImpX _ _ _ _;constructor)|(apply wC pk;(iterate 2 exact rfl))|(apply wE pk;(iterate 2 exact rfl))|(apply wX pk;exact rfl)|(apply wN pk;exact rfl)|(apply wD pk [] [];kernel_rfl;exact rfl;exact rfl)|(apply aC;simp only [zqt,zqf])|(refine aD rfl (fun h=> ?_) (fun h=> ?_)<;>(try simp at h)<;>try (exfalso;omega))|(refine aF ?_;refine ⟨_,_,_,rfl,Wk.refl _,StSub.refl _, ?_,rfl⟩;try first|rfl|((first|(simp [h0];done)|(exfalso;omega));done))|(intros;(try simp only [zql]);omega)))
  by_cases h1:v.kind=1
  · rw [if_neg h0,if_pos h1]
    refine aL aH Tryz.func103 (by kernel_rfl) rfl rfl rfl rfl (fun st=> ?_)
    (try (apply wO pk;exact rfl));(repeat' (first|(show All _;constructor)|(show Imp _ _;constructor)|(show ImpX _ _ _ _;constructor)|(apply wC pk;(iterate 2 exact rfl))|(apply wE pk;(iterate 2 exact rfl))|(apply wX pk;exact rfl)|(apply wN pk;exact rfl)|(apply wD pk [] [];kernel_rfl;exact rfl;exact rfl)|(apply aC;simp only [zqt,zqf])|(refine aD rfl (fun h=> ?_) (fun h=> ?_)<;>(try simp at h)<;>try (exfalso;omega))|(refine aF ?_;refine ⟨_,_,_,rfl,Wk.refl _,StSub.refl _, ?_,rfl⟩;try first|rfl|((first|(simp;done)|(exfalso;omega));done))|(intros;(try simp only [zql]);omega)))
  rw [if_neg h0,if_neg h1]
  by_cases h2:v.kind=2
  · rw [if_pos h2]
    refine aL aH Tryz.func103 (by kernel_rfl) rfl rfl rfl rfl (fun st=> ?_)
    (try (apply wO pk;exact rfl));(repeat' (first|(show All _;constructor)|(show Imp _ _;constructor)|(show ImpX _ _ _ _;constructor)|(apply wC pk;(iterate 2 exact rfl))|(apply wE pk;(iterate 2 exact rfl))|(apply wX pk;exact rfl)|(apply wN pk;exact rfl)|(apply wD pk [] [];kernel_rfl;exact rfl;exact rfl)|(apply aC;simp only [zqt,zqf])|(refine aD rfl (fun h=> ?_) (fun h=> ?_)<;>(try simp at h)<;>try (exfalso;omega))|(refine aF ?_;refine ⟨_,_,_,rfl,Wk.refl _,StSub.refl _, ?_,rfl⟩;try first|rfl|((first|(simp;done)|(exfalso;omega));done))|(intros;(try simp only [zql]);omega)))
  rw [if_neg h2]
  refine aL aH Tryz.func103 (by kernel_rfl) rfl rfl rfl rfl (fun st=> ?_)
  (try (apply wO pk;exact rfl));(repeat' (first|(show All _;constructor)|(show Imp _ _;constructor)|(show ImpX _ _ _ _;constructor)|(apply wC pk;(iterate 2 exact rfl))|(apply wE pk;(iterate 2 exact rfl))|(apply wX pk;exact rfl)|(apply wN pk;exact rfl)|(apply wD pk [] [];kernel_rfl;exact rfl;exact rfl)|(apply aC;simp only [zqt,zqf])|(refine aD rfl (fun h=> ?_) (fun h=> ?_)<;>(try simp at h)<;>try (exfalso;omega))|(refine aF ?_;refine ⟨_,_,_,rfl,Wk.refl _,StSub.refl _, ?_,rfl⟩;try first|rfl|((first|(simp;done)|(exfalso;omega));done))|(intros;(try simp only [zql]);omega)))
def wY (c:Cl):Int:=if c.kind≠2∨c.val.kind≠1 then 6 else if c.val.s≠e0∨0<c.parts.length then 1 else if c.val.n< -1099511627776∨c.val.n>1099511627776 then 20 else 0
theorem afR (n:Int):PF Tryz.prog 149 [(PV.val (Value.int .i64 (n)))] (PV.val (Value.bool (decide (n≥ -1099511627776)&&decide (n≤1099511627776)))):=by
  refine aL aH Tryz.func149 (by kernel_rfl) rfl rfl rfl rfl (fun st=> ?_)
  (try (apply wO pk;exact rfl));(repeat' (first|(show All _;constructor)|(show Imp _ _;constructor)|(show ImpX _ _ _ _;constructor)|(apply wC pk;(iterate 2 exact rfl))|(apply wE pk;(iterate 2 exact rfl))|(apply wX pk;exact rfl)|(apply wN pk;exact rfl)|(apply wD pk [] [];kernel_rfl;exact rfl;exact rfl)|(apply aC;simp only [zqt,zqf])|(refine aD rfl (fun h=> ?_) (fun h=> ?_)<;>(try simp at h)<;>try (exfalso;omega))|(refine aF ?_;refine ⟨_,_,_,rfl,Wk.refl _,StSub.refl _, ?_,rfl⟩;try rfl)|(intros;(try simp only [zql]);omega)))
theorem aaK (c:Cl):PF Tryz.prog 105 [.agg c.cells] (PV.val (Value.int .i64 (wY c))):=by
  have hf:=afR c.val.n
  unfold wY
  by_cases h1:c.kind≠2∨c.val.kind≠1
  · rw [if_pos h1]
    refine aL aH Tryz.func105 (by kernel_rfl) rfl rfl rfl rfl (fun st=> ?_)
    (try (apply wO pk;exact rfl));(repeat' (first|(show All _;constructor)|(show Imp _ _;constructor)|(show ImpX _ _ _ _;constructor)|(apply wC pk;(iterate 2 exact rfl))|(apply wE pk;(iterate 2 exact rfl))|(apply wX pk;exact rfl)|(apply wN pk;exact rfl)|(apply wD pk [] [];kernel_rfl;exact rfl;exact rfl)|(apply aC;simp only [zqt,zqf])|(refine aD rfl (fun h=> ?_) (fun h=> ?_)<;>(try simp at h)<;>try (exfalso;omega))|(refine aF ?_;refine ⟨_,_,_,rfl,Wk.refl _,StSub.refl _, ?_,rfl⟩;try first|rfl|((first|rfl|(exfalso;omega));done))|(apply aK;(iterate 3 exact rfl);(intro _;apply hf<;>first|assumption|omega);rotate_left;(iterate 2 exact rfl))|(intros;(try simp only [zql]);omega)))
  rw [if_neg h1]
  by_cases h2:c.val.s≠e0∨0<c.parts.length
  · rw [if_pos h2]
    refine aL aH Tryz.func105 (by kernel_rfl) rfl rfl rfl rfl (fun st=> ?_)
    (try (apply wO pk;exact rfl));(repeat' (first|(show All _;constructor)|(show Imp _ _;constructor)|(show ImpX _ _ _ _;constructor)|(apply wC pk;(iterate 2 exact rfl))|(apply wE pk;(iterate 2 exact rfl))|(apply wX pk;exact rfl)|(apply wN pk;exact rfl)|(apply wD pk [] [];kernel_rfl;exact rfl;exact rfl)|(apply aC;simp only [zqt,zqf])|(refine aD rfl (fun h=> ?_) (fun h=> ?_)<;>(try simp at h)<;>try (exfalso;omega))|(refine aF ?_;refine ⟨_,_,_,rfl,Wk.refl _,StSub.refl _, ?_,rfl⟩;try first|rfl|((first|rfl|(exfalso;omega)|(exfalso;simp at*;grind));done))|(apply aK;(iterate 3 exact rfl);(intro _;apply hf<;>first|assumption|omega);rotate_left;(iterate 2 exact rfl))|(intros;(try simp only [zql]);omega)))
  rw [if_neg h2]
  by_cases h3:c.val.n< -1099511627776∨c.val.n>1099511627776
  · rw [if_pos h3]
    refine aL aH Tryz.func105 (by kernel_rfl) rfl rfl rfl rfl (fun st=> ?_)
    (try (apply wO pk;exact rfl));(repeat' (first|(show All _;constructor)|(show Imp _ _;constructor)|(show ImpX _ _ _ _;constructor)|(apply wC pk;(iterate 2 exact rfl))|(apply wE pk;(iterate 2 exact rfl))|(apply wX pk;exact rfl)|(apply wN pk;exact rfl)|(apply wD pk [] [];kernel_rfl;exact rfl;exact rfl)|(apply aC;simp only [zqt,zqf])|(refine aD rfl (fun h=> ?_) (fun h=> ?_)<;>(try simp at h)<;>try (exfalso;omega))|(refine aF ?_;refine ⟨_,_,_,rfl,Wk.refl _,StSub.refl _, ?_,rfl⟩;try first|rfl|((first|rfl|(exfalso;omega)|(exfalso;simp at*;grind));done))|(apply aK;(iterate 3 exact rfl);(intro _;apply hf<;>first|assumption|omega);rotate_left;(iterate 2 exact rfl))|(intros;(try simp only [zql]);omega)))
  rw [if_neg h3]
  refine aL aH Tryz.func105 (by kernel_rfl) rfl rfl rfl rfl (fun st=> ?_)
  (try (apply wO pk;exact rfl));(repeat' (first|(show All _;constructor)|(show Imp _ _;constructor)|(show ImpX _ _ _ _;constructor)|(apply wC pk;(iterate 2 exact rfl))|(apply wE pk;(iterate 2 exact rfl))|(apply wX pk;exact rfl)|(apply wN pk;exact rfl)|(apply wD pk [] [];kernel_rfl;exact rfl;exact rfl)|(apply aC;simp only [zqt,zqf])|(refine aD rfl (fun h=> ?_) (fun h=> ?_)<;>(try simp at h)<;>try (exfalso;omega))|(refine aF ?_;refine ⟨_,_,_,rfl,Wk.refl _,StSub.refl _, ?_,rfl⟩;try first|rfl|((first|rfl|(exfalso;omega)|(exfalso;simp at*;grind));done))|(apply aK;(iterate 3 exact rfl);(intro _;apply hf<;>first|assumption|omega);rotate_left;(iterate 2 exact rfl))|(intros;(try simp only [zql]);omega)))
end Go.Proofs.YtddmbnddgiebgaaGreatDoor
namespace Go.Proofs.YtddmbnddgiebgaaGreatDoor
open Go Go.Abs
attribute [local irreducible] Ev PWp
set_option maxRecDepth 10000
set_option maxHeartbeats 4000000
theorem ahO (a b:Dt):PF Tryz.prog 148 [.agg a.cells, .agg b.cells] (PV.val (Value.int .i64 (byD a b))):=by
  have ho:=rH [eW a.dev b.dev,eW a.seq b.seq] (by simp)
  refine aL aH Tryz.func148 (by kernel_rfl) rfl rfl rfl rfl (fun st=> ?_)
  (try (apply wO pk;exact rfl));(repeat' (first|(show All _;constructor)|(show Imp _ _;constructor)|(show ImpX _ _ _ _;constructor)|(apply wC pk;(iterate 2 exact rfl))|(apply wE pk;(iterate 2 exact rfl))|(apply wX pk;exact rfl)|(apply wN pk;exact rfl)|(apply wD pk [] [];kernel_rfl;exact rfl;exact rfl)|(apply aC;simp only [zqt,zqf])|(refine aD rfl (fun h=> ?_) (fun h=> ?_)<;>(try simp at h)<;>try (exfalso;omega))|(refine aF ?_;refine ⟨_,_,_,rfl,Wk.refl _,StSub.refl _, ?_,rfl⟩;try rfl)|(apply aK;(iterate 3 exact rfl);(intro _;(first|apply (eU a.dev b.dev)|apply (eU a.seq b.seq)|apply ho)<;>first|assumption|omega);rotate_left;(iterate 2 exact rfl))|(intros;(try simp only [zql]);omega)))
theorem aeH (a b:Dt):decide (byD a b≥0)= !bQ b a:=by
  unfold byD bQ eW
  simp only [orI]
  rw [Bool.eq_iff_iff]
  simp only [decide_eq_true_eq,Bool.not_eq_true',Bool.or_eq_false_iff,Bool.and_eq_false_iff,decide_eq_false_iff_not]
  grind
def kR (p:Pt):Prop:=p.at_=0∧p.time=0∧p.after=Dt.zero∧p.afterAt=0∧p.gone=false
instance (p :Pt):Decidable (kR p):=by unfold kR;infer_instance
def eY (d:Dt):Bool:=((decide (1≤d.dev)&&decide (d.dev≤64))&&decide (1≤d.seq))&&decide (d.seq≤1048576)
def iC (p:Pt):Bool:=(decide (kR p)&&pE p.val)&&eY p.dot
def iM (p:Pt):Bool:=(decide (kR p)&&(decide (p.val.kind=1)&&pE p.val))&&eY p.dot
def uJ (ok:Pt→Bool) (bh:Pt→Pt→Bool) (l:List Pt):Bool:=(List.range l.length).all fun j=>ok l[j]! &&(decide (j=0)||bh l[j]! l[j-1]!)
theorem akR {ok:Pt→Bool} {bh:Pt→Pt→Bool} {l:List Pt} {j:Nat} (h:j<l.length) (hf:(ok l[j]&&(decide (j=0)||bh l[j] (l[j-1]'(by omega))))=false):uJ ok bh l=false:=by
  unfold uJ
  rw [←Bool.not_eq_true,List.all_eq_true]
  intro q
  have:=q j (List.mem_range.2 h)
  rw [getElem!_pos l j h,getElem!_pos l (j-1) (by omega),hf] at this
  cases this
theorem aeZ {ok:Pt→Bool} {bh:Pt→Pt→Bool} {l:List Pt} (hf:∀j (h:j<l.length),(ok l[j]&&(decide (j=0)||bh l[j] (l[j-1]'(by omega))))=true):uJ ok bh l=true:=by
  unfold uJ
  rw [List.all_eq_true]
  intro j hj
  have h:=List.mem_range.1 hj
  rw [getElem!_pos l j h,getElem!_pos l (j-1) (by omega)]
  exact hf j h
def wH (c:Cl):Bool:=decide (c.kind=1∧c.val=Vl.zero)&&uJ iC (fun p q=>bQ p.dot q.dot) c.parts
def adS (p:Pt):List PV:=[(PV.val (Value.int .i64 (p.val.n))),(PV.val (Value.int .i64 (p.dot.dev))),(PV.val (Value.int .i64 (p.dot.seq)))]
theorem tW (p:Pt):PF Tryz.prog 150 [.agg p.cells] (.agg (adS p)):=by
  refine aL aH Tryz.func150 (by kernel_rfl) rfl rfl rfl rfl (fun st=> ?_)
  (try (apply wO pk;exact rfl));(repeat' (first|(show All _;constructor)|(show Imp _ _;constructor)|(show ImpX _ _ _ _;constructor)|(apply wC pk;(iterate 2 exact rfl))|(apply wE pk;(iterate 2 exact rfl))|(apply wX pk;exact rfl)|(apply wN pk;exact rfl)|(apply wD pk [] [];kernel_rfl;exact rfl;exact rfl)|(apply aC;simp only [zqt,zqf])|(refine aD rfl (fun h=> ?_) (fun h=> ?_)<;>(try simp at h)<;>try (exfalso;omega))|(refine aF ?_;refine ⟨_,_,_,rfl,Wk.refl _,StSub.refl _, ?_,rfl⟩;try rfl)|(intros;(try simp only [zql]);omega)))
def ahI (p q:Pt):Int:=orI [eW p.val.n q.val.n,eW p.dot.dev q.dot.dev,eW p.dot.seq q.dot.seq]
theorem aoA (p q:Pt):PF Tryz.prog 151 [.agg (adS p), .agg (adS q)] (PV.val (Value.int .i64 (ahI p q))):=by
  have ho:=rH [eW p.val.n q.val.n,eW p.dot.dev q.dot.dev,eW p.dot.seq q.dot.seq] (by simp)
  refine aL aH Tryz.func151 (by kernel_rfl) rfl rfl rfl rfl (fun st=> ?_)
  (try (apply wO pk;exact rfl));(repeat' (first|(show All _;constructor)|(show Imp _ _;constructor)|(show ImpX _ _ _ _;constructor)|(apply wC pk;(iterate 2 exact rfl))|(apply wE pk;(iterate 2 exact rfl))|(apply wX pk;exact rfl)|(apply wN pk;exact rfl)|(apply wD pk [] [];kernel_rfl;exact rfl;exact rfl)|(apply aC;simp only [zqt,zqf])|(refine aD rfl (fun h=> ?_) (fun h=> ?_)<;>(try simp at h)<;>try (exfalso;omega))|(refine aF ?_;refine ⟨_,_,_,rfl,Wk.refl _,StSub.refl _, ?_,rfl⟩;try rfl)|(apply aK;(iterate 3 exact rfl);(intro _;(first|apply (eU p.val.n q.val.n)|apply (eU p.dot.dev q.dot.dev)|apply (eU p.dot.seq q.dot.seq)|apply ho)<;>first|assumption|omega);rotate_left;(iterate 2 exact rfl))|(intros;(try simp only [zql]);omega)))
def qZ (p q:Pt):Bool:=decide (p.val.n>q.val.n)||(decide (p.val.n=q.val.n)&&bQ p.dot q.dot)
theorem asW (p q:Pt):decide (ahI p q≥0)= !qZ q p:=by
  unfold ahI qZ bQ eW
  simp only [orI]
  rw [Bool.eq_iff_iff]
  simp only [decide_eq_true_eq,Bool.not_eq_true',Bool.or_eq_false_iff,Bool.and_eq_false_iff,decide_eq_false_iff_not]
  grind
def xA (c:Cl):Bool:=decide (c.kind=3∧c.val=Vl.zero)&&uJ iM qZ c.parts
theorem oJ {x:Bool} (h:gw x (decide (((0:Nat):Int)>0)) true=true):False:=by
  cases x<;>simp [gw] at h
theorem yZ (c:Cl) (hl:c.parts.length<4611686018427387904):PF Tryz.prog 104 [.agg c.cells] (PV.val (Value.bool (wH c))):=by
  unfold wH
  by_cases hk:¬(c.kind=1∧c.val=Vl.zero)
  · rw [decide_eq_false hk,Bool.false_and]
    rw [Vl.ext_iff] at hk
    simp only [Vl.zero] at hk
    refine aL aH Tryz.func104 (by kernel_rfl) rfl rfl rfl rfl (fun st=> ?_)
    (try (apply wO pk;exact rfl));(repeat' (first|((exfalso;grind))|(show All _;constructor)|(show Imp _ _;constructor)|(show ImpX _ _ _ _;constructor)|(apply wC pk;(iterate 2 exact rfl))|(apply wE pk;(iterate 2 exact rfl))|(apply wX pk;exact rfl)|(apply wN pk;exact rfl)|(apply wD pk [] [];kernel_rfl;exact rfl;exact rfl)|(apply aC;simp only [zqt,zqf])|(refine aD rfl (fun h=> ?_) (fun h=> ?_)<;>(try simp at h)<;>try (exfalso;omega))|(refine aF ?_;refine ⟨_,_,_,rfl,Wk.refl _,StSub.refl _, ?_,rfl⟩;try first|rfl|((exfalso;grind);done))|(intros;(try simp only [zql]);omega)))
  replace hk:=Decidable.of_not_not hk
  rw [decide_eq_true hk,Bool.true_and]
  obtain ⟨k1,k2⟩:=hk
  rw [Vl.ext_iff] at k2
  obtain ⟨k2,k3,k4⟩:=k2
  simp only [Vl.zero] at k2 k3 k4
  refine aL aH Tryz.func104 (by kernel_rfl) rfl rfl rfl rfl (fun st=> ?_)
  (try (apply wO pk;exact rfl));(repeat' (first|(show All _;constructor)|(show Imp _ _;constructor)|(show ImpX _ _ _ _;constructor)|(apply wC pk;(iterate 2 exact rfl))|(apply wE pk;(iterate 2 exact rfl))|(apply wX pk;exact rfl)|(apply wN pk;exact rfl)|(apply wD pk [] [];kernel_rfl;exact rfl;exact rfl)|(apply aC;simp only [zqt,zqf])|(refine aD rfl (fun h=> ?_) (fun h=> ?_)<;>(try simp at h)<;>try (exfalso;omega))|(refine aF ?_;refine ⟨_,_,_,rfl,Wk.refl _,StSub.refl _, ?_,rfl⟩;try first|rfl|((exfalso;grind);done))|(intros;(try simp only [zql]);omega)))
  refine aP (X:={x:Nat//x≤c.parts.length∧∀j (h:j<x) (h1:j<c.parts.length),(iC c.parts[j]&&(decide (j=0)||bQ c.parts[j].dot (c.parts[j-1]'(by omega)).dot))=true}) (fun i=>(((((St.nil 79 st).var 1 75 (c.cells)).pv 16 (.seq (c.parts.map Pt.cells))).pv 17 ((PV.val (Value.int .i64 (((c.parts.map Pt.cells).length:Nat)))))).pv 18 ((PV.val (Value.int .i64 ((i.1:Nat))))))) (fun i=>c.parts.length-i.1) ⟨0,by omega,fun _ h=>absurd h (Nat.not_lt_zero _)⟩ ?_ (fun i=> ?_)
  · ((repeat (first|refine Sub.pv ?_ rfl|refine Sub.var ?_ rfl rfl));exact Sub.nil _ _ _ (StSub.refl _) rfl)
  obtain ⟨i,hi,hI⟩:=i
  dsimp only
  by_cases hend:c.parts.length≤i
  · have e:=aeZ (ok:=iC) (bh:=fun p q=>bQ p.dot q.dot) fun j h=>hI j (by omega) h
    (try (apply wO pk;exact rfl));(repeat' (first|(show All _;constructor)|(show Imp _ _;constructor)|(show ImpX _ _ _ _;constructor)|(apply wC pk;(iterate 2 exact rfl))|(apply wE pk;(iterate 2 exact rfl))|(apply wX pk;exact rfl)|(apply wN pk;exact rfl)|(apply wD pk [] [];kernel_rfl;exact rfl;exact rfl)|(apply aC;simp only [zqt,zqf])|(refine aD rfl (fun h=> ?_) (fun h=> ?_)<;>(try simp at h)<;>try (exfalso;omega))|(refine aF ?_;refine ⟨_,_,_,rfl,Wk.refl _,StSub.refl _, ?_,rfl⟩;try first|rfl|((rw [e]);done))|(intros;(try simp only [zql]);omega)))
  have h1:i<c.parts.length:=by omega
  have hF:=akR (ok:=iC) (bh:=fun p q=>bQ p.dot q.dot) h1
  have hS:(iC c.parts[i]&&(decide (i=0)||bQ c.parts[i].dot (c.parts[i-1]'(by omega)).dot))=true→∀j (h:j<i+1) (h1:j<c.parts.length),(iC c.parts[j]&&(decide (j=0)||bQ c.parts[j].dot (c.parts[j-1]'(by omega)).dot))=true:=fun h j hj h1=>by
    rcases Nat.lt_succ_iff_lt_or_eq.1 hj with q|q
    · exact hI j q h1
    · subst q;exact h
  have hv:=lF c.parts[i].val
  by_cases h0:i=0
  · subst h0
    have hF':¬(iC c.parts[0]=true)→uJ iC (fun p q=>bQ p.dot q.dot) c.parts=false:=fun h=>hF (by rw [←Bool.not_eq_true];intro q;rw [Bool.and_eq_true] at q;exact h q.1)
    simp only [iC,kR,eY,Dt.ext_iff,Dt.zero,Bool.and_eq_true,decide_eq_true_eq] at hF'
    (try (apply wO pk;exact rfl));(repeat' (first|(show All _;constructor)|(show Imp _ _;constructor)|(show ImpX _ _ _ _;constructor)|(apply wC pk;(iterate 2 exact rfl))|(apply wE pk;(iterate 2 exact rfl))|(apply wX pk;exact rfl)|(apply wN pk;exact rfl)|(apply wD pk [] [];kernel_rfl;exact rfl;exact rfl)|(apply aC;simp only [zqt,zqf])|(refine aD rfl (fun h=> ?_) (fun h=> ?_)<;>(try simp at h)<;>try (exfalso;omega))|(refine aF ?_;refine ⟨_,_,_,rfl,Wk.refl _,StSub.refl _, ?_,rfl⟩;try first|rfl|((first|(rw [hF' (by grind)];done)|(exact absurd (by assumption:c.parts=[]) (List.ne_nil_of_length_pos h1)));done))|(apply aK;(iterate 3 exact rfl);(intro _;(first|apply hv|apply (show PF Tryz.prog 148 [_, .agg c.parts[0].dot.cells] (PV.val (Value.int .i64 (0))) from by rename_i hh;exact (oJ hh).elim))<;>first|assumption|omega);rotate_left;(iterate 2 exact rfl))|(apply bC pk;(iterate 6 exact rfl);rotate_left;exact rfl;(first|((intro hw;exact (show _=((0:Nat):Int) from by exact (oJ hw).elim));(intro hw;apply aJ<;>omega);(intro _;exact rfl))|((intro hw;exact rfl);(intro hw;apply aJ<;>omega);(intro _;exact rfl)));exact rfl)|(refine ⟨⟨1,by omega,hS (by simp [iC,kR,eY,Dt.ext_iff,Dt.zero];grind)⟩, ?_,by simp only;omega⟩;((repeat (first|refine Sub.pv ?_ rfl|refine Sub.var ?_ rfl rfl));exact Sub.nil _ _ _ (StSub.refl _) rfl))|(intros;(try simp only [zql]);omega)))
  obtain ⟨k,rfl⟩:∃k,i=k+1:=⟨i-1,by omega⟩
  have hd:=ahO c.parts[k].dot c.parts[k+1].dot
  have hb:byD c.parts[k].dot c.parts[k+1].dot≥0↔bQ c.parts[k+1].dot c.parts[k].dot=false:=by have:=aeH c.parts[k].dot c.parts[k+1].dot;cases h:bQ c.parts[k+1].dot c.parts[k].dot<;>simp [h] at this⊢ <;>omega
  have hF':¬(iC c.parts[k+1]=true∧byD c.parts[k].dot c.parts[k+1].dot<0)→uJ iC (fun p q=>bQ p.dot q.dot) c.parts=false:=fun h=>hF (by rw [←Bool.not_eq_true];intro q;rw [Bool.and_eq_true] at q;exact h ⟨q.1,by have q2:=q.2;simp at q2;grind⟩)
  simp only [iC,kR,eY,Dt.ext_iff,Dt.zero,Bool.and_eq_true,decide_eq_true_eq] at hF'
  (try (apply wO pk;exact rfl));(repeat' (first|(show All _;constructor)|(show Imp _ _;constructor)|(show ImpX _ _ _ _;constructor)|(apply wC pk;(iterate 2 exact rfl))|(apply wE pk;(iterate 2 exact rfl))|(apply wX pk;exact rfl)|(apply wN pk;exact rfl)|(apply wD pk [] [];kernel_rfl;exact rfl;exact rfl)|(apply aC;simp only [zqt,zqf])|(refine aD rfl (fun h=> ?_) (fun h=> ?_)<;>(try simp at h)<;>try (exfalso;omega))|(refine aF ?_;refine ⟨_,_,_,rfl,Wk.refl _,StSub.refl _, ?_,rfl⟩;try first|rfl|((rw [hF' (by grind)]);done))|(apply aK;(iterate 3 exact rfl);(intro _;(first|apply hv|apply hd)<;>first|assumption|omega);rotate_left;(iterate 2 exact rfl))|(apply bC pk;(iterate 6 exact rfl);rotate_left;exact rfl;(first|((intro hw;exact (show ((((k+1:Nat):Int))-1=((k:Nat):Int)) from by omega));(intro hw;apply aJ<;>omega);(intro _;exact rfl))|((intro hw;exact rfl);(intro hw;apply aJ<;>omega);(intro _;exact rfl)));exact rfl)|(refine ⟨⟨k+2,by omega,hS (by simp [iC,kR,eY,Dt.ext_iff,Dt.zero];grind)⟩, ?_,by simp only;omega⟩;((repeat (first|refine Sub.pv ?_ rfl|refine Sub.var ?_ rfl rfl));exact Sub.nil _ _ _ (StSub.refl _) rfl))|(intros;(try simp only [zql]);omega)))
theorem yI (c:Cl) (hl:c.parts.length<4611686018427387904):PF Tryz.prog 106 [.agg c.cells] (PV.val (Value.bool (xA c))):=by
  unfold xA
  by_cases hk:¬(c.kind=3∧c.val=Vl.zero)
  · rw [decide_eq_false hk,Bool.false_and]
    rw [Vl.ext_iff] at hk
    simp only [Vl.zero] at hk
    refine aL aH Tryz.func106 (by kernel_rfl) rfl rfl rfl rfl (fun st=> ?_)
    (try (apply wO pk;exact rfl));(repeat' (first|((exfalso;grind))|(show All _;constructor)|(show Imp _ _;constructor)|(show ImpX _ _ _ _;constructor)|(apply wC pk;(iterate 2 exact rfl))|(apply wE pk;(iterate 2 exact rfl))|(apply wX pk;exact rfl)|(apply wN pk;exact rfl)|(apply wD pk [] [];kernel_rfl;exact rfl;exact rfl)|(apply aC;simp only [zqt,zqf])|(refine aD rfl (fun h=> ?_) (fun h=> ?_)<;>(try simp at h)<;>try (exfalso;omega))|(refine aF ?_;refine ⟨_,_,_,rfl,Wk.refl _,StSub.refl _, ?_,rfl⟩;try first|rfl|((exfalso;grind);done))|(intros;(try simp only [zql]);omega)))
  replace hk:=Decidable.of_not_not hk
  rw [decide_eq_true hk,Bool.true_and]
  obtain ⟨k1,k2⟩:=hk
  rw [Vl.ext_iff] at k2
  obtain ⟨k2,k3,k4⟩:=k2
  simp only [Vl.zero] at k2 k3 k4
  refine aL aH Tryz.func106 (by kernel_rfl) rfl rfl rfl rfl (fun st=> ?_)
  (try (apply wO pk;exact rfl));(repeat' (first|(show All _;constructor)|(show Imp _ _;constructor)|(show ImpX _ _ _ _;constructor)|(apply wC pk;(iterate 2 exact rfl))|(apply wE pk;(iterate 2 exact rfl))|(apply wX pk;exact rfl)|(apply wN pk;exact rfl)|(apply wD pk [] [];kernel_rfl;exact rfl;exact rfl)|(apply aC;simp only [zqt,zqf])|(refine aD rfl (fun h=> ?_) (fun h=> ?_)<;>(try simp at h)<;>try (exfalso;omega))|(refine aF ?_;refine ⟨_,_,_,rfl,Wk.refl _,StSub.refl _, ?_,rfl⟩;try first|rfl|((exfalso;grind);done))|(intros;(try simp only [zql]);omega)))
  refine aP (X:={x:Nat//x≤c.parts.length∧∀j (h:j<x) (h1:j<c.parts.length),(iM c.parts[j]&&(decide (j=0)||qZ c.parts[j] (c.parts[j-1]'(by omega))))=true}) (fun i=>(((((St.nil 85 st).var 1 75 (c.cells)).pv 16 (.seq (c.parts.map Pt.cells))).pv 17 ((PV.val (Value.int .i64 (((c.parts.map Pt.cells).length:Nat)))))).pv 18 ((PV.val (Value.int .i64 ((i.1:Nat))))))) (fun i=>c.parts.length-i.1) ⟨0,by omega,fun _ h=>absurd h (Nat.not_lt_zero _)⟩ ?_ (fun i=> ?_)
  · ((repeat (first|refine Sub.pv ?_ rfl|refine Sub.var ?_ rfl rfl));exact Sub.nil _ _ _ (StSub.refl _) rfl)
  obtain ⟨i,hi,hI⟩:=i
  dsimp only
  by_cases hend:c.parts.length≤i
  · have e:=aeZ (ok:=iM) (bh:=qZ) fun j h=>hI j (by omega) h
    (try (apply wO pk;exact rfl));(repeat' (first|(show All _;constructor)|(show Imp _ _;constructor)|(show ImpX _ _ _ _;constructor)|(apply wC pk;(iterate 2 exact rfl))|(apply wE pk;(iterate 2 exact rfl))|(apply wX pk;exact rfl)|(apply wN pk;exact rfl)|(apply wD pk [] [];kernel_rfl;exact rfl;exact rfl)|(apply aC;simp only [zqt,zqf])|(refine aD rfl (fun h=> ?_) (fun h=> ?_)<;>(try simp at h)<;>try (exfalso;omega))|(refine aF ?_;refine ⟨_,_,_,rfl,Wk.refl _,StSub.refl _, ?_,rfl⟩;try first|rfl|((rw [e]);done))|(intros;(try simp only [zql]);omega)))
  have h1:i<c.parts.length:=by omega
  have hF:=akR (ok:=iM) (bh:=qZ) h1
  have hS:(iM c.parts[i]&&(decide (i=0)||qZ c.parts[i] (c.parts[i-1]'(by omega))))=true→∀j (h:j<i+1) (h1:j<c.parts.length),(iM c.parts[j]&&(decide (j=0)||qZ c.parts[j] (c.parts[j-1]'(by omega))))=true:=fun h j hj h1=>by
    rcases Nat.lt_succ_iff_lt_or_eq.1 hj with q|q
    · exact hI j q h1
    · subst q;exact h
  have hv:=lF c.parts[i].val
  by_cases h0:i=0
  · subst h0
    have hof:=tW c.parts[0]
    have hF':¬(iM c.parts[0]=true)→uJ iM (qZ) c.parts=false:=fun h=>hF (by rw [←Bool.not_eq_true];intro q;rw [Bool.and_eq_true] at q;exact h q.1)
    simp only [iM,kR,eY,Dt.ext_iff,Dt.zero,Bool.and_eq_true,decide_eq_true_eq] at hF'
    (try (apply wO pk;exact rfl));(repeat' (first|(show All _;constructor)|(show Imp _ _;constructor)|(show ImpX _ _ _ _;constructor)|(apply wC pk;(iterate 2 exact rfl))|(apply wE pk;(iterate 2 exact rfl))|(apply wX pk;exact rfl)|(apply wN pk;exact rfl)|(apply wD pk [] [];kernel_rfl;exact rfl;exact rfl)|(apply aC;simp only [zqt,zqf])|(refine aD rfl (fun h=> ?_) (fun h=> ?_)<;>(try simp at h)<;>try (exfalso;omega))|(refine aF ?_;refine ⟨_,_,_,rfl,Wk.refl _,StSub.refl _, ?_,rfl⟩;try first|rfl|((first|(rw [hF' (by grind)];done)|(exact absurd (by assumption:c.parts=[]) (List.ne_nil_of_length_pos h1)));done))|(apply aK;(iterate 3 exact rfl);(intro _;(first|apply hv|apply hof|apply (show PF Tryz.prog 151 [_,_] (PV.val (Value.int .i64 (0))) from by rename_i hh;exact (oJ hh).elim))<;>first|assumption|omega);rotate_left;(iterate 2 exact rfl))|(apply bC pk;(iterate 6 exact rfl);rotate_left;exact rfl;(first|((intro hw;exact (show _=((0:Nat):Int) from by exact (oJ hw).elim));(intro hw;apply aJ<;>omega);(intro _;exact rfl))|((intro hw;exact rfl);(intro hw;apply aJ<;>omega);(intro _;exact rfl)));exact rfl)|(refine ⟨⟨1,by omega,hS (by simp [iM,kR,eY,Dt.ext_iff,Dt.zero];grind)⟩, ?_,by simp only;omega⟩;((repeat (first|refine Sub.pv ?_ rfl|refine Sub.var ?_ rfl rfl));exact Sub.nil _ _ _ (StSub.refl _) rfl))|(intros;(try simp only [zql]);omega)))
  obtain ⟨k,rfl⟩:∃k,i=k+1:=⟨i-1,by omega⟩
  have hd1:=tW c.parts[k]
  have hd2:=tW c.parts[k+1]
  have hd:=aoA c.parts[k] c.parts[k+1]
  have hb:ahI c.parts[k] c.parts[k+1]≥0↔qZ c.parts[k+1] c.parts[k]=false:=by have:=asW c.parts[k] c.parts[k+1];cases h:qZ c.parts[k+1] c.parts[k]<;>simp [h] at this⊢ <;>omega
  have hF':¬(iM c.parts[k+1]=true∧ahI c.parts[k] c.parts[k+1]<0)→uJ iM (qZ) c.parts=false:=fun h=>hF (by rw [←Bool.not_eq_true];intro q;rw [Bool.and_eq_true] at q;exact h ⟨q.1,by have q2:=q.2;simp at q2;grind⟩)
  simp only [iM,kR,eY,Dt.ext_iff,Dt.zero,Bool.and_eq_true,decide_eq_true_eq] at hF'
  (try (apply wO pk;exact rfl));(repeat' (first|(show All _;constructor)|(show Imp _ _;constructor)|(show ImpX _ _ _ _;constructor)|(apply wC pk;(iterate 2 exact rfl))|(apply wE pk;(iterate 2 exact rfl))|(apply wX pk;exact rfl)|(apply wN pk;exact rfl)|(apply wD pk [] [];kernel_rfl;exact rfl;exact rfl)|(apply aC;simp only [zqt,zqf])|(refine aD rfl (fun h=> ?_) (fun h=> ?_)<;>(try simp at h)<;>try (exfalso;omega))|(refine aF ?_;refine ⟨_,_,_,rfl,Wk.refl _,StSub.refl _, ?_,rfl⟩;try first|rfl|((rw [hF' (by grind)]);done))|(apply aK;(iterate 3 exact rfl);(intro _;(first|apply hv|apply hd1|apply hd2|apply hd)<;>first|assumption|omega);rotate_left;(iterate 2 exact rfl))|(apply bC pk;(iterate 6 exact rfl);rotate_left;exact rfl;(first|((intro hw;exact (show ((((k+1:Nat):Int))-1=((k:Nat):Int)) from by omega));(intro hw;apply aJ<;>omega);(intro _;exact rfl))|((intro hw;exact rfl);(intro hw;apply aJ<;>omega);(intro _;exact rfl)));exact rfl)|(refine ⟨⟨k+2,by omega,hS (by simp [iM,kR,eY,Dt.ext_iff,Dt.zero];grind)⟩, ?_,by simp only;omega⟩;((repeat (first|refine Sub.pv ?_ rfl|refine Sub.var ?_ rfl rfl));exact Sub.nil _ _ _ (StSub.refl _) rfl))|(intros;(try simp only [zql]);omega)))
end Go.Proofs.YtddmbnddgiebgaaGreatDoor
