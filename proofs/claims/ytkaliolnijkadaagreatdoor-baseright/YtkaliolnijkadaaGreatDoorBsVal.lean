import Derived.Test.YtkaliolnijkadaaGreatDoorBsFn
set_option linter.unusedSimpArgs false
set_option linter.unusedVariables false
namespace Go.Proofs.YtkaliolnijkadaaGreatDoor
open Go Go.Abs
attribute [local irreducible] Ev PWp
set_option maxRecDepth 10000
set_option maxHeartbeats 2000000
def hY (v:Vl):Bool:=if v.kind=0 then decide (v.n=0)&&decide (v.s=e0) else if v.kind=1 then (decide (v.s=e0)&&decide (v.n≥ -1099511627776))&&decide (v.n≤1099511627776) else if v.kind=2 then decide (v.n=0)&&decide ((v.s.size:Int)≤200) else false
theorem iQ (v:Vl):PF Tryz.prog 92 [.agg v.cells] (PV.val (Value.bool (hY v))):=by
  unfold hY
  by_cases h0:v.kind=0
  · rw [if_pos h0]
    refine aJ aG Tryz.func92 (by kernel_rfl) rfl rfl rfl rfl (fun st=> ?_)
    (try (apply wO pk;exact rfl));(repeat' (first|(show All _;constructor)|(show Imp _ _;constructor)|(show ImpX _ _ _ _;constructor)|(apply wC pk;(iterate 2 exact rfl))|(apply wE pk;(iterate 2 exact rfl))|(apply wX pk;exact rfl)|(apply wN pk;exact rfl)|(apply wD pk [] [];kernel_rfl;exact rfl;exact rfl)|(apply aB;simp only [cond_true,cond_false])|(refine aC rfl (fun h=> ?_) (fun h=> ?_)<;>(try simp at h)<;>try (exfalso;omega))|(refine aF ?_;refine ⟨_,_,_,rfl,Wk.refl _,StSub.refl _, ?_,rfl⟩;try first|rfl|((first|(simp [h0];done)|(exfalso;omega));done))|(intros;(try simp only [List.length_map]);omega)))
  by_cases h1:v.kind=1
  · rw [if_neg h0,if_pos h1]
    refine aJ aG Tryz.func92 (by kernel_rfl) rfl rfl rfl rfl (fun st=> ?_)
    (try (apply wO pk;exact rfl));(repeat' (first|(show All _;constructor)|(show Imp _ _;constructor)|(show ImpX _ _ _ _;constructor)|(apply wC pk;(iterate 2 exact rfl))|(apply wE pk;(iterate 2 exact rfl))|(apply wX pk;exact rfl)|(apply wN pk;exact rfl)|(apply wD pk [] [];kernel_rfl;exact rfl;exact rfl)|(apply aB;simp only [cond_true,cond_false])|(refine aC rfl (fun h=> ?_) (fun h=> ?_)<;>(try simp at h)<;>try (exfalso;omega))|(refine aF ?_;refine ⟨_,_,_,rfl,Wk.refl _,StSub.refl _, ?_,rfl⟩;try first|rfl|((first|(simp;done)|(exfalso;omega));done))|(intros;(try simp only [List.length_map]);omega)))
  rw [if_neg h0,if_neg h1]
  by_cases h2:v.kind=2
  · rw [if_pos h2]
    refine aJ aG Tryz.func92 (by kernel_rfl) rfl rfl rfl rfl (fun st=> ?_)
    (try (apply wO pk;exact rfl));(repeat' (first|(show All _;constructor)|(show Imp _ _;constructor)|(show ImpX _ _ _ _;constructor)|(apply wC pk;(iterate 2 exact rfl))|(apply wE pk;(iterate 2 exact rfl))|(apply wX pk;exact rfl)|(apply wN pk;exact rfl)|(apply wD pk [] [];kernel_rfl;exact rfl;exact rfl)|(apply aB;simp only [cond_true,cond_false])|(refine aC rfl (fun h=> ?_) (fun h=> ?_)<;>(try simp at h)<;>try (exfalso;omega))|(refine aF ?_;refine ⟨_,_,_,rfl,Wk.refl _,StSub.refl _, ?_,rfl⟩;try first|rfl|((first|(simp;done)|(exfalso;omega));done))|(intros;(try simp only [List.length_map]);omega)))
  rw [if_neg h2]
  refine aJ aG Tryz.func92 (by kernel_rfl) rfl rfl rfl rfl (fun st=> ?_)
  (try (apply wO pk;exact rfl));(repeat' (first|(show All _;constructor)|(show Imp _ _;constructor)|(show ImpX _ _ _ _;constructor)|(apply wC pk;(iterate 2 exact rfl))|(apply wE pk;(iterate 2 exact rfl))|(apply wX pk;exact rfl)|(apply wN pk;exact rfl)|(apply wD pk [] [];kernel_rfl;exact rfl;exact rfl)|(apply aB;simp only [cond_true,cond_false])|(refine aC rfl (fun h=> ?_) (fun h=> ?_)<;>(try simp at h)<;>try (exfalso;omega))|(refine aF ?_;refine ⟨_,_,_,rfl,Wk.refl _,StSub.refl _, ?_,rfl⟩;try first|rfl|((first|(simp;done)|(exfalso;omega));done))|(intros;(try simp only [List.length_map]);omega)))
theorem iD (v:Vl):PF Tryz.prog 98 [.agg v.cells] (PV.val (Value.bool (hY v))):=by
  unfold hY
  by_cases h0:v.kind=0
  · rw [if_pos h0]
    refine aJ aG Tryz.func98 (by kernel_rfl) rfl rfl rfl rfl (fun st=> ?_)
    (try (apply wO pk;exact rfl));(repeat' (first|(show All _;constructor)|(show Imp _ _;constructor)|(show ImpX _ _ _ _;constructor)|(apply wC pk;(iterate 2 exact rfl))|(apply wE pk;(iterate 2 exact rfl))|(apply wX pk;exact rfl)|(apply wN pk;exact rfl)|(apply wD pk [] [];kernel_rfl;exact rfl;exact rfl)|(apply aB;simp only [cond_true,cond_false])|(refine aC rfl (fun h=> ?_) (fun h=> ?_)<;>(try simp at h)<;>try (exfalso;omega))|(refine aF ?_;refine ⟨_,_,_,rfl,Wk.refl _,StSub.refl _, ?_,rfl⟩;try first|rfl|((first|(simp [h0];done)|(exfalso;omega));done))|(intros;(try simp only [List.length_map]);omega)))
  by_cases h1:v.kind=1
  · rw [if_neg h0,if_pos h1]
    refine aJ aG Tryz.func98 (by kernel_rfl) rfl rfl rfl rfl (fun st=> ?_)
    (try (apply wO pk;exact rfl));(repeat' (first|(show All _;constructor)|(show Imp _ _;constructor)|(show ImpX _ _ _ _;constructor)|(apply wC pk;(iterate 2 exact rfl))|(apply wE pk;(iterate 2 exact rfl))|(apply wX pk;exact rfl)|(apply wN pk;exact rfl)|(apply wD pk [] [];kernel_rfl;exact rfl;exact rfl)|(apply aB;simp only [cond_true,cond_false])|(refine aC rfl (fun h=> ?_) (fun h=> ?_)<;>(try simp at h)<;>try (exfalso;omega))|(refine aF ?_;refine ⟨_,_,_,rfl,Wk.refl _,StSub.refl _, ?_,rfl⟩;try first|rfl|((first|(simp;done)|(exfalso;omega));done))|(intros;(try simp only [List.length_map]);omega)))
  rw [if_neg h0,if_neg h1]
  refine aJ aG Tryz.func98 (by kernel_rfl) rfl rfl rfl rfl (fun st=> ?_)
  (try (apply wO pk;exact rfl));(repeat' (first|(show All _;constructor)|(show Imp _ _;constructor)|(show ImpX _ _ _ _;constructor)|(apply wC pk;(iterate 2 exact rfl))|(apply wE pk;(iterate 2 exact rfl))|(apply wX pk;exact rfl)|(apply wN pk;exact rfl)|(apply wD pk [] [];kernel_rfl;exact rfl;exact rfl)|(apply aB;simp only [cond_true,cond_false])|(refine aC rfl (fun h=> ?_) (fun h=> ?_)<;>(try simp at h)<;>try (exfalso;omega))|(refine aF ?_;refine ⟨_,_,_,rfl,Wk.refl _,StSub.refl _, ?_,rfl⟩;try first|rfl|((first|(by_cases h2:v.kind=2<;>simp [h2];done)|(exfalso;omega));done))|(intros;(try simp only [List.length_map]);omega)))
def lE (c:Cl):Int:=if c.kind≠2∨c.val.kind≠1 then 6 else if c.val.s≠e0∨0<c.parts.length then 1 else if c.val.n< -1099511627776∨c.val.n>1099511627776 then 20 else 0
theorem acP (n:Int):PF Tryz.prog 129 [(PV.val (Value.int .i64 (n)))] (PV.val (Value.bool (decide (n≥ -1099511627776)&&decide (n≤1099511627776)))):=by
  refine aJ aG Tryz.func129 (by kernel_rfl) rfl rfl rfl rfl (fun st=> ?_)
  (try (apply wO pk;exact rfl));(repeat' (first|(show All _;constructor)|(show Imp _ _;constructor)|(show ImpX _ _ _ _;constructor)|(apply wC pk;(iterate 2 exact rfl))|(apply wE pk;(iterate 2 exact rfl))|(apply wX pk;exact rfl)|(apply wN pk;exact rfl)|(apply wD pk [] [];kernel_rfl;exact rfl;exact rfl)|(apply aB;simp only [cond_true,cond_false])|(refine aC rfl (fun h=> ?_) (fun h=> ?_)<;>(try simp at h)<;>try (exfalso;omega))|(refine aF ?_;refine ⟨_,_,_,rfl,Wk.refl _,StSub.refl _, ?_,rfl⟩;try rfl)|(intros;(try simp only [List.length_map]);omega)))
theorem wA (c:Cl):PF Tryz.prog 94 [.agg c.cells] (PV.val (Value.int .i64 (lE c))):=by
  have hf:=acP c.val.n
  unfold lE
  by_cases h1:c.kind≠2∨c.val.kind≠1
  · rw [if_pos h1]
    refine aJ aG Tryz.func94 (by kernel_rfl) rfl rfl rfl rfl (fun st=> ?_)
    (try (apply wO pk;exact rfl));(repeat' (first|(show All _;constructor)|(show Imp _ _;constructor)|(show ImpX _ _ _ _;constructor)|(apply wC pk;(iterate 2 exact rfl))|(apply wE pk;(iterate 2 exact rfl))|(apply wX pk;exact rfl)|(apply wN pk;exact rfl)|(apply wD pk [] [];kernel_rfl;exact rfl;exact rfl)|(apply aB;simp only [cond_true,cond_false])|(refine aC rfl (fun h=> ?_) (fun h=> ?_)<;>(try simp at h)<;>try (exfalso;omega))|(refine aF ?_;refine ⟨_,_,_,rfl,Wk.refl _,StSub.refl _, ?_,rfl⟩;try first|rfl|((first|rfl|(exfalso;omega));done))|(apply aL;(iterate 3 exact rfl);(intro _;apply hf<;>first|assumption|omega);rotate_left;(iterate 2 exact rfl))|(intros;(try simp only [List.length_map]);omega)))
  rw [if_neg h1]
  by_cases h2:c.val.s≠e0∨0<c.parts.length
  · rw [if_pos h2]
    refine aJ aG Tryz.func94 (by kernel_rfl) rfl rfl rfl rfl (fun st=> ?_)
    (try (apply wO pk;exact rfl));(repeat' (first|(show All _;constructor)|(show Imp _ _;constructor)|(show ImpX _ _ _ _;constructor)|(apply wC pk;(iterate 2 exact rfl))|(apply wE pk;(iterate 2 exact rfl))|(apply wX pk;exact rfl)|(apply wN pk;exact rfl)|(apply wD pk [] [];kernel_rfl;exact rfl;exact rfl)|(apply aB;simp only [cond_true,cond_false])|(refine aC rfl (fun h=> ?_) (fun h=> ?_)<;>(try simp at h)<;>try (exfalso;omega))|(refine aF ?_;refine ⟨_,_,_,rfl,Wk.refl _,StSub.refl _, ?_,rfl⟩;try first|rfl|((first|rfl|(exfalso;omega)|(exfalso;simp at*;grind));done))|(apply aL;(iterate 3 exact rfl);(intro _;apply hf<;>first|assumption|omega);rotate_left;(iterate 2 exact rfl))|(intros;(try simp only [List.length_map]);omega)))
  rw [if_neg h2]
  by_cases h3:c.val.n< -1099511627776∨c.val.n>1099511627776
  · rw [if_pos h3]
    refine aJ aG Tryz.func94 (by kernel_rfl) rfl rfl rfl rfl (fun st=> ?_)
    (try (apply wO pk;exact rfl));(repeat' (first|(show All _;constructor)|(show Imp _ _;constructor)|(show ImpX _ _ _ _;constructor)|(apply wC pk;(iterate 2 exact rfl))|(apply wE pk;(iterate 2 exact rfl))|(apply wX pk;exact rfl)|(apply wN pk;exact rfl)|(apply wD pk [] [];kernel_rfl;exact rfl;exact rfl)|(apply aB;simp only [cond_true,cond_false])|(refine aC rfl (fun h=> ?_) (fun h=> ?_)<;>(try simp at h)<;>try (exfalso;omega))|(refine aF ?_;refine ⟨_,_,_,rfl,Wk.refl _,StSub.refl _, ?_,rfl⟩;try first|rfl|((first|rfl|(exfalso;omega)|(exfalso;simp at*;grind));done))|(apply aL;(iterate 3 exact rfl);(intro _;apply hf<;>first|assumption|omega);rotate_left;(iterate 2 exact rfl))|(intros;(try simp only [List.length_map]);omega)))
  rw [if_neg h3]
  refine aJ aG Tryz.func94 (by kernel_rfl) rfl rfl rfl rfl (fun st=> ?_)
  (try (apply wO pk;exact rfl));(repeat' (first|(show All _;constructor)|(show Imp _ _;constructor)|(show ImpX _ _ _ _;constructor)|(apply wC pk;(iterate 2 exact rfl))|(apply wE pk;(iterate 2 exact rfl))|(apply wX pk;exact rfl)|(apply wN pk;exact rfl)|(apply wD pk [] [];kernel_rfl;exact rfl;exact rfl)|(apply aB;simp only [cond_true,cond_false])|(refine aC rfl (fun h=> ?_) (fun h=> ?_)<;>(try simp at h)<;>try (exfalso;omega))|(refine aF ?_;refine ⟨_,_,_,rfl,Wk.refl _,StSub.refl _, ?_,rfl⟩;try first|rfl|((first|rfl|(exfalso;omega)|(exfalso;simp at*;grind));done))|(apply aL;(iterate 3 exact rfl);(intro _;apply hf<;>first|assumption|omega);rotate_left;(iterate 2 exact rfl))|(intros;(try simp only [List.length_map]);omega)))
theorem tP (c:Cl):PF Tryz.prog 100 [.agg c.cells] (PV.val (Value.int .i64 (lE c))):=by
  unfold lE
  by_cases h1:c.kind≠2∨c.val.kind≠1
  · rw [if_pos h1]
    refine aJ aG Tryz.func100 (by kernel_rfl) rfl rfl rfl rfl (fun st=> ?_)
    (try (apply wO pk;exact rfl));(repeat' (first|(show All _;constructor)|(show Imp _ _;constructor)|(show ImpX _ _ _ _;constructor)|(apply wC pk;(iterate 2 exact rfl))|(apply wE pk;(iterate 2 exact rfl))|(apply wX pk;exact rfl)|(apply wN pk;exact rfl)|(apply wD pk [] [];kernel_rfl;exact rfl;exact rfl)|(apply aB;simp only [cond_true,cond_false])|(refine aC rfl (fun h=> ?_) (fun h=> ?_)<;>(try simp at h)<;>try (exfalso;omega))|(refine aF ?_;refine ⟨_,_,_,rfl,Wk.refl _,StSub.refl _, ?_,rfl⟩;try first|rfl|((first|rfl|(exfalso;omega));done))|(intros;(try simp only [List.length_map]);omega)))
  rw [if_neg h1]
  by_cases h2:c.val.s≠e0∨0<c.parts.length
  · rw [if_pos h2]
    refine aJ aG Tryz.func100 (by kernel_rfl) rfl rfl rfl rfl (fun st=> ?_)
    (try (apply wO pk;exact rfl));(repeat' (first|(show All _;constructor)|(show Imp _ _;constructor)|(show ImpX _ _ _ _;constructor)|(apply wC pk;(iterate 2 exact rfl))|(apply wE pk;(iterate 2 exact rfl))|(apply wX pk;exact rfl)|(apply wN pk;exact rfl)|(apply wD pk [] [];kernel_rfl;exact rfl;exact rfl)|(apply aB;simp only [cond_true,cond_false])|(refine aC rfl (fun h=> ?_) (fun h=> ?_)<;>(try simp at h)<;>try (exfalso;omega))|(refine aF ?_;refine ⟨_,_,_,rfl,Wk.refl _,StSub.refl _, ?_,rfl⟩;try first|rfl|((first|rfl|(exfalso;omega)|(exfalso;simp at*;grind));done))|(intros;(try simp only [List.length_map]);omega)))
  rw [if_neg h2]
  by_cases h3:c.val.n< -1099511627776∨c.val.n>1099511627776
  · rw [if_pos h3]
    refine aJ aG Tryz.func100 (by kernel_rfl) rfl rfl rfl rfl (fun st=> ?_)
    (try (apply wO pk;exact rfl));(repeat' (first|(show All _;constructor)|(show Imp _ _;constructor)|(show ImpX _ _ _ _;constructor)|(apply wC pk;(iterate 2 exact rfl))|(apply wE pk;(iterate 2 exact rfl))|(apply wX pk;exact rfl)|(apply wN pk;exact rfl)|(apply wD pk [] [];kernel_rfl;exact rfl;exact rfl)|(apply aB;simp only [cond_true,cond_false])|(refine aC rfl (fun h=> ?_) (fun h=> ?_)<;>(try simp at h)<;>try (exfalso;omega))|(refine aF ?_;refine ⟨_,_,_,rfl,Wk.refl _,StSub.refl _, ?_,rfl⟩;try first|rfl|((first|rfl|(exfalso;omega)|(exfalso;simp at*;grind));done))|(intros;(try simp only [List.length_map]);omega)))
  rw [if_neg h3]
  refine aJ aG Tryz.func100 (by kernel_rfl) rfl rfl rfl rfl (fun st=> ?_)
  (try (apply wO pk;exact rfl));(repeat' (first|(show All _;constructor)|(show Imp _ _;constructor)|(show ImpX _ _ _ _;constructor)|(apply wC pk;(iterate 2 exact rfl))|(apply wE pk;(iterate 2 exact rfl))|(apply wX pk;exact rfl)|(apply wN pk;exact rfl)|(apply wD pk [] [];kernel_rfl;exact rfl;exact rfl)|(apply aB;simp only [cond_true,cond_false])|(refine aC rfl (fun h=> ?_) (fun h=> ?_)<;>(try simp at h)<;>try (exfalso;omega))|(refine aF ?_;refine ⟨_,_,_,rfl,Wk.refl _,StSub.refl _, ?_,rfl⟩;try first|rfl|((first|rfl|(exfalso;omega)|(exfalso;simp at*;grind));done))|(intros;(try simp only [List.length_map]);omega)))
end Go.Proofs.YtkaliolnijkadaaGreatDoor
namespace Go.Proofs.YtkaliolnijkadaaGreatDoor
open Go Go.Abs
attribute [local irreducible] Ev PWp
set_option maxRecDepth 10000
set_option maxHeartbeats 4000000
theorem abI (a b:Dt):PF Tryz.prog 128 [.agg a.cells, .agg b.cells] (PV.val (Value.int .i64 (byD a b))):=by
  have ho:=tX [fF a.dev b.dev,fF a.seq b.seq] (by simp)
  refine aJ aG Tryz.func128 (by kernel_rfl) rfl rfl rfl rfl (fun st=> ?_)
  (try (apply wO pk;exact rfl));(repeat' (first|(show All _;constructor)|(show Imp _ _;constructor)|(show ImpX _ _ _ _;constructor)|(apply wC pk;(iterate 2 exact rfl))|(apply wE pk;(iterate 2 exact rfl))|(apply wX pk;exact rfl)|(apply wN pk;exact rfl)|(apply wD pk [] [];kernel_rfl;exact rfl;exact rfl)|(apply aB;simp only [cond_true,cond_false])|(refine aC rfl (fun h=> ?_) (fun h=> ?_)<;>(try simp at h)<;>try (exfalso;omega))|(refine aF ?_;refine ⟨_,_,_,rfl,Wk.refl _,StSub.refl _, ?_,rfl⟩;try rfl)|(apply aL;(iterate 3 exact rfl);(intro _;(first|apply (fC a.dev b.dev)|apply (fC a.seq b.seq)|apply ho)<;>first|assumption|omega);rotate_left;(iterate 2 exact rfl))|(intros;(try simp only [List.length_map]);omega)))
theorem abD (a b:Dt):decide (byD a b≥0)= !bP b a:=by
  unfold byD bP fF
  simp only [orI]
  rw [Bool.eq_iff_iff]
  simp only [decide_eq_true_eq,Bool.not_eq_true',Bool.or_eq_false_iff,Bool.and_eq_false_iff,decide_eq_false_iff_not]
  grind
def eD (p:Pt):Prop:=p.at_=0∧p.time=0∧p.after=Dt.zero∧p.afterAt=0∧p.gone=false
instance (p :Pt):Decidable (eD p):=by unfold eD;infer_instance
def dQ (d:Dt):Bool:=((decide (1≤d.dev)&&decide (d.dev≤64))&&decide (1≤d.seq))&&decide (d.seq≤1048576)
def cT (p:Pt):Bool:=(decide (eD p)&&hY p.val)&&dQ p.dot
def dC (p:Pt):Bool:=(decide (eD p)&&(decide (p.val.kind=1)&&hY p.val))&&dQ p.dot
def mM (ok:Pt→Bool) (bh:Pt→Pt→Bool) (l:List Pt):Bool:=(List.range l.length).all fun j=>ok l[j]! &&(decide (j=0)||bh l[j]! l[j-1]!)
theorem sU {ok:Pt→Bool} {bh:Pt→Pt→Bool} {l:List Pt} {j:Nat} (h:j<l.length) (hf:(ok l[j]&&(decide (j=0)||bh l[j] (l[j-1]'(by omega))))=false):mM ok bh l=false:=by
  unfold mM
  rw [←Bool.not_eq_true,List.all_eq_true]
  intro q
  have:=q j (List.mem_range.2 h)
  rw [getElem!_pos l j h,getElem!_pos l (j-1) (by omega),hf] at this
  cases this
theorem oU {ok:Pt→Bool} {bh:Pt→Pt→Bool} {l:List Pt} (hf:∀j (h:j<l.length),(ok l[j]&&(decide (j=0)||bh l[j] (l[j-1]'(by omega))))=true):mM ok bh l=true:=by
  unfold mM
  rw [List.all_eq_true]
  intro j hj
  have h:=List.mem_range.1 hj
  rw [getElem!_pos l j h,getElem!_pos l (j-1) (by omega)]
  exact hf j h
def kY (c:Cl):Bool:=decide (c.kind=1∧c.val=Vl.zero)&&mM cT (fun p q=>bP p.dot q.dot) c.parts
def yK (p:Pt):List PV:=[(PV.val (Value.int .i64 (p.val.n))),(PV.val (Value.int .i64 (p.dot.dev))),(PV.val (Value.int .i64 (p.dot.seq)))]
theorem pM (p:Pt):PF Tryz.prog 130 [.agg p.cells] (.agg (yK p)):=by
  refine aJ aG Tryz.func130 (by kernel_rfl) rfl rfl rfl rfl (fun st=> ?_)
  (try (apply wO pk;exact rfl));(repeat' (first|(show All _;constructor)|(show Imp _ _;constructor)|(show ImpX _ _ _ _;constructor)|(apply wC pk;(iterate 2 exact rfl))|(apply wE pk;(iterate 2 exact rfl))|(apply wX pk;exact rfl)|(apply wN pk;exact rfl)|(apply wD pk [] [];kernel_rfl;exact rfl;exact rfl)|(apply aB;simp only [cond_true,cond_false])|(refine aC rfl (fun h=> ?_) (fun h=> ?_)<;>(try simp at h)<;>try (exfalso;omega))|(refine aF ?_;refine ⟨_,_,_,rfl,Wk.refl _,StSub.refl _, ?_,rfl⟩;try rfl)|(intros;(try simp only [List.length_map]);omega)))
def ahI (p q:Pt):Int:=orI [fF p.val.n q.val.n,fF p.dot.dev q.dot.dev,fF p.dot.seq q.dot.seq]
theorem ajN (p q:Pt):PF Tryz.prog 131 [.agg (yK p), .agg (yK q)] (PV.val (Value.int .i64 (ahI p q))):=by
  have ho:=tX [fF p.val.n q.val.n,fF p.dot.dev q.dot.dev,fF p.dot.seq q.dot.seq] (by simp)
  refine aJ aG Tryz.func131 (by kernel_rfl) rfl rfl rfl rfl (fun st=> ?_)
  (try (apply wO pk;exact rfl));(repeat' (first|(show All _;constructor)|(show Imp _ _;constructor)|(show ImpX _ _ _ _;constructor)|(apply wC pk;(iterate 2 exact rfl))|(apply wE pk;(iterate 2 exact rfl))|(apply wX pk;exact rfl)|(apply wN pk;exact rfl)|(apply wD pk [] [];kernel_rfl;exact rfl;exact rfl)|(apply aB;simp only [cond_true,cond_false])|(refine aC rfl (fun h=> ?_) (fun h=> ?_)<;>(try simp at h)<;>try (exfalso;omega))|(refine aF ?_;refine ⟨_,_,_,rfl,Wk.refl _,StSub.refl _, ?_,rfl⟩;try rfl)|(apply aL;(iterate 3 exact rfl);(intro _;(first|apply (fC p.val.n q.val.n)|apply (fC p.dot.dev q.dot.dev)|apply (fC p.dot.seq q.dot.seq)|apply ho)<;>first|assumption|omega);rotate_left;(iterate 2 exact rfl))|(intros;(try simp only [List.length_map]);omega)))
def gH (p q:Pt):Bool:=decide (p.val.n>q.val.n)||(decide (p.val.n=q.val.n)&&bP p.dot q.dot)
theorem akZ (p q:Pt):decide (ahI p q≥0)= !gH q p:=by
  unfold ahI gH bP fF
  simp only [orI]
  rw [Bool.eq_iff_iff]
  simp only [decide_eq_true_eq,Bool.not_eq_true',Bool.or_eq_false_iff,Bool.and_eq_false_iff,decide_eq_false_iff_not]
  grind
theorem agA (p q:Pt):PF Tryz.prog 136 [.agg p.cells, .agg q.cells] (PV.val (Value.bool (gH p q))):=by
  have h:=gX p.dot q.dot
  refine aJ aG Tryz.func136 (by kernel_rfl) rfl rfl rfl rfl (fun st=> ?_)
  (try (apply wO pk;exact rfl));(repeat' (first|(show All _;constructor)|(show Imp _ _;constructor)|(show ImpX _ _ _ _;constructor)|(apply wC pk;(iterate 2 exact rfl))|(apply wE pk;(iterate 2 exact rfl))|(apply wX pk;exact rfl)|(apply wN pk;exact rfl)|(apply wD pk [] [];kernel_rfl;exact rfl;exact rfl)|(apply aB;simp only [cond_true,cond_false])|(refine aC rfl (fun h=> ?_) (fun h=> ?_)<;>(try simp at h)<;>try (exfalso;omega))|(refine aF ?_;refine ⟨_,_,_,rfl,Wk.refl _,StSub.refl _, ?_,rfl⟩;try rfl)|(apply aL;(iterate 3 exact rfl);(intro _;apply h<;>first|assumption|omega);rotate_left;(iterate 2 exact rfl))|(intros;(try simp only [List.length_map]);omega)))
def kV (c:Cl):Bool:=decide (c.kind=3∧c.val=Vl.zero)&&mM dC gH c.parts
theorem fD {x:Bool} (h:gw x (decide (((0:Nat):Int)>0)) true=true):False:=by
  cases x<;>simp [gw] at h
theorem wI (c:Cl) (hl:c.parts.length<4611686018427387904):PF Tryz.prog 93 [.agg c.cells] (PV.val (Value.bool (kY c))):=by
  unfold kY
  by_cases hk:¬(c.kind=1∧c.val=Vl.zero)
  · rw [decide_eq_false hk,Bool.false_and]
    rw [Vl.ext_iff] at hk
    simp only [Vl.zero] at hk
    refine aJ aG Tryz.func93 (by kernel_rfl) rfl rfl rfl rfl (fun st=> ?_)
    (try (apply wO pk;exact rfl));(repeat' (first|((exfalso;grind))|(show All _;constructor)|(show Imp _ _;constructor)|(show ImpX _ _ _ _;constructor)|(apply wC pk;(iterate 2 exact rfl))|(apply wE pk;(iterate 2 exact rfl))|(apply wX pk;exact rfl)|(apply wN pk;exact rfl)|(apply wD pk [] [];kernel_rfl;exact rfl;exact rfl)|(apply aB;simp only [cond_true,cond_false])|(refine aC rfl (fun h=> ?_) (fun h=> ?_)<;>(try simp at h)<;>try (exfalso;omega))|(refine aF ?_;refine ⟨_,_,_,rfl,Wk.refl _,StSub.refl _, ?_,rfl⟩;try first|rfl|((exfalso;grind);done))|(intros;(try simp only [List.length_map]);omega)))
  replace hk:=Decidable.of_not_not hk
  rw [decide_eq_true hk,Bool.true_and]
  obtain ⟨k1,k2⟩:=hk
  rw [Vl.ext_iff] at k2
  obtain ⟨k2,k3,k4⟩:=k2
  simp only [Vl.zero] at k2 k3 k4
  refine aJ aG Tryz.func93 (by kernel_rfl) rfl rfl rfl rfl (fun st=> ?_)
  (try (apply wO pk;exact rfl));(repeat' (first|(show All _;constructor)|(show Imp _ _;constructor)|(show ImpX _ _ _ _;constructor)|(apply wC pk;(iterate 2 exact rfl))|(apply wE pk;(iterate 2 exact rfl))|(apply wX pk;exact rfl)|(apply wN pk;exact rfl)|(apply wD pk [] [];kernel_rfl;exact rfl;exact rfl)|(apply aB;simp only [cond_true,cond_false])|(refine aC rfl (fun h=> ?_) (fun h=> ?_)<;>(try simp at h)<;>try (exfalso;omega))|(refine aF ?_;refine ⟨_,_,_,rfl,Wk.refl _,StSub.refl _, ?_,rfl⟩;try first|rfl|((exfalso;grind);done))|(intros;(try simp only [List.length_map]);omega)))
  refine aM (X:={x:Nat//x≤c.parts.length∧∀j (h:j<x) (h1:j<c.parts.length),(cT c.parts[j]&&(decide (j=0)||bP c.parts[j].dot (c.parts[j-1]'(by omega)).dot))=true}) (fun i=>(((((St.nil 79 st).var 1 72 (c.cells)).pv 16 (.seq (c.parts.map Pt.cells))).pv 17 ((PV.val (Value.int .i64 (((c.parts.map Pt.cells).length:Nat)))))).pv 18 ((PV.val (Value.int .i64 ((i.1:Nat))))))) (fun i=>c.parts.length-i.1) ⟨0,by omega,fun _ h=>absurd h (Nat.not_lt_zero _)⟩ ?_ (fun i=> ?_)
  · ((repeat (first|refine Sub.pv ?_ rfl|refine Sub.var ?_ rfl rfl));exact Sub.nil _ _ _ (StSub.refl _) rfl)
  obtain ⟨i,hi,hI⟩:=i
  dsimp only
  by_cases hend:c.parts.length≤i
  · have e:=oU (ok:=cT) (bh:=fun p q=>bP p.dot q.dot) fun j h=>hI j (by omega) h
    (try (apply wO pk;exact rfl));(repeat' (first|(show All _;constructor)|(show Imp _ _;constructor)|(show ImpX _ _ _ _;constructor)|(apply wC pk;(iterate 2 exact rfl))|(apply wE pk;(iterate 2 exact rfl))|(apply wX pk;exact rfl)|(apply wN pk;exact rfl)|(apply wD pk [] [];kernel_rfl;exact rfl;exact rfl)|(apply aB;simp only [cond_true,cond_false])|(refine aC rfl (fun h=> ?_) (fun h=> ?_)<;>(try simp at h)<;>try (exfalso;omega))|(refine aF ?_;refine ⟨_,_,_,rfl,Wk.refl _,StSub.refl _, ?_,rfl⟩;try first|rfl|((rw [e]);done))|(intros;(try simp only [List.length_map]);omega)))
  have h1:i<c.parts.length:=by omega
  have hF:=sU (ok:=cT) (bh:=fun p q=>bP p.dot q.dot) h1
  have hS:(cT c.parts[i]&&(decide (i=0)||bP c.parts[i].dot (c.parts[i-1]'(by omega)).dot))=true→∀j (h:j<i+1) (h1:j<c.parts.length),(cT c.parts[j]&&(decide (j=0)||bP c.parts[j].dot (c.parts[j-1]'(by omega)).dot))=true:=fun h j hj h1=>by
    rcases Nat.lt_succ_iff_lt_or_eq.1 hj with q|q
    · exact hI j q h1
    · subst q;exact h
  have hv:=iQ c.parts[i].val
  by_cases h0:i=0
  · subst h0
    have hF':¬(cT c.parts[0]=true)→mM cT (fun p q=>bP p.dot q.dot) c.parts=false:=fun h=>hF (by rw [←Bool.not_eq_true];intro q;rw [Bool.and_eq_true] at q;exact h q.1)
    simp only [cT,eD,dQ,Dt.ext_iff,Dt.zero,Bool.and_eq_true,decide_eq_true_eq] at hF'
    (try (apply wO pk;exact rfl));(repeat' (first|(show All _;constructor)|(show Imp _ _;constructor)|(show ImpX _ _ _ _;constructor)|(apply wC pk;(iterate 2 exact rfl))|(apply wE pk;(iterate 2 exact rfl))|(apply wX pk;exact rfl)|(apply wN pk;exact rfl)|(apply wD pk [] [];kernel_rfl;exact rfl;exact rfl)|(apply aB;simp only [cond_true,cond_false])|(refine aC rfl (fun h=> ?_) (fun h=> ?_)<;>(try simp at h)<;>try (exfalso;omega))|(refine aF ?_;refine ⟨_,_,_,rfl,Wk.refl _,StSub.refl _, ?_,rfl⟩;try first|rfl|((first|(rw [hF' (by grind)];done)|(exact absurd (by assumption:c.parts=[]) (List.ne_nil_of_length_pos h1)));done))|(apply aL;(iterate 3 exact rfl);(intro _;(first|apply hv|apply (show PF Tryz.prog 128 [_, .agg c.parts[0].dot.cells] (PV.val (Value.int .i64 (0))) from by rename_i hh;exact (fD hh).elim))<;>first|assumption|omega);rotate_left;(iterate 2 exact rfl))|(apply bC pk;(iterate 6 exact rfl);rotate_left;exact rfl;(first|((intro hw;exact (show _=((0:Nat):Int) from by exact (fD hw).elim));(intro hw;apply aI<;>omega);(intro _;exact rfl))|((intro hw;exact rfl);(intro hw;apply aI<;>omega);(intro _;exact rfl)));exact rfl)|(refine ⟨⟨1,by omega,hS (by simp [cT,eD,dQ,Dt.ext_iff,Dt.zero];grind)⟩, ?_,by simp only;omega⟩;((repeat (first|refine Sub.pv ?_ rfl|refine Sub.var ?_ rfl rfl));exact Sub.nil _ _ _ (StSub.refl _) rfl))|(intros;(try simp only [List.length_map]);omega)))
  obtain ⟨k,rfl⟩:∃k,i=k+1:=⟨i-1,by omega⟩
  have hd:=abI c.parts[k].dot c.parts[k+1].dot
  have hb:byD c.parts[k].dot c.parts[k+1].dot≥0↔bP c.parts[k+1].dot c.parts[k].dot=false:=by have:=abD c.parts[k].dot c.parts[k+1].dot;cases h:bP c.parts[k+1].dot c.parts[k].dot<;>simp [h] at this⊢ <;>omega
  have hF':¬(cT c.parts[k+1]=true∧byD c.parts[k].dot c.parts[k+1].dot<0)→mM cT (fun p q=>bP p.dot q.dot) c.parts=false:=fun h=>hF (by rw [←Bool.not_eq_true];intro q;rw [Bool.and_eq_true] at q;exact h ⟨q.1,by have q2:=q.2;simp at q2;grind⟩)
  simp only [cT,eD,dQ,Dt.ext_iff,Dt.zero,Bool.and_eq_true,decide_eq_true_eq] at hF'
  (try (apply wO pk;exact rfl));(repeat' (first|(show All _;constructor)|(show Imp _ _;constructor)|(show ImpX _ _ _ _;constructor)|(apply wC pk;(iterate 2 exact rfl))|(apply wE pk;(iterate 2 exact rfl))|(apply wX pk;exact rfl)|(apply wN pk;exact rfl)|(apply wD pk [] [];kernel_rfl;exact rfl;exact rfl)|(apply aB;simp only [cond_true,cond_false])|(refine aC rfl (fun h=> ?_) (fun h=> ?_)<;>(try simp at h)<;>try (exfalso;omega))|(refine aF ?_;refine ⟨_,_,_,rfl,Wk.refl _,StSub.refl _, ?_,rfl⟩;try first|rfl|((rw [hF' (by grind)]);done))|(apply aL;(iterate 3 exact rfl);(intro _;(first|apply hv|apply hd)<;>first|assumption|omega);rotate_left;(iterate 2 exact rfl))|(apply bC pk;(iterate 6 exact rfl);rotate_left;exact rfl;(first|((intro hw;exact (show ((((k+1:Nat):Int))-1=((k:Nat):Int)) from by omega));(intro hw;apply aI<;>omega);(intro _;exact rfl))|((intro hw;exact rfl);(intro hw;apply aI<;>omega);(intro _;exact rfl)));exact rfl)|(refine ⟨⟨k+2,by omega,hS (by simp [cT,eD,dQ,Dt.ext_iff,Dt.zero];grind)⟩, ?_,by simp only;omega⟩;((repeat (first|refine Sub.pv ?_ rfl|refine Sub.var ?_ rfl rfl));exact Sub.nil _ _ _ (StSub.refl _) rfl))|(intros;(try simp only [List.length_map]);omega)))
theorem tN (c:Cl) (hl:c.parts.length<4611686018427387904):PF Tryz.prog 99 [.agg c.cells] (PV.val (Value.bool (kY c))):=by
  unfold kY
  have hkv:(decide (c.kind=1)&&(decide (c.val.kind=0)&&(decide (c.val.n=0)&&decide (c.val.s=e0))))=decide (c.kind=1∧c.val=Vl.zero):=by rw [Bool.eq_iff_iff];simp [Vl.ext_iff,Vl.zero]
  refine aJ aG Tryz.func99 (by kernel_rfl) rfl rfl rfl rfl (fun st=> ?_)
  (try (apply wO pk;exact rfl));(repeat' (first|(show All _;constructor)|(show Imp _ _;constructor)|(show ImpX _ _ _ _;constructor)|(apply wC pk;(iterate 2 exact rfl))|(apply wE pk;(iterate 2 exact rfl))|(apply wX pk;exact rfl)|(apply wN pk;exact rfl)|(apply wD pk [] [];kernel_rfl;exact rfl;exact rfl)|(apply aB;simp only [cond_true,cond_false])|(refine aC rfl (fun h=> ?_) (fun h=> ?_)<;>(try simp at h)<;>try (exfalso;omega))|(refine aF ?_;refine ⟨_,_,_,rfl,Wk.refl _,StSub.refl _, ?_,rfl⟩;try rfl)|(intros;(try simp only [List.length_map]);omega)))
  refine aM (X:={x:Nat//x≤c.parts.length∧∀j (h:j<x) (h1:j<c.parts.length),(cT c.parts[j]&&(decide (j=0)||bP c.parts[j].dot (c.parts[j-1]'(by omega)).dot))=true}) (fun i=>(((St.nil 76 st).var 1 72 (c.cells)).pv 3 ((PV.val (Value.int .i64 ((i.1:Nat))))))) (fun i=>c.parts.length-i.1) ⟨0,by omega,fun _ h=>absurd h (Nat.not_lt_zero _)⟩ ?_ (fun i=> ?_)
  · ((repeat (first|refine Sub.pv ?_ rfl|refine Sub.var ?_ rfl rfl));exact Sub.nil _ _ _ (StSub.refl _) rfl)
  obtain ⟨i,hi,hI⟩:=i
  dsimp only
  by_cases hend:c.parts.length≤i
  · have e:=oU (ok:=cT) (bh:=fun p q=>bP p.dot q.dot) fun j h=>hI j (by omega) h
    (try (apply wO pk;exact rfl));(repeat' (first|(show All _;constructor)|(show Imp _ _;constructor)|(show ImpX _ _ _ _;constructor)|(apply wC pk;(iterate 2 exact rfl))|(apply wE pk;(iterate 2 exact rfl))|(apply wX pk;exact rfl)|(apply wN pk;exact rfl)|(apply wD pk [] [];kernel_rfl;exact rfl;exact rfl)|(apply aB;simp only [cond_true,cond_false])|(refine aC rfl (fun h=> ?_) (fun h=> ?_)<;>(try simp at h)<;>try (exfalso;omega))|(refine aF ?_;refine ⟨_,_,_,rfl,Wk.refl _,StSub.refl _, ?_,rfl⟩;try first|rfl|((rw [e,Bool.and_true,←hkv]);done))|(intros;(try simp only [List.length_map]);omega)))
  have h1:i<c.parts.length:=by omega
  have hF:=sU (ok:=cT) (bh:=fun p q=>bP p.dot q.dot) h1
  have hS:(cT c.parts[i]&&(decide (i=0)||bP c.parts[i].dot (c.parts[i-1]'(by omega)).dot))=true→∀j (h:j<i+1) (h1:j<c.parts.length),(cT c.parts[j]&&(decide (j=0)||bP c.parts[j].dot (c.parts[j-1]'(by omega)).dot))=true:=fun h j hj h1=>by
    rcases Nat.lt_succ_iff_lt_or_eq.1 hj with q|q
    · exact hI j q h1
    · subst q;exact h
  have hv:=iD c.parts[i].val
  by_cases h0:i=0
  · subst h0
    have hF':¬(cT c.parts[0]=true)→mM cT (fun p q=>bP p.dot q.dot) c.parts=false:=fun h=>hF (by rw [←Bool.not_eq_true];intro q;rw [Bool.and_eq_true] at q;exact h q.1)
    simp only [cT,eD,dQ,Dt.ext_iff,Dt.zero,Bool.and_eq_true,decide_eq_true_eq] at hF'
    (try (apply wO pk;exact rfl));(repeat' (first|(show All _;constructor)|(show Imp _ _;constructor)|(show ImpX _ _ _ _;constructor)|(apply wC pk;(iterate 2 exact rfl))|(apply wE pk;(iterate 2 exact rfl))|(apply wX pk;exact rfl)|(apply wN pk;exact rfl)|(apply wD pk [] [];kernel_rfl;exact rfl;exact rfl)|(apply aB;simp only [cond_true,cond_false])|(refine aC rfl (fun h=> ?_) (fun h=> ?_)<;>(try simp at h)<;>try (exfalso;omega))|(refine aF ?_;refine ⟨_,_,_,rfl,Wk.refl _,StSub.refl _, ?_,rfl⟩;try first|rfl|((first|(rw [hF' (by grind),Bool.and_false];done)|(exact absurd (by assumption:c.parts=[]) (List.ne_nil_of_length_pos h1)));done))|(apply aL;(iterate 3 exact rfl);(intro _;(first|apply hv|apply (show PF Tryz.prog 52 [.agg c.parts[0].dot.cells,_] (PV.val (Value.bool (false))) from by rename_i hh;exact (fD hh).elim))<;>first|assumption|omega);rotate_left;(iterate 2 exact rfl))|(apply bC pk;(iterate 6 exact rfl);rotate_left;exact rfl;(first|((intro hw;exact (show _=((0:Nat):Int) from by exact (fD hw).elim));(intro hw;apply aI<;>omega);(intro _;exact rfl))|((intro hw;exact rfl);(intro hw;apply aI<;>omega);(intro _;exact rfl)));exact rfl)|(refine ⟨⟨1,by omega,hS (by simp [cT,eD,dQ,Dt.ext_iff,Dt.zero];grind)⟩, ?_,by simp only;omega⟩;((repeat (first|refine Sub.pv ?_ rfl|refine Sub.var ?_ rfl rfl));exact Sub.nil _ _ _ (StSub.refl _) rfl))|(intros;(try simp only [List.length_map]);omega)))
  obtain ⟨k,rfl⟩:∃k,i=k+1:=⟨i-1,by omega⟩
  have hd:=gX c.parts[k+1].dot c.parts[k].dot
  have hF':¬(cT c.parts[k+1]=true∧bP c.parts[k+1].dot c.parts[k].dot=true)→mM cT (fun p q=>bP p.dot q.dot) c.parts=false:=fun h=>hF (by rw [←Bool.not_eq_true];intro q;rw [Bool.and_eq_true] at q;exact h ⟨q.1,by have q2:=q.2;simp at q2;grind⟩)
  simp only [cT,eD,dQ,Dt.ext_iff,Dt.zero,Bool.and_eq_true,decide_eq_true_eq] at hF'
  (try (apply wO pk;exact rfl));(repeat' (first|(show All _;constructor)|(show Imp _ _;constructor)|(show ImpX _ _ _ _;constructor)|(apply wC pk;(iterate 2 exact rfl))|(apply wE pk;(iterate 2 exact rfl))|(apply wX pk;exact rfl)|(apply wN pk;exact rfl)|(apply wD pk [] [];kernel_rfl;exact rfl;exact rfl)|(apply aB;simp only [cond_true,cond_false])|(refine aC rfl (fun h=> ?_) (fun h=> ?_)<;>(try simp at h)<;>try (exfalso;omega))|(refine aF ?_;refine ⟨_,_,_,rfl,Wk.refl _,StSub.refl _, ?_,rfl⟩;try first|rfl|((rw [hF' (by grind),Bool.and_false]);done))|(apply aL;(iterate 3 exact rfl);(intro _;(first|apply hv|apply hd)<;>first|assumption|omega);rotate_left;(iterate 2 exact rfl))|(apply bC pk;(iterate 6 exact rfl);rotate_left;exact rfl;(first|((intro hw;exact (show ((((k+1:Nat):Int))-1=((k:Nat):Int)) from by omega));(intro hw;apply aI<;>omega);(intro _;exact rfl))|((intro hw;exact rfl);(intro hw;apply aI<;>omega);(intro _;exact rfl)));exact rfl)|(refine ⟨⟨k+2,by omega,hS (by simp [cT,eD,dQ,Dt.ext_iff,Dt.zero];grind)⟩, ?_,by simp only;omega⟩;((repeat (first|refine Sub.pv ?_ rfl|refine Sub.var ?_ rfl rfl));exact Sub.nil _ _ _ (StSub.refl _) rfl))|(intros;(try simp only [List.length_map]);omega)))
theorem xL (c:Cl) (hl:c.parts.length<4611686018427387904):PF Tryz.prog 95 [.agg c.cells] (PV.val (Value.bool (kV c))):=by
  unfold kV
  by_cases hk:¬(c.kind=3∧c.val=Vl.zero)
  · rw [decide_eq_false hk,Bool.false_and]
    rw [Vl.ext_iff] at hk
    simp only [Vl.zero] at hk
    refine aJ aG Tryz.func95 (by kernel_rfl) rfl rfl rfl rfl (fun st=> ?_)
    (try (apply wO pk;exact rfl));(repeat' (first|((exfalso;grind))|(show All _;constructor)|(show Imp _ _;constructor)|(show ImpX _ _ _ _;constructor)|(apply wC pk;(iterate 2 exact rfl))|(apply wE pk;(iterate 2 exact rfl))|(apply wX pk;exact rfl)|(apply wN pk;exact rfl)|(apply wD pk [] [];kernel_rfl;exact rfl;exact rfl)|(apply aB;simp only [cond_true,cond_false])|(refine aC rfl (fun h=> ?_) (fun h=> ?_)<;>(try simp at h)<;>try (exfalso;omega))|(refine aF ?_;refine ⟨_,_,_,rfl,Wk.refl _,StSub.refl _, ?_,rfl⟩;try first|rfl|((exfalso;grind);done))|(intros;(try simp only [List.length_map]);omega)))
  replace hk:=Decidable.of_not_not hk
  rw [decide_eq_true hk,Bool.true_and]
  obtain ⟨k1,k2⟩:=hk
  rw [Vl.ext_iff] at k2
  obtain ⟨k2,k3,k4⟩:=k2
  simp only [Vl.zero] at k2 k3 k4
  refine aJ aG Tryz.func95 (by kernel_rfl) rfl rfl rfl rfl (fun st=> ?_)
  (try (apply wO pk;exact rfl));(repeat' (first|(show All _;constructor)|(show Imp _ _;constructor)|(show ImpX _ _ _ _;constructor)|(apply wC pk;(iterate 2 exact rfl))|(apply wE pk;(iterate 2 exact rfl))|(apply wX pk;exact rfl)|(apply wN pk;exact rfl)|(apply wD pk [] [];kernel_rfl;exact rfl;exact rfl)|(apply aB;simp only [cond_true,cond_false])|(refine aC rfl (fun h=> ?_) (fun h=> ?_)<;>(try simp at h)<;>try (exfalso;omega))|(refine aF ?_;refine ⟨_,_,_,rfl,Wk.refl _,StSub.refl _, ?_,rfl⟩;try first|rfl|((exfalso;grind);done))|(intros;(try simp only [List.length_map]);omega)))
  refine aM (X:={x:Nat//x≤c.parts.length∧∀j (h:j<x) (h1:j<c.parts.length),(dC c.parts[j]&&(decide (j=0)||gH c.parts[j] (c.parts[j-1]'(by omega))))=true}) (fun i=>(((((St.nil 85 st).var 1 72 (c.cells)).pv 16 (.seq (c.parts.map Pt.cells))).pv 17 ((PV.val (Value.int .i64 (((c.parts.map Pt.cells).length:Nat)))))).pv 18 ((PV.val (Value.int .i64 ((i.1:Nat))))))) (fun i=>c.parts.length-i.1) ⟨0,by omega,fun _ h=>absurd h (Nat.not_lt_zero _)⟩ ?_ (fun i=> ?_)
  · ((repeat (first|refine Sub.pv ?_ rfl|refine Sub.var ?_ rfl rfl));exact Sub.nil _ _ _ (StSub.refl _) rfl)
  obtain ⟨i,hi,hI⟩:=i
  dsimp only
  by_cases hend:c.parts.length≤i
  · have e:=oU (ok:=dC) (bh:=gH) fun j h=>hI j (by omega) h
    (try (apply wO pk;exact rfl));(repeat' (first|(show All _;constructor)|(show Imp _ _;constructor)|(show ImpX _ _ _ _;constructor)|(apply wC pk;(iterate 2 exact rfl))|(apply wE pk;(iterate 2 exact rfl))|(apply wX pk;exact rfl)|(apply wN pk;exact rfl)|(apply wD pk [] [];kernel_rfl;exact rfl;exact rfl)|(apply aB;simp only [cond_true,cond_false])|(refine aC rfl (fun h=> ?_) (fun h=> ?_)<;>(try simp at h)<;>try (exfalso;omega))|(refine aF ?_;refine ⟨_,_,_,rfl,Wk.refl _,StSub.refl _, ?_,rfl⟩;try first|rfl|((rw [e]);done))|(intros;(try simp only [List.length_map]);omega)))
  have h1:i<c.parts.length:=by omega
  have hF:=sU (ok:=dC) (bh:=gH) h1
  have hS:(dC c.parts[i]&&(decide (i=0)||gH c.parts[i] (c.parts[i-1]'(by omega))))=true→∀j (h:j<i+1) (h1:j<c.parts.length),(dC c.parts[j]&&(decide (j=0)||gH c.parts[j] (c.parts[j-1]'(by omega))))=true:=fun h j hj h1=>by
    rcases Nat.lt_succ_iff_lt_or_eq.1 hj with q|q
    · exact hI j q h1
    · subst q;exact h
  have hv:=iQ c.parts[i].val
  by_cases h0:i=0
  · subst h0
    have hof:=pM c.parts[0]
    have hF':¬(dC c.parts[0]=true)→mM dC (gH) c.parts=false:=fun h=>hF (by rw [←Bool.not_eq_true];intro q;rw [Bool.and_eq_true] at q;exact h q.1)
    simp only [dC,eD,dQ,Dt.ext_iff,Dt.zero,Bool.and_eq_true,decide_eq_true_eq] at hF'
    (try (apply wO pk;exact rfl));(repeat' (first|(show All _;constructor)|(show Imp _ _;constructor)|(show ImpX _ _ _ _;constructor)|(apply wC pk;(iterate 2 exact rfl))|(apply wE pk;(iterate 2 exact rfl))|(apply wX pk;exact rfl)|(apply wN pk;exact rfl)|(apply wD pk [] [];kernel_rfl;exact rfl;exact rfl)|(apply aB;simp only [cond_true,cond_false])|(refine aC rfl (fun h=> ?_) (fun h=> ?_)<;>(try simp at h)<;>try (exfalso;omega))|(refine aF ?_;refine ⟨_,_,_,rfl,Wk.refl _,StSub.refl _, ?_,rfl⟩;try first|rfl|((first|(rw [hF' (by grind)];done)|(exact absurd (by assumption:c.parts=[]) (List.ne_nil_of_length_pos h1)));done))|(apply aL;(iterate 3 exact rfl);(intro _;(first|apply hv|apply hof|apply (show PF Tryz.prog 131 [_,_] (PV.val (Value.int .i64 (0))) from by rename_i hh;exact (fD hh).elim))<;>first|assumption|omega);rotate_left;(iterate 2 exact rfl))|(apply bC pk;(iterate 6 exact rfl);rotate_left;exact rfl;(first|((intro hw;exact (show _=((0:Nat):Int) from by exact (fD hw).elim));(intro hw;apply aI<;>omega);(intro _;exact rfl))|((intro hw;exact rfl);(intro hw;apply aI<;>omega);(intro _;exact rfl)));exact rfl)|(refine ⟨⟨1,by omega,hS (by simp [dC,eD,dQ,Dt.ext_iff,Dt.zero];grind)⟩, ?_,by simp only;omega⟩;((repeat (first|refine Sub.pv ?_ rfl|refine Sub.var ?_ rfl rfl));exact Sub.nil _ _ _ (StSub.refl _) rfl))|(intros;(try simp only [List.length_map]);omega)))
  obtain ⟨k,rfl⟩:∃k,i=k+1:=⟨i-1,by omega⟩
  have hd1:=pM c.parts[k]
  have hd2:=pM c.parts[k+1]
  have hd:=ajN c.parts[k] c.parts[k+1]
  have hb:ahI c.parts[k] c.parts[k+1]≥0↔gH c.parts[k+1] c.parts[k]=false:=by have:=akZ c.parts[k] c.parts[k+1];cases h:gH c.parts[k+1] c.parts[k]<;>simp [h] at this⊢ <;>omega
  have hF':¬(dC c.parts[k+1]=true∧ahI c.parts[k] c.parts[k+1]<0)→mM dC (gH) c.parts=false:=fun h=>hF (by rw [←Bool.not_eq_true];intro q;rw [Bool.and_eq_true] at q;exact h ⟨q.1,by have q2:=q.2;simp at q2;grind⟩)
  simp only [dC,eD,dQ,Dt.ext_iff,Dt.zero,Bool.and_eq_true,decide_eq_true_eq] at hF'
  (try (apply wO pk;exact rfl));(repeat' (first|(show All _;constructor)|(show Imp _ _;constructor)|(show ImpX _ _ _ _;constructor)|(apply wC pk;(iterate 2 exact rfl))|(apply wE pk;(iterate 2 exact rfl))|(apply wX pk;exact rfl)|(apply wN pk;exact rfl)|(apply wD pk [] [];kernel_rfl;exact rfl;exact rfl)|(apply aB;simp only [cond_true,cond_false])|(refine aC rfl (fun h=> ?_) (fun h=> ?_)<;>(try simp at h)<;>try (exfalso;omega))|(refine aF ?_;refine ⟨_,_,_,rfl,Wk.refl _,StSub.refl _, ?_,rfl⟩;try first|rfl|((rw [hF' (by grind)]);done))|(apply aL;(iterate 3 exact rfl);(intro _;(first|apply hv|apply hd1|apply hd2|apply hd)<;>first|assumption|omega);rotate_left;(iterate 2 exact rfl))|(apply bC pk;(iterate 6 exact rfl);rotate_left;exact rfl;(first|((intro hw;exact (show ((((k+1:Nat):Int))-1=((k:Nat):Int)) from by omega));(intro hw;apply aI<;>omega);(intro _;exact rfl))|((intro hw;exact rfl);(intro hw;apply aI<;>omega);(intro _;exact rfl)));exact rfl)|(refine ⟨⟨k+2,by omega,hS (by simp [dC,eD,dQ,Dt.ext_iff,Dt.zero];grind)⟩, ?_,by simp only;omega⟩;((repeat (first|refine Sub.pv ?_ rfl|refine Sub.var ?_ rfl rfl));exact Sub.nil _ _ _ (StSub.refl _) rfl))|(intros;(try simp only [List.length_map]);omega)))
theorem sR (c:Cl) (hl:c.parts.length<4611686018427387904):PF Tryz.prog 101 [.agg c.cells] (PV.val (Value.bool (kV c))):=by
  unfold kV
  have hkv:(decide (c.kind=3)&&(decide (c.val.kind=0)&&(decide (c.val.n=0)&&decide (c.val.s=e0))))=decide (c.kind=3∧c.val=Vl.zero):=by rw [Bool.eq_iff_iff];simp [Vl.ext_iff,Vl.zero]
  refine aJ aG Tryz.func101 (by kernel_rfl) rfl rfl rfl rfl (fun st=> ?_)
  (try (apply wO pk;exact rfl));(repeat' (first|(show All _;constructor)|(show Imp _ _;constructor)|(show ImpX _ _ _ _;constructor)|(apply wC pk;(iterate 2 exact rfl))|(apply wE pk;(iterate 2 exact rfl))|(apply wX pk;exact rfl)|(apply wN pk;exact rfl)|(apply wD pk [] [];kernel_rfl;exact rfl;exact rfl)|(apply aB;simp only [cond_true,cond_false])|(refine aC rfl (fun h=> ?_) (fun h=> ?_)<;>(try simp at h)<;>try (exfalso;omega))|(refine aF ?_;refine ⟨_,_,_,rfl,Wk.refl _,StSub.refl _, ?_,rfl⟩;try rfl)|(intros;(try simp only [List.length_map]);omega)))
  refine aM (X:={x:Nat//x≤c.parts.length∧∀j (h:j<x) (h1:j<c.parts.length),(dC c.parts[j]&&(decide (j=0)||gH c.parts[j] (c.parts[j-1]'(by omega))))=true}) (fun i=>(((St.nil 80 st).var 1 72 (c.cells)).pv 3 ((PV.val (Value.int .i64 ((i.1:Nat))))))) (fun i=>c.parts.length-i.1) ⟨0,by omega,fun _ h=>absurd h (Nat.not_lt_zero _)⟩ ?_ (fun i=> ?_)
  · ((repeat (first|refine Sub.pv ?_ rfl|refine Sub.var ?_ rfl rfl));exact Sub.nil _ _ _ (StSub.refl _) rfl)
  obtain ⟨i,hi,hI⟩:=i
  dsimp only
  by_cases hend:c.parts.length≤i
  · have e:=oU (ok:=dC) (bh:=gH) fun j h=>hI j (by omega) h
    (try (apply wO pk;exact rfl));(repeat' (first|(show All _;constructor)|(show Imp _ _;constructor)|(show ImpX _ _ _ _;constructor)|(apply wC pk;(iterate 2 exact rfl))|(apply wE pk;(iterate 2 exact rfl))|(apply wX pk;exact rfl)|(apply wN pk;exact rfl)|(apply wD pk [] [];kernel_rfl;exact rfl;exact rfl)|(apply aB;simp only [cond_true,cond_false])|(refine aC rfl (fun h=> ?_) (fun h=> ?_)<;>(try simp at h)<;>try (exfalso;omega))|(refine aF ?_;refine ⟨_,_,_,rfl,Wk.refl _,StSub.refl _, ?_,rfl⟩;try first|rfl|((rw [e,Bool.and_true,←hkv]);done))|(intros;(try simp only [List.length_map]);omega)))
  have h1:i<c.parts.length:=by omega
  have hF:=sU (ok:=dC) (bh:=gH) h1
  have hS:(dC c.parts[i]&&(decide (i=0)||gH c.parts[i] (c.parts[i-1]'(by omega))))=true→∀j (h:j<i+1) (h1:j<c.parts.length),(dC c.parts[j]&&(decide (j=0)||gH c.parts[j] (c.parts[j-1]'(by omega))))=true:=fun h j hj h1=>by
    rcases Nat.lt_succ_iff_lt_or_eq.1 hj with q|q
    · exact hI j q h1
    · subst q;exact h
  have hv:=iD c.parts[i].val
  by_cases h0:i=0
  · subst h0
    have hF':¬(dC c.parts[0]=true)→mM dC (gH) c.parts=false:=fun h=>hF (by rw [←Bool.not_eq_true];intro q;rw [Bool.and_eq_true] at q;exact h q.1)
    simp only [dC,eD,dQ,Dt.ext_iff,Dt.zero,Bool.and_eq_true,decide_eq_true_eq] at hF'
    (try (apply wO pk;exact rfl));(repeat' (first|(show All _;constructor)|(show Imp _ _;constructor)|(show ImpX _ _ _ _;constructor)|(apply wC pk;(iterate 2 exact rfl))|(apply wE pk;(iterate 2 exact rfl))|(apply wX pk;exact rfl)|(apply wN pk;exact rfl)|(apply wD pk [] [];kernel_rfl;exact rfl;exact rfl)|(apply aB;simp only [cond_true,cond_false])|(refine aC rfl (fun h=> ?_) (fun h=> ?_)<;>(try simp at h)<;>try (exfalso;omega))|(refine aF ?_;refine ⟨_,_,_,rfl,Wk.refl _,StSub.refl _, ?_,rfl⟩;try first|rfl|((first|(rw [hF' (by grind),Bool.and_false];done)|(exact absurd (by assumption:c.parts=[]) (List.ne_nil_of_length_pos h1)));done))|(apply aL;(iterate 3 exact rfl);(intro _;(first|apply hv|apply (show PF Tryz.prog 136 [.agg c.parts[0].cells,_] (PV.val (Value.bool (false))) from by rename_i hh;exact (fD hh).elim))<;>first|assumption|omega);rotate_left;(iterate 2 exact rfl))|(apply bC pk;(iterate 6 exact rfl);rotate_left;exact rfl;(first|((intro hw;exact (show _=((0:Nat):Int) from by exact (fD hw).elim));(intro hw;apply aI<;>omega);(intro _;exact rfl))|((intro hw;exact rfl);(intro hw;apply aI<;>omega);(intro _;exact rfl)));exact rfl)|(refine ⟨⟨1,by omega,hS (by simp [dC,eD,dQ,Dt.ext_iff,Dt.zero];grind)⟩, ?_,by simp only;omega⟩;((repeat (first|refine Sub.pv ?_ rfl|refine Sub.var ?_ rfl rfl));exact Sub.nil _ _ _ (StSub.refl _) rfl))|(intros;(try simp only [List.length_map]);omega)))
  obtain ⟨k,rfl⟩:∃k,i=k+1:=⟨i-1,by omega⟩
  have hd:=agA c.parts[k+1] c.parts[k]
  have hF':¬(dC c.parts[k+1]=true∧gH c.parts[k+1] c.parts[k]=true)→mM dC (gH) c.parts=false:=fun h=>hF (by rw [←Bool.not_eq_true];intro q;rw [Bool.and_eq_true] at q;exact h ⟨q.1,by have q2:=q.2;simp at q2;grind⟩)
  simp only [dC,eD,dQ,Dt.ext_iff,Dt.zero,Bool.and_eq_true,decide_eq_true_eq] at hF'
  (try (apply wO pk;exact rfl));(repeat' (first|(show All _;constructor)|(show Imp _ _;constructor)|(show ImpX _ _ _ _;constructor)|(apply wC pk;(iterate 2 exact rfl))|(apply wE pk;(iterate 2 exact rfl))|(apply wX pk;exact rfl)|(apply wN pk;exact rfl)|(apply wD pk [] [];kernel_rfl;exact rfl;exact rfl)|(apply aB;simp only [cond_true,cond_false])|(refine aC rfl (fun h=> ?_) (fun h=> ?_)<;>(try simp at h)<;>try (exfalso;omega))|(refine aF ?_;refine ⟨_,_,_,rfl,Wk.refl _,StSub.refl _, ?_,rfl⟩;try first|rfl|((rw [hF' (by grind),Bool.and_false]);done))|(apply aL;(iterate 3 exact rfl);(intro _;(first|apply hv|apply hd)<;>first|assumption|omega);rotate_left;(iterate 2 exact rfl))|(apply bC pk;(iterate 6 exact rfl);rotate_left;exact rfl;(first|((intro hw;exact (show ((((k+1:Nat):Int))-1=((k:Nat):Int)) from by omega));(intro hw;apply aI<;>omega);(intro _;exact rfl))|((intro hw;exact rfl);(intro hw;apply aI<;>omega);(intro _;exact rfl)));exact rfl)|(refine ⟨⟨k+2,by omega,hS (by simp [dC,eD,dQ,Dt.ext_iff,Dt.zero];grind)⟩, ?_,by simp only;omega⟩;((repeat (first|refine Sub.pv ?_ rfl|refine Sub.var ?_ rfl rfl));exact Sub.nil _ _ _ (StSub.refl _) rfl))|(intros;(try simp only [List.length_map]);omega)))
end Go.Proofs.YtkaliolnijkadaaGreatDoor
