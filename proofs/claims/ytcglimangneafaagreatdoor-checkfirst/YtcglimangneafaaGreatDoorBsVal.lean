import Derived.Test.YtcglimangneafaaGreatDoorBsFn
set_option linter.unusedSimpArgs false
set_option linter.unusedVariables false
namespace Go.Proofs.YtcglimangneafaaGreatDoor
open Go Go.Abs
attribute [local irreducible] Ev PWp
set_option maxRecDepth 10000
set_option maxHeartbeats 2000000
def fF (v:Vl):Bool:=if v.kind=0 then decide (v.n=0)&&decide (v.s=e0) else if v.kind=1 then (decide (v.s=e0)&&decide (v.n≥ -1099511627776))&&decide (v.n≤1099511627776) else if v.kind=2 then decide (v.n=0)&&decide ((v.s.size:Int)≤200) else false
theorem jM (v:Vl):PF Tryz.prog 132 [.agg v.cells] (PV.val (Value.bool (fF v))):=by
  unfold fF
  by_cases h0:v.kind=0
  · rw [if_pos h0]
    refine aK aG Tryz.func132 (by kernel_rfl) rfl rfl rfl rfl (fun st=> ?_)
    (try (apply wO pk;exact rfl));(repeat' (first|(show All _;constructor)|(show Imp _ _;constructor)|(show ImpX _ _ _ _;constructor)|(apply wC pk;(iterate 2 exact rfl))|(apply wE pk;(iterate 2 exact rfl))|(apply wX pk;exact rfl)|(apply wN pk;exact rfl)|(apply wD pk [] [];kernel_rfl;exact rfl;exact rfl)|(apply aB;simp only [zqt,zqf])|(refine aC rfl (fun h=> ?_) (fun h=> ?_)<;>(try simp at h)<;>try (exfalso;omega))|(refine aD ?_;refine ⟨_,_,_,rfl,Wk.refl _,StSub.refl _, ?_,rfl⟩;try first|rfl|((first|(simp [h0];done)|(exfalso;omega));done))|(intros;(try simp only [zql]);omega)))
  by_cases h1:v.kind=1
  · rw [if_neg h0,if_pos h1]
    refine aK aG Tryz.func132 (by kernel_rfl) rfl rfl rfl rfl (fun st=> ?_)
    (try (apply wO pk;exact rfl));(repeat' (first|(show All _;constructor)|(show Imp _ _;constructor)|(show ImpX _ _ _ _;constructor)|(apply wC pk;(iterate 2 exact rfl))|(apply wE pk;(iterate 2 exact rfl))|(apply wX pk;exact rfl)|(apply wN pk;exact rfl)|(apply wD pk [] [];kernel_rfl;exact rfl;exact rfl)|(apply aB;simp only [zqt,zqf])|(refine aC rfl (fun h=> ?_) (fun h=> ?_)<;>(try simp at h)<;>try (exfalso;omega))|(refine aD ?_;refine ⟨_,_,_,rfl,Wk.refl _,StSub.refl _, ?_,rfl⟩;try first|rfl|((first|(simp;done)|(exfalso;omega));done))|(intros;(try simp only [zql]);omega)))
  rw [if_neg h0,if_neg h1]
  by_cases h2:v.kind=2
  · rw [if_pos h2]
    refine aK aG Tryz.func132 (by kernel_rfl) rfl rfl rfl rfl (fun st=> ?_)
    (try (apply wO pk;exact rfl));(repeat' (first|(show All _;constructor)|(show Imp _ _;constructor)|(show ImpX _ _ _ _;constructor)|(apply wC pk;(iterate 2 exact rfl))|(apply wE pk;(iterate 2 exact rfl))|(apply wX pk;exact rfl)|(apply wN pk;exact rfl)|(apply wD pk [] [];kernel_rfl;exact rfl;exact rfl)|(apply aB;simp only [zqt,zqf])|(refine aC rfl (fun h=> ?_) (fun h=> ?_)<;>(try simp at h)<;>try (exfalso;omega))|(refine aD ?_;refine ⟨_,_,_,rfl,Wk.refl _,StSub.refl _, ?_,rfl⟩;try first|rfl|((first|(simp;done)|(exfalso;omega));done))|(intros;(try simp only [zql]);omega)))
  rw [if_neg h2]
  refine aK aG Tryz.func132 (by kernel_rfl) rfl rfl rfl rfl (fun st=> ?_)
  (try (apply wO pk;exact rfl));(repeat' (first|(show All _;constructor)|(show Imp _ _;constructor)|(show ImpX _ _ _ _;constructor)|(apply wC pk;(iterate 2 exact rfl))|(apply wE pk;(iterate 2 exact rfl))|(apply wX pk;exact rfl)|(apply wN pk;exact rfl)|(apply wD pk [] [];kernel_rfl;exact rfl;exact rfl)|(apply aB;simp only [zqt,zqf])|(refine aC rfl (fun h=> ?_) (fun h=> ?_)<;>(try simp at h)<;>try (exfalso;omega))|(refine aD ?_;refine ⟨_,_,_,rfl,Wk.refl _,StSub.refl _, ?_,rfl⟩;try first|rfl|((first|(simp;done)|(exfalso;omega));done))|(intros;(try simp only [zql]);omega)))
def mP (c:Cl):Int:=if c.kind≠2∨c.val.kind≠1 then 6 else if c.val.s≠e0∨0<c.parts.length then 1 else if c.val.n< -1099511627776∨c.val.n>1099511627776 then 20 else 0
theorem ajO (n:Int):PF Tryz.prog 176 [(PV.val (Value.int .i64 (n)))] (PV.val (Value.bool (decide (n≥ -1099511627776)&&decide (n≤1099511627776)))):=by
  refine aK aG Tryz.func176 (by kernel_rfl) rfl rfl rfl rfl (fun st=> ?_)
  (try (apply wO pk;exact rfl));(repeat' (first|(show All _;constructor)|(show Imp _ _;constructor)|(show ImpX _ _ _ _;constructor)|(apply wC pk;(iterate 2 exact rfl))|(apply wE pk;(iterate 2 exact rfl))|(apply wX pk;exact rfl)|(apply wN pk;exact rfl)|(apply wD pk [] [];kernel_rfl;exact rfl;exact rfl)|(apply aB;simp only [zqt,zqf])|(refine aC rfl (fun h=> ?_) (fun h=> ?_)<;>(try simp at h)<;>try (exfalso;omega))|(refine aD ?_;refine ⟨_,_,_,rfl,Wk.refl _,StSub.refl _, ?_,rfl⟩;try rfl)|(intros;(try simp only [zql]);omega)))
theorem sR (c:Cl):PF Tryz.prog 134 [.agg c.cells] (PV.val (Value.int .i64 (mP c))):=by
  have hf:=ajO c.val.n
  unfold mP
  by_cases h1:c.kind≠2∨c.val.kind≠1
  · rw [if_pos h1]
    refine aK aG Tryz.func134 (by kernel_rfl) rfl rfl rfl rfl (fun st=> ?_)
    (try (apply wO pk;exact rfl));(repeat' (first|(show All _;constructor)|(show Imp _ _;constructor)|(show ImpX _ _ _ _;constructor)|(apply wC pk;(iterate 2 exact rfl))|(apply wE pk;(iterate 2 exact rfl))|(apply wX pk;exact rfl)|(apply wN pk;exact rfl)|(apply wD pk [] [];kernel_rfl;exact rfl;exact rfl)|(apply aB;simp only [zqt,zqf])|(refine aC rfl (fun h=> ?_) (fun h=> ?_)<;>(try simp at h)<;>try (exfalso;omega))|(refine aD ?_;refine ⟨_,_,_,rfl,Wk.refl _,StSub.refl _, ?_,rfl⟩;try first|rfl|((first|rfl|(exfalso;omega));done))|(apply aL;(iterate 3 exact rfl);(intro _;apply hf<;>first|assumption|omega);rotate_left;(iterate 2 exact rfl))|(intros;(try simp only [zql]);omega)))
  rw [if_neg h1]
  by_cases h2:c.val.s≠e0∨0<c.parts.length
  · rw [if_pos h2]
    refine aK aG Tryz.func134 (by kernel_rfl) rfl rfl rfl rfl (fun st=> ?_)
    (try (apply wO pk;exact rfl));(repeat' (first|(show All _;constructor)|(show Imp _ _;constructor)|(show ImpX _ _ _ _;constructor)|(apply wC pk;(iterate 2 exact rfl))|(apply wE pk;(iterate 2 exact rfl))|(apply wX pk;exact rfl)|(apply wN pk;exact rfl)|(apply wD pk [] [];kernel_rfl;exact rfl;exact rfl)|(apply aB;simp only [zqt,zqf])|(refine aC rfl (fun h=> ?_) (fun h=> ?_)<;>(try simp at h)<;>try (exfalso;omega))|(refine aD ?_;refine ⟨_,_,_,rfl,Wk.refl _,StSub.refl _, ?_,rfl⟩;try first|rfl|((first|rfl|(exfalso;omega)|(exfalso;simp at*;grind));done))|(apply aL;(iterate 3 exact rfl);(intro _;apply hf<;>first|assumption|omega);rotate_left;(iterate 2 exact rfl))|(intros;(try simp only [zql]);omega)))
  rw [if_neg h2]
  by_cases h3:c.val.n< -1099511627776∨c.val.n>1099511627776
  · rw [if_pos h3]
    refine aK aG Tryz.func134 (by kernel_rfl) rfl rfl rfl rfl (fun st=> ?_)
    (try (apply wO pk;exact rfl));(repeat' (first|(show All _;constructor)|(show Imp _ _;constructor)|(show ImpX _ _ _ _;constructor)|(apply wC pk;(iterate 2 exact rfl))|(apply wE pk;(iterate 2 exact rfl))|(apply wX pk;exact rfl)|(apply wN pk;exact rfl)|(apply wD pk [] [];kernel_rfl;exact rfl;exact rfl)|(apply aB;simp only [zqt,zqf])|(refine aC rfl (fun h=> ?_) (fun h=> ?_)<;>(try simp at h)<;>try (exfalso;omega))|(refine aD ?_;refine ⟨_,_,_,rfl,Wk.refl _,StSub.refl _, ?_,rfl⟩;try first|rfl|((first|rfl|(exfalso;omega)|(exfalso;simp at*;grind));done))|(apply aL;(iterate 3 exact rfl);(intro _;apply hf<;>first|assumption|omega);rotate_left;(iterate 2 exact rfl))|(intros;(try simp only [zql]);omega)))
  rw [if_neg h3]
  refine aK aG Tryz.func134 (by kernel_rfl) rfl rfl rfl rfl (fun st=> ?_)
  (try (apply wO pk;exact rfl));(repeat' (first|(show All _;constructor)|(show Imp _ _;constructor)|(show ImpX _ _ _ _;constructor)|(apply wC pk;(iterate 2 exact rfl))|(apply wE pk;(iterate 2 exact rfl))|(apply wX pk;exact rfl)|(apply wN pk;exact rfl)|(apply wD pk [] [];kernel_rfl;exact rfl;exact rfl)|(apply aB;simp only [zqt,zqf])|(refine aC rfl (fun h=> ?_) (fun h=> ?_)<;>(try simp at h)<;>try (exfalso;omega))|(refine aD ?_;refine ⟨_,_,_,rfl,Wk.refl _,StSub.refl _, ?_,rfl⟩;try first|rfl|((first|rfl|(exfalso;omega)|(exfalso;simp at*;grind));done))|(apply aL;(iterate 3 exact rfl);(intro _;apply hf<;>first|assumption|omega);rotate_left;(iterate 2 exact rfl))|(intros;(try simp only [zql]);omega)))
theorem zR (c:Cl):PF Tryz.prog 140 [.seq [c.cells]] (PV.val (Value.int .i64 (mP c))):=by
  have hc:=sR c
  generalize mP c=R at*
  refine aK aG Tryz.func140 (by kernel_rfl) rfl rfl rfl rfl (fun st=> ?_)
  (try (apply wO pk;exact rfl));(repeat' (first|(show All _;constructor)|(show Imp _ _;constructor)|(show ImpX _ _ _ _;constructor)|(apply wC pk;(iterate 2 exact rfl))|(apply wE pk;(iterate 2 exact rfl))|(apply wX pk;exact rfl)|(apply wN pk;exact rfl)|(apply wD pk [] [];kernel_rfl;exact rfl;exact rfl)|(apply aB;simp only [zqt,zqf])|(refine aC rfl (fun h=> ?_) (fun h=> ?_)<;>(try simp at h)<;>try (exfalso;omega))|(refine aD ?_;refine ⟨_,_,_,rfl,Wk.refl _,StSub.refl _, ?_,rfl⟩;try rfl)|(intros;(try simp only [zql]);omega)))
  refine aP (X:={x:Nat//x≤1∧(x=1→R=0)}) (fun i=>((((St.nil 18 st).pv 6 (.seq [c.cells])).pv 7 ((PV.val (Value.int .i64 ((([c.cells]).length:Nat)))))).pv 8 ((PV.val (Value.int .i64 ((i.1:Nat))))))) (fun i=>1-i.1) ⟨0,by omega,by omega⟩ ?_ (fun i=> ?_)
  · ((repeat (first|refine Sub.pv ?_ rfl|refine Sub.var ?_ rfl rfl));exact Sub.nil _ _ _ (StSub.refl _) rfl)
  obtain ⟨i,h1,hinv⟩:=i
  dsimp only
  rcases (show i=0∨i=1 by omega) with rfl|rfl
  · (try (apply wO pk;exact rfl));(repeat' (first|(show All _;constructor)|(show Imp _ _;constructor)|(show ImpX _ _ _ _;constructor)|(apply wC pk;(iterate 2 exact rfl))|(apply wE pk;(iterate 2 exact rfl))|(apply wX pk;exact rfl)|(apply wN pk;exact rfl)|(apply wD pk [] [];kernel_rfl;exact rfl;exact rfl)|(apply aB;simp only [zqt,zqf])|(refine aC rfl (fun h=> ?_) (fun h=> ?_)<;>(try simp at h)<;>try (exfalso;omega))|(refine aD ?_;refine ⟨_,_,_,rfl,Wk.refl _,StSub.refl _, ?_,rfl⟩;try first|rfl|(rfl;done))|(apply aL;(iterate 3 exact rfl);(intro _;apply hc<;>first|assumption|omega);rotate_left;(iterate 2 exact rfl))|(apply bC pk;(iterate 6 exact rfl);rotate_left;exact rfl;(intro hw;exact rfl);(intro hw;apply (rfl:([c.cells]:List (List PV))[0]?=some c.cells)<;>omega);(intro _;exact rfl);exact rfl)|(refine ⟨⟨1,by omega,fun _=>by assumption⟩, ?_,by simp only;omega⟩;((repeat (first|refine Sub.pv ?_ rfl|refine Sub.var ?_ rfl rfl));exact Sub.nil _ _ _ (StSub.refl _) rfl))|(intros;(try simp only [zql]);omega)))
  · have h0:=hinv rfl
    (try (apply wO pk;exact rfl));(repeat' (first|(show All _;constructor)|(show Imp _ _;constructor)|(show ImpX _ _ _ _;constructor)|(apply wC pk;(iterate 2 exact rfl))|(apply wE pk;(iterate 2 exact rfl))|(apply wX pk;exact rfl)|(apply wN pk;exact rfl)|(apply wD pk [] [];kernel_rfl;exact rfl;exact rfl)|(apply aB;simp only [zqt,zqf])|(refine aC rfl (fun h=> ?_) (fun h=> ?_)<;>(try simp at h)<;>try (exfalso;omega))|(refine aD ?_;refine ⟨_,_,_,rfl,Wk.refl _,StSub.refl _, ?_,rfl⟩;try first|rfl|((rw [h0]);done))|(intros;(try simp only [zql]);omega)))
def aiK (c:Cl):Vl:=if mP c=0 then c.val else Vl.zero
theorem afR (c:Cl):PF Tryz.prog 96 [.agg c.cells] (.agg (aiK c).cells):=by
  have hc:=zR c
  unfold aiK
  by_cases h:mP c=0
  · rw [if_pos h]
    rw [h] at hc
    refine aK aG Tryz.func96 (by kernel_rfl) rfl rfl rfl rfl (fun st=> ?_)
    (try (apply wO pk;exact rfl));(repeat' (first|(show All _;constructor)|(show Imp _ _;constructor)|(show ImpX _ _ _ _;constructor)|(apply wC pk;(iterate 2 exact rfl))|(apply wE pk;(iterate 2 exact rfl))|(apply wX pk;exact rfl)|(apply wN pk;exact rfl)|(apply wD pk [] [];kernel_rfl;exact rfl;exact rfl)|(apply aB;simp only [zqt,zqf])|(refine aC rfl (fun h=> ?_) (fun h=> ?_)<;>(try simp at h)<;>try (exfalso;omega))|(refine aD ?_;refine ⟨_,_,_,rfl,Wk.refl _,StSub.refl _, ?_,rfl⟩;try rfl)|(apply aL;(iterate 3 exact rfl);(intro _;apply hc<;>first|assumption|omega);rotate_left;(iterate 2 exact rfl))|(intros;(try simp only [zql]);omega)))
  rw [if_neg h]
  refine aK aG Tryz.func96 (by kernel_rfl) rfl rfl rfl rfl (fun st=> ?_)
  (try (apply wO pk;exact rfl));(repeat' (first|(show All _;constructor)|(show Imp _ _;constructor)|(show ImpX _ _ _ _;constructor)|(apply wC pk;(iterate 2 exact rfl))|(apply wE pk;(iterate 2 exact rfl))|(apply wX pk;exact rfl)|(apply wN pk;exact rfl)|(apply wD pk [] [];kernel_rfl;exact rfl;exact rfl)|(apply aB;simp only [zqt,zqf])|(refine aC rfl (fun h=> ?_) (fun h=> ?_)<;>(try simp at h)<;>try (exfalso;omega))|(refine aD ?_;refine ⟨_,_,_,rfl,Wk.refl _,StSub.refl _, ?_,rfl⟩;try first|rfl|((exfalso;omega);done))|(apply aL;(iterate 3 exact rfl);(intro _;apply hc<;>first|assumption|omega);rotate_left;(iterate 2 exact rfl))|(intros;(try simp only [zql]);omega)))
end Go.Proofs.YtcglimangneafaaGreatDoor
namespace Go.Proofs.YtcglimangneafaaGreatDoor
open Go Go.Abs
attribute [local irreducible] Ev PWp
set_option maxRecDepth 10000
set_option maxHeartbeats 4000000
theorem alH (a b:Dt):PF Tryz.prog 175 [.agg a.cells, .agg b.cells] (PV.val (Value.int .i64 (byD a b))):=by
  have ho:=zK [gY a.dev b.dev,gY a.seq b.seq] (by simp)
  refine aK aG Tryz.func175 (by kernel_rfl) rfl rfl rfl rfl (fun st=> ?_)
  (try (apply wO pk;exact rfl));(repeat' (first|(show All _;constructor)|(show Imp _ _;constructor)|(show ImpX _ _ _ _;constructor)|(apply wC pk;(iterate 2 exact rfl))|(apply wE pk;(iterate 2 exact rfl))|(apply wX pk;exact rfl)|(apply wN pk;exact rfl)|(apply wD pk [] [];kernel_rfl;exact rfl;exact rfl)|(apply aB;simp only [zqt,zqf])|(refine aC rfl (fun h=> ?_) (fun h=> ?_)<;>(try simp at h)<;>try (exfalso;omega))|(refine aD ?_;refine ⟨_,_,_,rfl,Wk.refl _,StSub.refl _, ?_,rfl⟩;try rfl)|(apply aL;(iterate 3 exact rfl);(intro _;(first|apply (gU a.dev b.dev)|apply (gU a.seq b.seq)|apply ho)<;>first|assumption|omega);rotate_left;(iterate 2 exact rfl))|(intros;(try simp only [zql]);omega)))
theorem ahR (a b:Dt):decide (byD a b≥0)= !fE b a:=by
  unfold byD fE gY
  simp only [orI]
  rw [Bool.eq_iff_iff]
  simp only [decide_eq_true_eq,Bool.not_eq_true',Bool.or_eq_false_iff,Bool.and_eq_false_iff,decide_eq_false_iff_not]
  grind
def lY (p:Pt):Prop:=p.at_=0∧p.time=0∧p.after=Dt.zero∧p.afterAt=0∧p.gone=false
instance (p :Pt):Decidable (lY p):=by unfold lY;infer_instance
def kC (d:Dt):Bool:=((decide (1≤d.dev)&&decide (d.dev≤64))&&decide (1≤d.seq))&&decide (d.seq≤1048576)
def gW (p:Pt):Bool:=(decide (lY p)&&fF p.val)&&kC p.dot
def jN (p:Pt):Bool:=(decide (lY p)&&(decide (p.val.kind=1)&&fF p.val))&&kC p.dot
def wI (ok:Pt→Bool) (bh:Pt→Pt→Bool) (l:List Pt):Bool:=(List.range l.length).all fun j=>ok l[j]! &&(decide (j=0)||bh l[j]! l[j-1]!)
theorem aoN {ok:Pt→Bool} {bh:Pt→Pt→Bool} {l:List Pt} {j:Nat} (h:j<l.length) (hf:(ok l[j]&&(decide (j=0)||bh l[j] (l[j-1]'(by omega))))=false):wI ok bh l=false:=by
  unfold wI
  rw [←Bool.not_eq_true,List.all_eq_true]
  intro q
  have:=q j (List.mem_range.2 h)
  rw [getElem!_pos l j h,getElem!_pos l (j-1) (by omega),hf] at this
  cases this
theorem aiN {ok:Pt→Bool} {bh:Pt→Pt→Bool} {l:List Pt} (hf:∀j (h:j<l.length),(ok l[j]&&(decide (j=0)||bh l[j] (l[j-1]'(by omega))))=true):wI ok bh l=true:=by
  unfold wI
  rw [List.all_eq_true]
  intro j hj
  have h:=List.mem_range.1 hj
  rw [getElem!_pos l j h,getElem!_pos l (j-1) (by omega)]
  exact hf j h
def yU (c:Cl):Bool:=decide (c.kind=1∧c.val=Vl.zero)&&wI gW (fun p q=>fE p.dot q.dot) c.parts
def ahA (p:Pt):List PV:=[(PV.val (Value.int .i64 (p.val.n))),(PV.val (Value.int .i64 (p.dot.dev))),(PV.val (Value.int .i64 (p.dot.seq)))]
theorem vT (p:Pt):PF Tryz.prog 177 [.agg p.cells] (.agg (ahA p)):=by
  refine aK aG Tryz.func177 (by kernel_rfl) rfl rfl rfl rfl (fun st=> ?_)
  (try (apply wO pk;exact rfl));(repeat' (first|(show All _;constructor)|(show Imp _ _;constructor)|(show ImpX _ _ _ _;constructor)|(apply wC pk;(iterate 2 exact rfl))|(apply wE pk;(iterate 2 exact rfl))|(apply wX pk;exact rfl)|(apply wN pk;exact rfl)|(apply wD pk [] [];kernel_rfl;exact rfl;exact rfl)|(apply aB;simp only [zqt,zqf])|(refine aC rfl (fun h=> ?_) (fun h=> ?_)<;>(try simp at h)<;>try (exfalso;omega))|(refine aD ?_;refine ⟨_,_,_,rfl,Wk.refl _,StSub.refl _, ?_,rfl⟩;try rfl)|(intros;(try simp only [zql]);omega)))
def ahI (p q:Pt):Int:=orI [gY p.val.n q.val.n,gY p.dot.dev q.dot.dev,gY p.dot.seq q.dot.seq]
theorem asO (p q:Pt):PF Tryz.prog 178 [.agg (ahA p), .agg (ahA q)] (PV.val (Value.int .i64 (ahI p q))):=by
  have ho:=zK [gY p.val.n q.val.n,gY p.dot.dev q.dot.dev,gY p.dot.seq q.dot.seq] (by simp)
  refine aK aG Tryz.func178 (by kernel_rfl) rfl rfl rfl rfl (fun st=> ?_)
  (try (apply wO pk;exact rfl));(repeat' (first|(show All _;constructor)|(show Imp _ _;constructor)|(show ImpX _ _ _ _;constructor)|(apply wC pk;(iterate 2 exact rfl))|(apply wE pk;(iterate 2 exact rfl))|(apply wX pk;exact rfl)|(apply wN pk;exact rfl)|(apply wD pk [] [];kernel_rfl;exact rfl;exact rfl)|(apply aB;simp only [zqt,zqf])|(refine aC rfl (fun h=> ?_) (fun h=> ?_)<;>(try simp at h)<;>try (exfalso;omega))|(refine aD ?_;refine ⟨_,_,_,rfl,Wk.refl _,StSub.refl _, ?_,rfl⟩;try rfl)|(apply aL;(iterate 3 exact rfl);(intro _;(first|apply (gU p.val.n q.val.n)|apply (gU p.dot.dev q.dot.dev)|apply (gU p.dot.seq q.dot.seq)|apply ho)<;>first|assumption|omega);rotate_left;(iterate 2 exact rfl))|(intros;(try simp only [zql]);omega)))
def tD (p q:Pt):Bool:=decide (p.val.n>q.val.n)||(decide (p.val.n=q.val.n)&&fE p.dot q.dot)
theorem axS (p q:Pt):decide (ahI p q≥0)= !tD q p:=by
  unfold ahI tD fE gY
  simp only [orI]
  rw [Bool.eq_iff_iff]
  simp only [decide_eq_true_eq,Bool.not_eq_true',Bool.or_eq_false_iff,Bool.and_eq_false_iff,decide_eq_false_iff_not]
  grind
def zL (c:Cl):Bool:=decide (c.kind=3∧c.val=Vl.zero)&&wI jN tD c.parts
theorem qM {x:Bool} (h:gw x (decide (((0:Nat):Int)>0)) true=true):False:=by
  cases x<;>simp [gw] at h
theorem abG (c:Cl) (hl:c.parts.length<4611686018427387904):PF Tryz.prog 133 [.agg c.cells] (PV.val (Value.bool (yU c))):=by
  unfold yU
  by_cases hk:¬(c.kind=1∧c.val=Vl.zero)
  · rw [decide_eq_false hk,Bool.false_and]
    rw [Vl.ext_iff] at hk
    simp only [Vl.zero] at hk
    refine aK aG Tryz.func133 (by kernel_rfl) rfl rfl rfl rfl (fun st=> ?_)
    (try (apply wO pk;exact rfl));(repeat' (first|((exfalso;grind))|(show All _;constructor)|(show Imp _ _;constructor)|(show ImpX _ _ _ _;constructor)|(apply wC pk;(iterate 2 exact rfl))|(apply wE pk;(iterate 2 exact rfl))|(apply wX pk;exact rfl)|(apply wN pk;exact rfl)|(apply wD pk [] [];kernel_rfl;exact rfl;exact rfl)|(apply aB;simp only [zqt,zqf])|(refine aC rfl (fun h=> ?_) (fun h=> ?_)<;>(try simp at h)<;>try (exfalso;omega))|(refine aD ?_;refine ⟨_,_,_,rfl,Wk.refl _,StSub.refl _, ?_,rfl⟩;try first|rfl|((exfalso;grind);done))|(intros;(try simp only [zql]);omega)))
  replace hk:=Decidable.of_not_not hk
  rw [decide_eq_true hk,Bool.true_and]
  obtain ⟨k1,k2⟩:=hk
  rw [Vl.ext_iff] at k2
  obtain ⟨k2,k3,k4⟩:=k2
  simp only [Vl.zero] at k2 k3 k4
  refine aK aG Tryz.func133 (by kernel_rfl) rfl rfl rfl rfl (fun st=> ?_)
  (try (apply wO pk;exact rfl));(repeat' (first|(show All _;constructor)|(show Imp _ _;constructor)|(show ImpX _ _ _ _;constructor)|(apply wC pk;(iterate 2 exact rfl))|(apply wE pk;(iterate 2 exact rfl))|(apply wX pk;exact rfl)|(apply wN pk;exact rfl)|(apply wD pk [] [];kernel_rfl;exact rfl;exact rfl)|(apply aB;simp only [zqt,zqf])|(refine aC rfl (fun h=> ?_) (fun h=> ?_)<;>(try simp at h)<;>try (exfalso;omega))|(refine aD ?_;refine ⟨_,_,_,rfl,Wk.refl _,StSub.refl _, ?_,rfl⟩;try first|rfl|((exfalso;grind);done))|(intros;(try simp only [zql]);omega)))
  refine aP (X:={x:Nat//x≤c.parts.length∧∀j (h:j<x) (h1:j<c.parts.length),(gW c.parts[j]&&(decide (j=0)||fE c.parts[j].dot (c.parts[j-1]'(by omega)).dot))=true}) (fun i=>(((((St.nil 79 st).var 1 112 (c.cells)).pv 16 (.seq (c.parts.map Pt.cells))).pv 17 ((PV.val (Value.int .i64 (((c.parts.map Pt.cells).length:Nat)))))).pv 18 ((PV.val (Value.int .i64 ((i.1:Nat))))))) (fun i=>c.parts.length-i.1) ⟨0,by omega,fun _ h=>absurd h (Nat.not_lt_zero _)⟩ ?_ (fun i=> ?_)
  · ((repeat (first|refine Sub.pv ?_ rfl|refine Sub.var ?_ rfl rfl));exact Sub.nil _ _ _ (StSub.refl _) rfl)
  obtain ⟨i,hi,hI⟩:=i
  dsimp only
  by_cases hend:c.parts.length≤i
  · have e:=aiN (ok:=gW) (bh:=fun p q=>fE p.dot q.dot) fun j h=>hI j (by omega) h
    (try (apply wO pk;exact rfl));(repeat' (first|(show All _;constructor)|(show Imp _ _;constructor)|(show ImpX _ _ _ _;constructor)|(apply wC pk;(iterate 2 exact rfl))|(apply wE pk;(iterate 2 exact rfl))|(apply wX pk;exact rfl)|(apply wN pk;exact rfl)|(apply wD pk [] [];kernel_rfl;exact rfl;exact rfl)|(apply aB;simp only [zqt,zqf])|(refine aC rfl (fun h=> ?_) (fun h=> ?_)<;>(try simp at h)<;>try (exfalso;omega))|(refine aD ?_;refine ⟨_,_,_,rfl,Wk.refl _,StSub.refl _, ?_,rfl⟩;try first|rfl|((rw [e]);done))|(intros;(try simp only [zql]);omega)))
  have h1:i<c.parts.length:=by omega
  have hF:=aoN (ok:=gW) (bh:=fun p q=>fE p.dot q.dot) h1
  have hS:(gW c.parts[i]&&(decide (i=0)||fE c.parts[i].dot (c.parts[i-1]'(by omega)).dot))=true→∀j (h:j<i+1) (h1:j<c.parts.length),(gW c.parts[j]&&(decide (j=0)||fE c.parts[j].dot (c.parts[j-1]'(by omega)).dot))=true:=fun h j hj h1=>by
    rcases Nat.lt_succ_iff_lt_or_eq.1 hj with q|q
    · exact hI j q h1
    · subst q;exact h
  have hv:=jM c.parts[i].val
  by_cases h0:i=0
  · subst h0
    have hF':¬(gW c.parts[0]=true)→wI gW (fun p q=>fE p.dot q.dot) c.parts=false:=fun h=>hF (by rw [←Bool.not_eq_true];intro q;rw [Bool.and_eq_true] at q;exact h q.1)
    simp only [gW,lY,kC,Dt.ext_iff,Dt.zero,Bool.and_eq_true,decide_eq_true_eq] at hF'
    (try (apply wO pk;exact rfl));(repeat' (first|(show All _;constructor)|(show Imp _ _;constructor)|(show ImpX _ _ _ _;constructor)|(apply wC pk;(iterate 2 exact rfl))|(apply wE pk;(iterate 2 exact rfl))|(apply wX pk;exact rfl)|(apply wN pk;exact rfl)|(apply wD pk [] [];kernel_rfl;exact rfl;exact rfl)|(apply aB;simp only [zqt,zqf])|(refine aC rfl (fun h=> ?_) (fun h=> ?_)<;>(try simp at h)<;>try (exfalso;omega))|(refine aD ?_;refine ⟨_,_,_,rfl,Wk.refl _,StSub.refl _, ?_,rfl⟩;try first|rfl|((first|(rw [hF' (by grind)];done)|(exact absurd (by assumption:c.parts=[]) (List.ne_nil_of_length_pos h1)));done))|(apply aL;(iterate 3 exact rfl);(intro _;(first|apply hv|apply (show PF Tryz.prog 175 [_, .agg c.parts[0].dot.cells] (PV.val (Value.int .i64 (0))) from by rename_i hh;exact (qM hh).elim))<;>first|assumption|omega);rotate_left;(iterate 2 exact rfl))|(apply bC pk;(iterate 6 exact rfl);rotate_left;exact rfl;(first|((intro hw;exact (show _=((0:Nat):Int) from by exact (qM hw).elim));(intro hw;apply aM<;>omega);(intro _;exact rfl))|((intro hw;exact rfl);(intro hw;apply aM<;>omega);(intro _;exact rfl)));exact rfl)|(refine ⟨⟨1,by omega,hS (by simp [gW,lY,kC,Dt.ext_iff,Dt.zero];grind)⟩, ?_,by simp only;omega⟩;((repeat (first|refine Sub.pv ?_ rfl|refine Sub.var ?_ rfl rfl));exact Sub.nil _ _ _ (StSub.refl _) rfl))|(intros;(try simp only [zql]);omega)))
  obtain ⟨k,rfl⟩:∃k,i=k+1:=⟨i-1,by omega⟩
  have hd:=alH c.parts[k].dot c.parts[k+1].dot
  have hb:byD c.parts[k].dot c.parts[k+1].dot≥0↔fE c.parts[k+1].dot c.parts[k].dot=false:=by have:=ahR c.parts[k].dot c.parts[k+1].dot;cases h:fE c.parts[k+1].dot c.parts[k].dot<;>simp [h] at this⊢ <;>omega
  have hF':¬(gW c.parts[k+1]=true∧byD c.parts[k].dot c.parts[k+1].dot<0)→wI gW (fun p q=>fE p.dot q.dot) c.parts=false:=fun h=>hF (by rw [←Bool.not_eq_true];intro q;rw [Bool.and_eq_true] at q;exact h ⟨q.1,by have q2:=q.2;simp at q2;grind⟩)
  simp only [gW,lY,kC,Dt.ext_iff,Dt.zero,Bool.and_eq_true,decide_eq_true_eq] at hF'
  (try (apply wO pk;exact rfl));(repeat' (first|(show All _;constructor)|(show Imp _ _;constructor)|(show ImpX _ _ _ _;constructor)|(apply wC pk;(iterate 2 exact rfl))|(apply wE pk;(iterate 2 exact rfl))|(apply wX pk;exact rfl)|(apply wN pk;exact rfl)|(apply wD pk [] [];kernel_rfl;exact rfl;exact rfl)|(apply aB;simp only [zqt,zqf])|(refine aC rfl (fun h=> ?_) (fun h=> ?_)<;>(try simp at h)<;>try (exfalso;omega))|(refine aD ?_;refine ⟨_,_,_,rfl,Wk.refl _,StSub.refl _, ?_,rfl⟩;try first|rfl|((rw [hF' (by grind)]);done))|(apply aL;(iterate 3 exact rfl);(intro _;(first|apply hv|apply hd)<;>first|assumption|omega);rotate_left;(iterate 2 exact rfl))|(apply bC pk;(iterate 6 exact rfl);rotate_left;exact rfl;(first|((intro hw;exact (show ((((k+1:Nat):Int))-1=((k:Nat):Int)) from by omega));(intro hw;apply aM<;>omega);(intro _;exact rfl))|((intro hw;exact rfl);(intro hw;apply aM<;>omega);(intro _;exact rfl)));exact rfl)|(refine ⟨⟨k+2,by omega,hS (by simp [gW,lY,kC,Dt.ext_iff,Dt.zero];grind)⟩, ?_,by simp only;omega⟩;((repeat (first|refine Sub.pv ?_ rfl|refine Sub.var ?_ rfl rfl));exact Sub.nil _ _ _ (StSub.refl _) rfl))|(intros;(try simp only [zql]);omega)))
theorem aaT (c:Cl) (hl:c.parts.length<4611686018427387904):PF Tryz.prog 135 [.agg c.cells] (PV.val (Value.bool (zL c))):=by
  unfold zL
  by_cases hk:¬(c.kind=3∧c.val=Vl.zero)
  · rw [decide_eq_false hk,Bool.false_and]
    rw [Vl.ext_iff] at hk
    simp only [Vl.zero] at hk
    refine aK aG Tryz.func135 (by kernel_rfl) rfl rfl rfl rfl (fun st=> ?_)
    (try (apply wO pk;exact rfl));(repeat' (first|((exfalso;grind))|(show All _;constructor)|(show Imp _ _;constructor)|(show ImpX _ _ _ _;constructor)|(apply wC pk;(iterate 2 exact rfl))|(apply wE pk;(iterate 2 exact rfl))|(apply wX pk;exact rfl)|(apply wN pk;exact rfl)|(apply wD pk [] [];kernel_rfl;exact rfl;exact rfl)|(apply aB;simp only [zqt,zqf])|(refine aC rfl (fun h=> ?_) (fun h=> ?_)<;>(try simp at h)<;>try (exfalso;omega))|(refine aD ?_;refine ⟨_,_,_,rfl,Wk.refl _,StSub.refl _, ?_,rfl⟩;try first|rfl|((exfalso;grind);done))|(intros;(try simp only [zql]);omega)))
  replace hk:=Decidable.of_not_not hk
  rw [decide_eq_true hk,Bool.true_and]
  obtain ⟨k1,k2⟩:=hk
  rw [Vl.ext_iff] at k2
  obtain ⟨k2,k3,k4⟩:=k2
  simp only [Vl.zero] at k2 k3 k4
  refine aK aG Tryz.func135 (by kernel_rfl) rfl rfl rfl rfl (fun st=> ?_)
  (try (apply wO pk;exact rfl));(repeat' (first|(show All _;constructor)|(show Imp _ _;constructor)|(show ImpX _ _ _ _;constructor)|(apply wC pk;(iterate 2 exact rfl))|(apply wE pk;(iterate 2 exact rfl))|(apply wX pk;exact rfl)|(apply wN pk;exact rfl)|(apply wD pk [] [];kernel_rfl;exact rfl;exact rfl)|(apply aB;simp only [zqt,zqf])|(refine aC rfl (fun h=> ?_) (fun h=> ?_)<;>(try simp at h)<;>try (exfalso;omega))|(refine aD ?_;refine ⟨_,_,_,rfl,Wk.refl _,StSub.refl _, ?_,rfl⟩;try first|rfl|((exfalso;grind);done))|(intros;(try simp only [zql]);omega)))
  refine aP (X:={x:Nat//x≤c.parts.length∧∀j (h:j<x) (h1:j<c.parts.length),(jN c.parts[j]&&(decide (j=0)||tD c.parts[j] (c.parts[j-1]'(by omega))))=true}) (fun i=>(((((St.nil 85 st).var 1 112 (c.cells)).pv 16 (.seq (c.parts.map Pt.cells))).pv 17 ((PV.val (Value.int .i64 (((c.parts.map Pt.cells).length:Nat)))))).pv 18 ((PV.val (Value.int .i64 ((i.1:Nat))))))) (fun i=>c.parts.length-i.1) ⟨0,by omega,fun _ h=>absurd h (Nat.not_lt_zero _)⟩ ?_ (fun i=> ?_)
  · ((repeat (first|refine Sub.pv ?_ rfl|refine Sub.var ?_ rfl rfl));exact Sub.nil _ _ _ (StSub.refl _) rfl)
  obtain ⟨i,hi,hI⟩:=i
  dsimp only
  by_cases hend:c.parts.length≤i
  · have e:=aiN (ok:=jN) (bh:=tD) fun j h=>hI j (by omega) h
    (try (apply wO pk;exact rfl));(repeat' (first|(show All _;constructor)|(show Imp _ _;constructor)|(show ImpX _ _ _ _;constructor)|(apply wC pk;(iterate 2 exact rfl))|(apply wE pk;(iterate 2 exact rfl))|(apply wX pk;exact rfl)|(apply wN pk;exact rfl)|(apply wD pk [] [];kernel_rfl;exact rfl;exact rfl)|(apply aB;simp only [zqt,zqf])|(refine aC rfl (fun h=> ?_) (fun h=> ?_)<;>(try simp at h)<;>try (exfalso;omega))|(refine aD ?_;refine ⟨_,_,_,rfl,Wk.refl _,StSub.refl _, ?_,rfl⟩;try first|rfl|((rw [e]);done))|(intros;(try simp only [zql]);omega)))
  have h1:i<c.parts.length:=by omega
  have hF:=aoN (ok:=jN) (bh:=tD) h1
  have hS:(jN c.parts[i]&&(decide (i=0)||tD c.parts[i] (c.parts[i-1]'(by omega))))=true→∀j (h:j<i+1) (h1:j<c.parts.length),(jN c.parts[j]&&(decide (j=0)||tD c.parts[j] (c.parts[j-1]'(by omega))))=true:=fun h j hj h1=>by
    rcases Nat.lt_succ_iff_lt_or_eq.1 hj with q|q
    · exact hI j q h1
    · subst q;exact h
  have hv:=jM c.parts[i].val
  by_cases h0:i=0
  · subst h0
    have hof:=vT c.parts[0]
    have hF':¬(jN c.parts[0]=true)→wI jN (tD) c.parts=false:=fun h=>hF (by rw [←Bool.not_eq_true];intro q;rw [Bool.and_eq_true] at q;exact h q.1)
    simp only [jN,lY,kC,Dt.ext_iff,Dt.zero,Bool.and_eq_true,decide_eq_true_eq] at hF'
    (try (apply wO pk;exact rfl));(repeat' (first|(show All _;constructor)|(show Imp _ _;constructor)|(show ImpX _ _ _ _;constructor)|(apply wC pk;(iterate 2 exact rfl))|(apply wE pk;(iterate 2 exact rfl))|(apply wX pk;exact rfl)|(apply wN pk;exact rfl)|(apply wD pk [] [];kernel_rfl;exact rfl;exact rfl)|(apply aB;simp only [zqt,zqf])|(refine aC rfl (fun h=> ?_) (fun h=> ?_)<;>(try simp at h)<;>try (exfalso;omega))|(refine aD ?_;refine ⟨_,_,_,rfl,Wk.refl _,StSub.refl _, ?_,rfl⟩;try first|rfl|((first|(rw [hF' (by grind)];done)|(exact absurd (by assumption:c.parts=[]) (List.ne_nil_of_length_pos h1)));done))|(apply aL;(iterate 3 exact rfl);(intro _;(first|apply hv|apply hof|apply (show PF Tryz.prog 178 [_,_] (PV.val (Value.int .i64 (0))) from by rename_i hh;exact (qM hh).elim))<;>first|assumption|omega);rotate_left;(iterate 2 exact rfl))|(apply bC pk;(iterate 6 exact rfl);rotate_left;exact rfl;(first|((intro hw;exact (show _=((0:Nat):Int) from by exact (qM hw).elim));(intro hw;apply aM<;>omega);(intro _;exact rfl))|((intro hw;exact rfl);(intro hw;apply aM<;>omega);(intro _;exact rfl)));exact rfl)|(refine ⟨⟨1,by omega,hS (by simp [jN,lY,kC,Dt.ext_iff,Dt.zero];grind)⟩, ?_,by simp only;omega⟩;((repeat (first|refine Sub.pv ?_ rfl|refine Sub.var ?_ rfl rfl));exact Sub.nil _ _ _ (StSub.refl _) rfl))|(intros;(try simp only [zql]);omega)))
  obtain ⟨k,rfl⟩:∃k,i=k+1:=⟨i-1,by omega⟩
  have hd1:=vT c.parts[k]
  have hd2:=vT c.parts[k+1]
  have hd:=asO c.parts[k] c.parts[k+1]
  have hb:ahI c.parts[k] c.parts[k+1]≥0↔tD c.parts[k+1] c.parts[k]=false:=by have:=axS c.parts[k] c.parts[k+1];cases h:tD c.parts[k+1] c.parts[k]<;>simp [h] at this⊢ <;>omega
  have hF':¬(jN c.parts[k+1]=true∧ahI c.parts[k] c.parts[k+1]<0)→wI jN (tD) c.parts=false:=fun h=>hF (by rw [←Bool.not_eq_true];intro q;rw [Bool.and_eq_true] at q;exact h ⟨q.1,by have q2:=q.2;simp at q2;grind⟩)
  simp only [jN,lY,kC,Dt.ext_iff,Dt.zero,Bool.and_eq_true,decide_eq_true_eq] at hF'
  (try (apply wO pk;exact rfl));(repeat' (first|(show All _;constructor)|(show Imp _ _;constructor)|(show ImpX _ _ _ _;constructor)|(apply wC pk;(iterate 2 exact rfl))|(apply wE pk;(iterate 2 exact rfl))|(apply wX pk;exact rfl)|(apply wN pk;exact rfl)|(apply wD pk [] [];kernel_rfl;exact rfl;exact rfl)|(apply aB;simp only [zqt,zqf])|(refine aC rfl (fun h=> ?_) (fun h=> ?_)<;>(try simp at h)<;>try (exfalso;omega))|(refine aD ?_;refine ⟨_,_,_,rfl,Wk.refl _,StSub.refl _, ?_,rfl⟩;try first|rfl|((rw [hF' (by grind)]);done))|(apply aL;(iterate 3 exact rfl);(intro _;(first|apply hv|apply hd1|apply hd2|apply hd)<;>first|assumption|omega);rotate_left;(iterate 2 exact rfl))|(apply bC pk;(iterate 6 exact rfl);rotate_left;exact rfl;(first|((intro hw;exact (show ((((k+1:Nat):Int))-1=((k:Nat):Int)) from by omega));(intro hw;apply aM<;>omega);(intro _;exact rfl))|((intro hw;exact rfl);(intro hw;apply aM<;>omega);(intro _;exact rfl)));exact rfl)|(refine ⟨⟨k+2,by omega,hS (by simp [jN,lY,kC,Dt.ext_iff,Dt.zero];grind)⟩, ?_,by simp only;omega⟩;((repeat (first|refine Sub.pv ?_ rfl|refine Sub.var ?_ rfl rfl));exact Sub.nil _ _ _ (StSub.refl _) rfl))|(intros;(try simp only [zql]);omega)))
end Go.Proofs.YtcglimangneafaaGreatDoor
