import Derived.Test.YtcglimangneafaaGreatDoorCkR2
import Derived.Test.YtcglimangneafaaGreatDoorBsRSch
set_option linter.unusedSimpArgs false
set_option linter.unusedVariables false
namespace Go.Proofs.YtcglimangneafaaGreatDoor
open Go Go.Abs
attribute [local irreducible] Ev PWp
set_option maxRecDepth 10000
set_option maxHeartbeats 4000000
theorem agK (t:Tb) (r:List Vl) (hc:t.cols.length<1000000000000000) (hr:r.length<1000000000000000):PF Tryz.prog 71 [.seq (t.cols.map Co.cells), .seq (r.map Vl.cells)] (PV.val (Value.int .i64 (dE t r))):=by
  unfold dE
  by_cases hl:¬t.cols.length=r.length
  · rw [if_neg hl]
    refine aH aD Tryz.func71 (by kernel_rfl) rfl rfl rfl rfl (fun st=> ?_)
    (try (apply wO pk;exact rfl));(repeat' (first|(show All _;constructor)|(apply wC pk;(iterate 2 exact rfl))|(refine aA rfl (fun h=> ?_) (fun h=> ?_)<;>(try simp at h)<;>try (exfalso;omega))|(refine aB ?_;refine ⟨_,_,_,rfl,Wk.refl _,StSub.refl _, ?_,rfl⟩;try first|rfl|((fail);done))))
  replace hl:=Decidable.of_not_not hl
  rw [if_pos hl]
  refine aH aD Tryz.func71 (by kernel_rfl) rfl rfl rfl rfl (fun st=> ?_)
  focus ((try (apply wO pk;exact rfl));(repeat' (first|(show All _;constructor)|(apply wC pk;(iterate 2 exact rfl))|(refine aA rfl (fun h=> ?_) (fun h=> ?_)<;>(try simp at h)<;>try (exfalso;omega)))))
  refine aJ (X:={x:Nat//x≤r.length∧∀j<x,lW t.cols[j]! r[j]! =0}) (fun i=>((((St.nil 62 st).pv 0 (.seq (t.cols.map Co.cells))).pv 1 (.seq (r.map Vl.cells))).pv 5 ((PV.val (Value.int .i64 ((i.1:Nat))))))) (fun i=>r.length-i.1) ⟨0,by omega,by omega⟩ ?_ (fun i=> ?_)
  · ((repeat (refine Sub.pv ?_ rfl));exact Sub.nil _ _ _ (StSub.refl _) rfl)
  obtain ⟨i,hi,hI⟩:=i
  dsimp only
  by_cases hend:r.length≤i
  · have e:cC (fun k=>lW t.cols[k]! r[k]!) (List.range r.length)=0:=nE fun j hj=>hI j (by omega)
    (try (apply wO pk;exact rfl));(repeat' (first|(show All _;constructor)|(apply wC pk;(iterate 2 exact rfl))|(refine aA rfl (fun h=> ?_) (fun h=> ?_)<;>(try simp at h)<;>try (exfalso;omega))|(refine aB ?_;refine ⟨_,_,_,rfl,Wk.refl _,StSub.refl _, ?_,rfl⟩;try first|rfl|((rw [e]);done))))
  have hil:i<r.length:=by omega
  have hic:i<t.cols.length:=by omega
  have hv:=iF r[i]
  have hk:=acM t.cols[i]
  have e:=uJ (f:=fun k=>lW t.cols[k]! r[k]!) hil hI
  have hu:lW t.cols[i] r[i]=0→∀j<i+1,lW t.cols[j]! r[j]! =0:=fun h j hj=>by
    rcases Nat.lt_succ_iff_lt_or_eq.1 hj with q|q
    · exact hI j q
    · subst q;rw [getElem!_pos t.cols j hic,getElem!_pos r j hil];exact h
  simp only [getElem!_pos t.cols i hic,getElem!_pos r i hil] at e
  have hd:lW t.cols[i] r[i]=if eD r[i]=false then 1 else if r[i].kind=0∧(t.cols[i].kind=0∨t.cols[i].kind=1)∧t.cols[i].null=false then 7 else if r[i].kind≠0∧r[i].kind≠bK t.cols[i] then 6 else 0:=rfl
  generalize lW t.cols[i] r[i]=E at*
  generalize eD r[i]=A at*
  generalize bK t.cols[i]=K at*
  cases A with
  |false=>
    rw [if_pos rfl] at hd
    have e:=e (by omega)
    rw [hd] at e
    (try (apply wO pk;exact rfl));(repeat' (first|(show All _;constructor)|(show Imp _ _;constructor)|(apply wC pk;(iterate 2 exact rfl))|(apply wE pk;(iterate 2 exact rfl))|(refine aA rfl (fun h=> ?_) (fun h=> ?_)<;>(try simp at h)<;>try (exfalso;omega))|(refine aB ?_;refine ⟨_,_,_,rfl,Wk.refl _,StSub.refl _, ?_,rfl⟩;try first|rfl|((rw [e]);done))|(apply aI;(iterate 3 exact rfl);(intro _;(apply hv)<;>first|assumption|omega);rotate_left;(iterate 2 exact rfl))|(apply aM pk;(iterate 6 exact rfl);rotate_left;exact rfl;(intro hw;exact rfl);(intro hw;apply aF<;>omega);(intro _;exact rfl);exact rfl)))
  |true=>
    rw [if_neg (by simp)] at hd
    by_cases h0:r[i].kind=0
    · by_cases h1:(t.cols[i].kind=0∨t.cols[i].kind=1)∧t.cols[i].null=false
      · rw [if_pos ⟨h0,h1⟩] at hd
        have e:=e (by omega)
        rw [hd] at e
        have h2:t.cols[i].kind≥0∧t.cols[i].kind≤1:=by omega
        have h3:=h1.2
        (try (apply wO pk;exact rfl));(repeat' (first|(show All _;constructor)|(show Imp _ _;constructor)|(show ImpX _ _ _ _;constructor)|(apply wC pk;(iterate 2 exact rfl))|(apply wE pk;(iterate 2 exact rfl))|(refine aA rfl (fun h=> ?_) (fun h=> ?_)<;>(try simp at h)<;>try (exfalso;omega))|(refine aB ?_;refine ⟨_,_,_,rfl,Wk.refl _,StSub.refl _, ?_,rfl⟩;try first|rfl|((rw [e]);done))|(apply aI;(iterate 3 exact rfl);(intro _;(apply hv)<;>first|assumption|omega);rotate_left;(iterate 2 exact rfl))|(apply aM pk;(iterate 6 exact rfl);rotate_left;exact rfl;(intro hw;exact rfl);(intro hw;apply aF<;>omega);(intro _;exact rfl);exact rfl)|(intros;(try simp only [zql]);omega)|((exfalso;have q:=h h2.1 h2.2;rw [h3] at q;cases q))))
      · rw [if_neg (fun q=>h1 q.2),if_neg (fun q=>q.1 h0)] at hd
        have hu:=hu hd
        have h2:t.cols[i].null=false→¬(t.cols[i].kind≥0∧t.cols[i].kind≤1):=fun q z=>h1 ⟨by omega,q⟩
        (try (apply wO pk;exact rfl));(repeat' (first|(show All _;constructor)|(show Imp _ _;constructor)|(show ImpX _ _ _ _;constructor)|(apply wC pk;(iterate 2 exact rfl))|(apply wE pk;(iterate 2 exact rfl))|(refine aA rfl (fun h=> ?_) (fun h=> ?_)<;>(try simp at h)<;>try (exfalso;omega))|(refine aB ?_;refine ⟨_,_,_,rfl,Wk.refl _,StSub.refl _, ?_,rfl⟩;try rfl)|(apply aI;(iterate 3 exact rfl);(intro _;(apply hv)<;>first|assumption|omega);rotate_left;(iterate 2 exact rfl))|(apply aM pk;(iterate 6 exact rfl);rotate_left;exact rfl;(intro hw;exact rfl);(intro hw;apply aF<;>omega);(intro _;exact rfl);exact rfl)|(refine ⟨⟨i+1,by omega,hu⟩, ?_,by simp only;omega⟩;((repeat (refine Sub.pv ?_ rfl));exact Sub.nil _ _ _ (StSub.refl _) rfl))|(intros;(try simp only [zql]);omega)|((exfalso;simp at*;grind))))
    · rw [if_neg (fun q=>h0 q.1)] at hd
      by_cases h1:r[i].kind=K
      · rw [if_neg (fun q=>q.2 h1)] at hd
        have hu:=hu hd
        (try (apply wO pk;exact rfl));(repeat' (first|(show All _;constructor)|(show Imp _ _;constructor)|(apply wC pk;(iterate 2 exact rfl))|(apply wE pk;(iterate 2 exact rfl))|(apply wD pk [] [];kernel_rfl;exact rfl;exact rfl)|(refine aA rfl (fun h=> ?_) (fun h=> ?_)<;>(try simp at h)<;>try (exfalso;omega))|(apply aI;(iterate 3 exact rfl);(intro _;(first|apply hv|apply hk)<;>first|assumption|omega);rotate_left;(iterate 2 exact rfl))|(apply aM pk;(iterate 6 exact rfl);rotate_left;exact rfl;(intro hw;exact rfl);(intro hw;apply aF<;>omega);(intro _;exact rfl);exact rfl)|(refine ⟨⟨i+1,by omega,hu⟩, ?_,by simp only;omega⟩;((repeat (refine Sub.pv ?_ rfl));exact Sub.nil _ _ _ (StSub.refl _) rfl))|(intros;(try simp only [zql]);omega)))
      · rw [if_pos ⟨h0,h1⟩] at hd
        have e:=e (by omega)
        rw [hd] at e
        (try (apply wO pk;exact rfl));(repeat' (first|(show All _;constructor)|(show Imp _ _;constructor)|(apply wC pk;(iterate 2 exact rfl))|(apply wE pk;(iterate 2 exact rfl))|(apply wD pk [] [];kernel_rfl;exact rfl;exact rfl)|(refine aA rfl (fun h=> ?_) (fun h=> ?_)<;>(try simp at h)<;>try (exfalso;omega))|(refine aB ?_;refine ⟨_,_,_,rfl,Wk.refl _,StSub.refl _, ?_,rfl⟩;try first|rfl|((rw [e]);done))|(apply aI;(iterate 3 exact rfl);(intro _;(first|apply hv|apply hk)<;>first|assumption|omega);rotate_left;(iterate 2 exact rfl))|(apply aM pk;(iterate 6 exact rfl);rotate_left;exact rfl;(intro hw;exact rfl);(intro hw;apply aF<;>omega);(intro _;exact rfl);exact rfl)))
variable (t:Tb) (rows:List (List Vl)) (b:Bs)
theorem abR (hc:t.cols.length<1000000000000000) (hl:rows.length<1000000000000000) (hr:∀r∈rows,r.length<1000000000000000):PF Tryz.prog 42 [.agg t.cells, .seq (rows.map roC),(PV.val (Value.bool (false)))] (PV.val (Value.int .i64 (cC (dE t) rows))):=by
  refine aH aD Tryz.func42 (by kernel_rfl) rfl rfl rfl rfl (fun st=> ?_)
  focus ((try (apply wO pk;exact rfl));(repeat' ((show All _;constructor))))
  refine aJ (X:={x:Nat//x≤rows.length∧∀j (h:j<rows.length),j<x→dE t rows[j]=0}) (fun i=>(((((St.nil 61 st).pv 1 (.seq (rows.map roC))).pv 2 ((PV.val (Value.bool (false))))).var 3 43 (t.cells)).pv 7 ((PV.val (Value.int .i64 ((i.1:Nat))))))) (fun i=>rows.length-i.1) ⟨0,by omega,by omega⟩ ?_ (fun i=> ?_)
  · ((repeat (first|refine Sub.pv ?_ rfl|refine Sub.var ?_ rfl rfl));exact Sub.nil _ _ _ (StSub.refl _) rfl)
  obtain ⟨i,hi,hI⟩:=i
  dsimp only
  by_cases hend:rows.length≤i
  · have e:cC (dE t) rows=0:=eB fun j hj=>hI j hj (by omega)
    (try (apply wO pk;exact rfl));(repeat' (first|(show All _;constructor)|(apply wC pk;(iterate 2 exact rfl))|(refine aA rfl (fun h=> ?_) (fun h=> ?_)<;>(try simp at h)<;>try (exfalso;omega))|(refine aB ?_;refine ⟨_,_,_,rfl,Wk.refl _,StSub.refl _, ?_,rfl⟩;try first|rfl|((rw [e]);done))))
  have hil:i<rows.length:=by omega
  have hk:=agK t rows[i] hc (hr _ (List.getElem_mem hil))
  have e:=gO hI hil
  have hu:=gN hI hil
  generalize dE t rows[i]=E at*
  (try (apply wO pk;exact rfl));(repeat' (first|(show All _;constructor)|(show Imp _ _;constructor)|(apply wC pk;(iterate 2 exact rfl))|(apply wE pk;(iterate 2 exact rfl))|(apply wD pk [] [];kernel_rfl;exact rfl;exact rfl)|(refine aA rfl (fun h=> ?_) (fun h=> ?_)<;>(try simp at h)<;>try (exfalso;omega))|(refine aB ?_;refine ⟨_,_,_,rfl,Wk.refl _,StSub.refl _, ?_,rfl⟩;try first|rfl|((rw [e (by assumption)]);done))|(apply aI;(iterate 3 exact rfl);(intro _;apply hk<;>first|assumption|omega);rotate_left;(iterate 2 exact rfl))|(apply aM pk;(iterate 6 exact rfl);rotate_left;exact rfl;(intro hw;exact rfl);(intro hw;apply aF<;>omega);(intro _;exact rfl);exact rfl)|(refine ⟨⟨i+1,by omega,hu (by assumption)⟩, ?_,by simp only;omega⟩;((repeat (first|refine Sub.pv ?_ rfl|refine Sub.var ?_ rfl rfl));exact Sub.nil _ _ _ (StSub.refl _) rfl))|(intros;(try simp only [zql]);omega)))
theorem abS (hl:rows.length<1000000000000000) (hx:t.checks.length<1000000000000000) (hk:mB t) (hr:∀r∈rows,r.length<1000000000000000∧∀v∈r,X.rightV v=true):PF Tryz.prog 42 [.agg t.cells, .seq (rows.map roC),(PV.val (Value.bool (true)))] (PV.val (Value.int .i64 (cC (exR t) rows))):=by
  refine aH aD Tryz.func42 (by kernel_rfl) rfl rfl rfl rfl (fun st=> ?_)
  focus ((try (apply wO pk;exact rfl));(repeat' ((show All _;constructor))))
  refine aJ (X:={x:Nat//x≤rows.length∧∀j (h:j<rows.length),j<x→exR t rows[j]=0}) (fun i=>(((((St.nil 61 st).pv 1 (.seq (rows.map roC))).pv 2 ((PV.val (Value.bool (true))))).var 3 43 (t.cells)).pv 7 ((PV.val (Value.int .i64 ((i.1:Nat))))))) (fun i=>rows.length-i.1) ⟨0,by omega,by omega⟩ ?_ (fun i=> ?_)
  · ((repeat (first|refine Sub.pv ?_ rfl|refine Sub.var ?_ rfl rfl));exact Sub.nil _ _ _ (StSub.refl _) rfl)
  obtain ⟨i,hi,hI⟩:=i
  dsimp only
  by_cases hend:rows.length≤i
  · have e:cC (exR t) rows=0:=eB fun j hj=>hI j hj (by omega)
    (try (apply wO pk;exact rfl));(repeat' (first|(show All _;constructor)|(apply wC pk;(iterate 2 exact rfl))|(refine aA rfl (fun h=> ?_) (fun h=> ?_)<;>(try simp at h)<;>try (exfalso;omega))|(refine aB ?_;refine ⟨_,_,_,rfl,Wk.refl _,StSub.refl _, ?_,rfl⟩;try first|rfl|((rw [e]);done))))
  have hil:i<rows.length:=by omega
  obtain ⟨hr1,hr2⟩:=hr _ (List.getElem_mem hil)
  have e:=gO hI hil
  have hu:=gN hI hil
  focus ((try (apply wO pk;exact rfl));(repeat' (first|(show All _;constructor)|(apply wC pk;(iterate 2 exact rfl))|(refine aA rfl (fun h=> ?_) (fun h=> ?_)<;>(try simp at h)<;>try (exfalso;omega)))))
  refine aJ (X:={x:Nat//x≤t.checks.length∧∀j (h:j<t.checks.length),j<x→chE (X.EvalR (exOf t.checks[j]) rows[i])=0}) (fun y=>((((((St.nil 61 st).pv 1 (.seq (rows.map roC))).pv 2 ((PV.val (Value.bool (true))))).var 3 43 (t.cells)).pv 7 ((PV.val (Value.int .i64 ((i:Nat)))))).pv 9 ((PV.val (Value.int .i64 ((y.1:Nat))))))) (fun y=>t.checks.length-y.1) ⟨0,by omega,by omega⟩ ?_ (fun y=> ?_)
  · ((repeat (first|refine Sub.pv ?_ rfl|refine Sub.var ?_ rfl rfl));exact Sub.nil _ _ _ (StSub.refl _) rfl)
  obtain ⟨y,hy,hyI⟩:=y
  dsimp only
  by_cases hend2:t.checks.length≤y
  · have e2:exR t rows[i]=0:=eB fun j hj=>hyI j hj (by omega)
    (try (apply wO pk;exact rfl));(repeat' (first|(show All _;constructor)|(apply wC pk;(iterate 2 exact rfl))|(refine aA rfl (fun h=> ?_) (fun h=> ?_)<;>(try simp at h)<;>try (exfalso;omega))|(refine ⟨⟨i+1,by omega,hu e2⟩, ?_,by simp only;omega⟩;((repeat (first|refine Sub.pv ?_ rfl|refine Sub.var ?_ rfl rfl));exact Sub.nil _ _ _ (StSub.refl _) rfl))|(intros;(try simp only [zql]);omega)))
  have hyl:y<t.checks.length:=by omega
  obtain ⟨hok,hcc⟩:=nN (hk _ (List.getElem_mem hyl))
  have he:=gO (f:=fun c=>chE (X.EvalR (exOf c) rows[i])) hyI hyl
  have hyu:=gN (f:=fun c=>chE (X.EvalR (exOf c) rows[i])) hyI hyl
  change chE _≠0→exR t rows[i]=chE _ at he
  change chE (X.EvalR (exOf t.checks[y]) rows[i])=0→_ at hyu
  have hE:=X.rEval_spec hok (by omega) hr2
  rw [X.Ex.lit_eq] at hE
  have hrv:=X.Eval_right (e:=exOf t.checks[y]) hr2
  have hget:t.checks[y]?=some (exOf t.checks[y]).cells:=by rw [hcc,List.getElem?_eq_getElem hyl]
  generalize X.EvalR (exOf t.checks[y]) rows[i]=p at*
  generalize exOf t.checks[y]=x at*
  obtain ⟨xk,xn,xv,xo⟩:=x
  obtain ⟨v,pe⟩:=p
  have hc9:=amC (e:=pe) hrv
  have hfin:chE (v,pe)≠0→cC (exR t) rows=chE (v,pe):=fun h=>by
    have:=he h
    rw [e (by rw [this];exact h),this]
  obtain ⟨v1,v2,v3⟩:=v
  by_cases h1:pe=0
  · by_cases h2:v1=1∧v2=0
    · rw [if_pos h1,if_pos h2] at hc9
      rw [hc9] at hfin
      have hf:=hfin (by decide)
      obtain ⟨rfl,rfl⟩:=h2
      (try (apply wO pk;exact rfl));(repeat' (first|(show All _;constructor)|(show Imp _ _;constructor)|(show ImpX _ _ _ _;constructor)|(apply wC pk;(iterate 2 exact rfl))|(apply wE pk;(iterate 2 exact rfl))|(apply wD pk [] [];kernel_rfl;exact rfl;exact rfl)|(refine aA rfl (fun h=> ?_) (fun h=> ?_)<;>(try simp at h)<;>try (exfalso;omega))|(refine aB ?_;refine ⟨_,_,_,rfl,Wk.refl _,StSub.refl _, ?_,rfl⟩;try first|rfl|((rw [hf]);done))|(apply aI;(iterate 3 exact rfl);(intro _;apply hE<;>first|assumption|omega);rotate_left;(iterate 2 exact rfl))|(apply aM pk;(iterate 6 exact rfl);rotate_left;exact rfl;(first|((intro hw;exact rfl);(intro hw;apply aF<;>omega);(intro _;exact rfl))|((intro hw;exact rfl);(intro hw;apply hget<;>omega);(intro _;exact rfl)));exact rfl)))
    · rw [if_pos h1,if_neg h2] at hc9
      have hw:=hyu hc9
      (try (apply wO pk;exact rfl));(repeat' (first|(show All _;constructor)|(show Imp _ _;constructor)|(show ImpX _ _ _ _;constructor)|(apply wC pk;(iterate 2 exact rfl))|(apply wE pk;(iterate 2 exact rfl))|(apply wD pk [] [];kernel_rfl;exact rfl;exact rfl)|(refine aA rfl (fun h=> ?_) (fun h=> ?_)<;>(try simp at h)<;>try (exfalso;omega))|(apply aI;(iterate 3 exact rfl);(intro _;apply hE<;>first|assumption|omega);rotate_left;(iterate 2 exact rfl))|(apply aM pk;(iterate 6 exact rfl);rotate_left;exact rfl;(first|((intro hw;exact rfl);(intro hw;apply aF<;>omega);(intro _;exact rfl))|((intro hw;exact rfl);(intro hw;apply hget<;>omega);(intro _;exact rfl)));exact rfl)|(refine ⟨⟨y+1,by omega,hw⟩, ?_,by simp only;omega⟩;((repeat (first|refine Sub.pv ?_ rfl|refine Sub.var ?_ rfl rfl));exact Sub.nil _ _ _ (StSub.refl _) rfl))|(intros;(try simp only [zql]);omega)))
  · rw [if_neg h1] at hc9
    rw [hc9] at hfin
    have hf:=hfin h1
    (try (apply wO pk;exact rfl));(repeat' (first|(show All _;constructor)|(show Imp _ _;constructor)|(apply wC pk;(iterate 2 exact rfl))|(apply wE pk;(iterate 2 exact rfl))|(apply wD pk [] [];kernel_rfl;exact rfl;exact rfl)|(refine aA rfl (fun h=> ?_) (fun h=> ?_)<;>(try simp at h)<;>try (exfalso;omega))|(refine aB ?_;refine ⟨_,_,_,rfl,Wk.refl _,StSub.refl _, ?_,rfl⟩;try first|rfl|((rw [hf]);done))|(apply aI;(iterate 3 exact rfl);(intro _;apply hE<;>first|assumption|omega);rotate_left;(iterate 2 exact rfl))|(apply aM pk;(iterate 6 exact rfl);rotate_left;exact rfl;(first|((intro hw;exact rfl);(intro hw;apply aF<;>omega);(intro _;exact rfl))|((intro hw;exact rfl);(intro hw;apply hget<;>omega);(intro _;exact rfl)));exact rfl)))
theorem adB (hl:rows.length<1000000000000000) (hu:t.unique.length<1000000000000000) (hr:∀u∈t.unique,0≤u∧∀r∈rows,u<r.length):PF Tryz.prog 43 [.agg t.cells, .seq (rows.map roC)] (PV.val (Value.bool (!fW t rows))):=by
  have hyes:=acB (t:=t) (rows:=rows)
  have hno:=fun j k hj h=>ajZ (t:=t) (rows:=rows) (j:=j) (k:=k) hj h
  generalize fW t rows=B at*
  refine aH aD Tryz.func43 (by kernel_rfl) rfl rfl rfl rfl (fun st=> ?_)
  focus ((try (apply wO pk;exact rfl));(repeat' ((show All _;constructor))))
  refine aJ (X:={x:Nat//x≤t.unique.length∧∀j (h:j<t.unique.length),j<x→pwU t.unique[j].toNat rows}) (fun i=>((((St.nil 65 st).pv 1 (.seq (rows.map roC))).var 2 43 (t.cells)).pv 5 ((PV.val (Value.int .i64 ((i.1:Nat))))))) (fun i=>t.unique.length-i.1) ⟨0,by omega,by omega⟩ ?_ (fun i=> ?_)
  · ((repeat (first|refine Sub.pv ?_ rfl|refine Sub.var ?_ rfl rfl));exact Sub.nil _ _ _ (StSub.refl _) rfl)
  obtain ⟨i,hi,hI⟩:=i
  dsimp only
  by_cases hend:t.unique.length≤i
  · have e:B=true:=hyes fun j hj=>hI j hj (by omega)
    (try (apply wO pk;exact rfl));(repeat' (first|(show All _;constructor)|(apply wC pk;(iterate 2 exact rfl))|(refine aA rfl (fun h=> ?_) (fun h=> ?_)<;>(try simp at h)<;>try (exfalso;omega))|(refine aB ?_;refine ⟨_,_,_,rfl,Wk.refl _,StSub.refl _, ?_,rfl⟩;try first|rfl|((rw [e];rfl);done))))
  have hil:i<t.unique.length:=by omega
  obtain ⟨hu0,hur⟩:=hr _ (List.getElem_mem hil)
  have hno:=fun k=>hno i k hil
  have hup:pwU t.unique[i].toNat rows→∀j (h:j<t.unique.length),j<i+1→pwU t.unique[j].toNat rows:=fun h j hj hji=>by
    rcases Nat.lt_succ_iff_lt_or_eq.1 hji with q|q
    · exact hI j hj q
    · subst q;exact h
  obtain ⟨u,hu⟩:∃u:Nat,t.unique[i]=(u:Int):=⟨t.unique[i].toNat,by omega⟩
  have hto:t.unique[i].toNat=u:=by omega
  rw [hto] at hno hup
  focus ((try (apply wO pk;exact rfl));(repeat' (first|(show All _;constructor)|(apply wC pk;(iterate 2 exact rfl))|(refine aA rfl (fun h=> ?_) (fun h=> ?_)<;>(try simp at h)<;>try (exfalso;omega)))))
  refine aJ (X:={x:Nat//x≤rows.length∧pwU u (rows.take x)}) (fun y=>(((((St.nil 65 st).pv 1 (.seq (rows.map roC))).var 2 43 (t.cells)).pv 5 ((PV.val (Value.int .i64 ((i:Nat)))))).pv 6 ((PV.val (Value.int .i64 ((y.1:Nat))))))) (fun y=>rows.length-y.1) ⟨0,by omega,by unfold pwU;simp⟩ ?_ (fun y=> ?_)
  · ((repeat (first|refine Sub.pv ?_ rfl|refine Sub.var ?_ rfl rfl));exact Sub.nil _ _ _ (StSub.refl _) rfl)
  obtain ⟨y,hy,hyI⟩:=y
  dsimp only
  by_cases hend2:rows.length≤y
  · rw [List.take_of_length_le hend2] at hyI
    (try (apply wO pk;exact rfl));(repeat' (first|(show All _;constructor)|(apply wC pk;(iterate 2 exact rfl))|(refine aA rfl (fun h=> ?_) (fun h=> ?_)<;>(try simp at h)<;>try (exfalso;omega))|(refine ⟨⟨i+1,by omega,hup hyI⟩, ?_,by simp only;omega⟩;((repeat (first|refine Sub.pv ?_ rfl|refine Sub.var ?_ rfl rfl));exact Sub.nil _ _ _ (StSub.refl _) rfl))|(intros;(try simp only [zql]);omega)))
  have hyl:y<rows.length:=by omega
  have hru:=hur _ (List.getElem_mem hyl)
  have hru':u<rows[y].length:=by rw [hu] at hru;omega
  focus ((try (apply wO pk;exact rfl));(repeat' (first|(show All _;constructor)|(apply wC pk;(iterate 2 exact rfl))|(refine aA rfl (fun h=> ?_) (fun h=> ?_)<;>(try simp at h)<;>try (exfalso;omega)))))
  refine aJ (X:={x:Nat//x≤y∧∀n (_:n<x) (hny:n<y),¬(rows[y][u]!.kind=1∧(rows[n]'(by omega))[u]!.kind=1∧rows[y][u]!.n=(rows[n]'(by omega))[u]!.n)}) (fun z=>((((((St.nil 65 st).pv 1 (.seq (rows.map roC))).var 2 43 (t.cells)).pv 5 ((PV.val (Value.int .i64 ((i:Nat)))))).pv 6 ((PV.val (Value.int .i64 ((y:Nat)))))).pv 7 ((PV.val (Value.int .i64 ((z.1:Nat))))))) (fun z=>y-z.1) ⟨0,by omega,by omega⟩ ?_ (fun z=> ?_)
  · ((repeat (first|refine Sub.pv ?_ rfl|refine Sub.var ?_ rfl rfl));exact Sub.nil _ _ _ (StSub.refl _) rfl)
  obtain ⟨z,hz,hzI⟩:=z
  dsimp only
  by_cases hend3:y≤z
  · have hw:=avG hyl hyI fun n hn=>hzI n (by omega) hn
    (try (apply wO pk;exact rfl));(repeat' (first|(show All _;constructor)|(apply wC pk;(iterate 2 exact rfl))|(refine aA rfl (fun h=> ?_) (fun h=> ?_)<;>(try simp at h)<;>try (exfalso;omega))|(refine ⟨⟨y+1,by omega,hw⟩, ?_,by simp only;omega⟩;((repeat (first|refine Sub.pv ?_ rfl|refine Sub.var ?_ rfl rfl));exact Sub.nil _ _ _ (StSub.refl _) rfl))|(intros;(try simp only [zql]);omega)))
  have hzy:z<y:=by omega
  have hzl:z<rows.length:=by omega
  have hrz:=hur _ (List.getElem_mem hzl)
  have hrz':u<rows[z].length:=by rw [hu] at hrz;omega
  have hbad:=fun e1 e2 e3=>hno (y+1) (azH (u:=u) hyl hzy e1 e2 e3)
  have hzu:¬(rows[y][u]!.kind=1∧rows[z][u]!.kind=1∧rows[y][u]!.n=rows[z][u]!.n)→∀n (_:n<z+1) (hny:n<y),¬(rows[y][u]!.kind=1∧(rows[n]'(by omega))[u]!.kind=1∧rows[y][u]!.n=(rows[n]'(by omega))[u]!.n):=fun h n hn hny=>by
    rcases Nat.lt_succ_iff_lt_or_eq.1 hn with q|q
    · exact hzI n q hny
    · subst q;exact h
  rw [getElem!_pos rows[y] u hru',getElem!_pos rows[z] u hrz'] at hbad
  rw [show (¬(rows[y][u]!.kind=1∧rows[z][u]!.kind=1∧rows[y][u]!.n=rows[z][u]!.n))=¬(rows[y][u].kind=1∧rows[z][u].kind=1∧rows[y][u].n=rows[z][u].n) from by rw [getElem!_pos rows[y] u hru',getElem!_pos rows[z] u hrz']] at hzu
  by_cases hc:rows[y][u].kind=1∧rows[z][u].kind=1∧rows[y][u].n=rows[z][u].n
  · have e:B=false:=hbad hc.1 hc.2.1 hc.2.2
    obtain ⟨hc1,hc2,hc3⟩:=hc
    (try (apply wO pk;exact rfl));(repeat' (first|(show All _;constructor)|(show Imp _ _;constructor)|(show ImpX _ _ _ _;constructor)|(apply wC pk;(iterate 2 exact rfl))|(apply wE pk;(iterate 2 exact rfl))|(apply wD pk [] [];kernel_rfl;exact rfl;exact rfl)|(refine aA rfl (fun h=> ?_) (fun h=> ?_)<;>(try simp at h)<;>try (exfalso;omega))|(refine aB ?_;refine ⟨_,_,_,rfl,Wk.refl _,StSub.refl _, ?_,rfl⟩;try first|rfl|((rw [e];rfl);done))|(apply aM pk;(iterate 6 exact rfl);rotate_left;exact rfl;(first|((intro hw;exact rfl);(intro hw;apply aF<;>omega);(intro _;exact rfl))|((intro hw;exact hu);(intro hw;apply aF<;>omega);(intro _;exact rfl)));exact rfl)))
  · have hw:=hzu hc
    (try (apply wO pk;exact rfl));(repeat' (first|(show All _;constructor)|(show Imp _ _;constructor)|(show ImpX _ _ _ _;constructor)|(apply wC pk;(iterate 2 exact rfl))|(apply wE pk;(iterate 2 exact rfl))|(apply wD pk [] [];kernel_rfl;exact rfl;exact rfl)|(refine aA rfl (fun h=> ?_) (fun h=> ?_)<;>(try simp at h)<;>try (exfalso;omega))|(apply aM pk;(iterate 6 exact rfl);rotate_left;exact rfl;(first|((intro hw;exact rfl);(intro hw;apply aF<;>omega);(intro _;exact rfl))|((intro hw;exact hu);(intro hw;apply aF<;>omega);(intro _;exact rfl)));exact rfl)|(refine ⟨⟨z+1,by omega,hw⟩, ?_,by simp only;omega⟩;((repeat (first|refine Sub.pv ?_ rfl|refine Sub.var ?_ rfl rfl));exact Sub.nil _ _ _ (StSub.refl _) rfl))|(intros;(try simp only [zql]);omega)))
theorem sW (m:Su) (g:Int) (h:TotOK m rows):PF Tryz.prog 47 [.seq (rows.map roC), .agg m.cells,(PV.val (Value.int .i64 (g)))] (PV.val (Value.int .i64 (dI m g rows))):=by
  have hlen:=h.len
  refine aH aD Tryz.func47 (by kernel_rfl) rfl rfl rfl rfl (fun st=> ?_)
  focus ((try (apply wO pk;exact rfl));(repeat' ((show All _;constructor))))
  refine aJ (X:={x:Nat//x≤rows.length}) (fun i=>((((((St.nil 62 st).pv 0 (.seq (rows.map roC))).pv 2 ((PV.val (Value.int .i64 (g))))).var 4 63 (m.cells)).pv 7 ((PV.val (Value.int .i64 (dI m g (rows.take i.1)))))).pv 8 ((PV.val (Value.int .i64 ((i.1:Nat))))))) (fun i=>rows.length-i.1) ⟨0,by omega⟩ ?_ (fun i=> ?_)
  · ((repeat (first|refine Sub.pv ?_ rfl|refine Sub.var ?_ rfl rfl));exact Sub.nil _ _ _ (StSub.refl _) rfl)
  obtain ⟨i,hi⟩:=i
  dsimp only
  by_cases hend:rows.length≤i
  · rw [List.take_of_length_le hend]
    (try (apply wO pk;exact rfl));(repeat' (first|(show All _;constructor)|(apply wC pk;(iterate 2 exact rfl))|(refine aA rfl (fun h=> ?_) (fun h=> ?_)<;>(try simp at h)<;>try (exfalso;omega))|(refine aB ?_;refine ⟨_,_,_,rfl,Wk.refl _,StSub.refl _, ?_,rfl⟩;try rfl)))
  have hil:i<rows.length:=by omega
  obtain ⟨c1,c2⟩:=h.cl _ (List.getElem_mem hil)
  have hc0:=h.c0
  have hb0:=h.b0
  have n1:=(h.num _ (List.getElem_mem hil)).1
  have hbd:=rO (m:=m) (g:=g) (rows:=rows.take i) fun r hr=>(h.num r (List.mem_of_mem_take hr)).1
  have hti:(rows.take i).length≤2000:=by rw [List.length_take];omega
  have hup:=avY (m:=m) (g:=g) hil
  have hci:m.col=((m.col.toNat:Nat):Int):=by omega
  have hbi:m.by_=((m.by_.toNat:Nat):Int):=by omega
  have l1:m.col.toNat<rows[i].length:=by omega
  have l2:m.by_.toNat<rows[i].length:=by omega
  unfold tP at hup
  rw [getElem!_pos rows[i] m.col.toNat l1,getElem!_pos rows[i] m.by_.toNat l2] at hup
  rw [getElem!_pos rows[i] m.col.toNat l1] at n1
  generalize dI m g (rows.take i)=T at*
  have t1: -2199023255552000≤T:=by omega
  have t2:T≤2199023255552000:=by omega
  clear hbd
  by_cases hk:rows[i][m.by_.toNat].kind=1∧rows[i][m.by_.toNat].n=g∧rows[i][m.col.toNat].kind=1
  · rw [if_pos hk] at hup
    obtain ⟨hk1,hk2,hk3⟩:=hk
    (try (apply wO pk;exact rfl));(repeat' (first|(show All _;constructor)|(show Imp _ _;constructor)|(show ImpX _ _ _ _;constructor)|(apply wC pk;(iterate 2 exact rfl))|(apply wE pk;(iterate 2 exact rfl))|(apply wD pk [] [];kernel_rfl;exact rfl;exact rfl)|(refine aA rfl (fun h=> ?_) (fun h=> ?_)<;>(try simp at h)<;>try (exfalso;omega))|(apply aM pk;(iterate 6 exact rfl);rotate_left;exact rfl;(first|((intro hw;exact rfl);(intro hw;apply aF<;>omega);(intro _;exact rfl))|((intro hw;exact (by first|exact hci|exact hbi));(intro hw;apply aF<;>omega);(intro _;exact rfl)));exact rfl)|(refine ⟨⟨i+1,by omega⟩, ?_,by simp only;omega⟩;((dsimp only;rw [hup]));((repeat (first|refine Sub.pv ?_ rfl|refine Sub.var ?_ rfl rfl));exact Sub.nil _ _ _ (StSub.refl _) rfl))|(intros;(try simp only [zql]);omega)))
  · rw [if_neg hk,Int.add_zero] at hup
    (try (apply wO pk;exact rfl));(repeat' (first|(show All _;constructor)|(show Imp _ _;constructor)|(show ImpX _ _ _ _;constructor)|(apply wC pk;(iterate 2 exact rfl))|(apply wE pk;(iterate 2 exact rfl))|(apply wD pk [] [];kernel_rfl;exact rfl;exact rfl)|(refine aA rfl (fun h=> ?_) (fun h=> ?_)<;>(try simp at h)<;>try (exfalso;omega))|(apply aM pk;(iterate 6 exact rfl);rotate_left;exact rfl;(first|((intro hw;exact rfl);(intro hw;apply aF<;>omega);(intro _;exact rfl))|((intro hw;exact (by first|exact hci|exact hbi));(intro hw;apply aF<;>omega);(intro _;exact rfl)));exact rfl)|(refine ⟨⟨i+1,by omega⟩, ?_,by simp only;omega⟩;((dsimp only;rw [hup]));((repeat (first|refine Sub.pv ?_ rfl|refine Sub.var ?_ rfl rfl));exact Sub.nil _ _ _ (StSub.refl _) rfl))|(intros;(try simp only [zql]);omega)))
theorem abN (hl:rows.length<1000000000000000) (hx:t.foreign.length<1000000000000000) (hr:∀f∈t.foreign,0≤f.col∧∀r∈rows,f.col<r.length) {n:Nat} (hb:BsS n b) (hn:n≤1000):PF Tryz.prog 44 [.agg (bsC b), .agg t.cells, .seq (rows.map roC)] (PV.val (Value.bool (kJ b t rows))):=by
  have hyes:(∀j (h:j<t.foreign.length),(rows.all fun r=> !decide (r[t.foreign[j].col.toNat]!.kind=1)||(dH (aV b t.foreign[j].table) r[t.foreign[j].col.toNat]!.n).isSome)=true)→kJ b t rows=true:=fun h=>by
    unfold kJ
    rw [List.all_eq_true]
    intro f hf
    obtain ⟨j,hj,rfl⟩:=List.getElem_of_mem hf
    exact h j hj
  have hno:∀j (h:j<t.foreign.length),(rows.all fun r=> !decide (r[t.foreign[j].col.toNat]!.kind=1)||(dH (aV b t.foreign[j].table) r[t.foreign[j].col.toNat]!.n).isSome)=false→kJ b t rows=false:=fun j hj h=>by
    unfold kJ
    rw [←Bool.not_eq_true,List.all_eq_true]
    intro q
    rw [q _ (List.getElem_mem hj)] at h;cases h
  generalize kJ b t rows=B at*
  refine aH aD Tryz.func44 (by kernel_rfl) rfl rfl rfl rfl (fun st=> ?_)
  focus ((try (apply wO pk;exact rfl));(repeat' ((show All _;constructor))))
  refine aJ (X:={x:Nat//x≤t.foreign.length∧∀j (h:j<t.foreign.length),j<x→(rows.all fun r=> !decide (r[t.foreign[j].col.toNat]!.kind=1)||(dH (aV b t.foreign[j].table) r[t.foreign[j].col.toNat]!.n).isSome)=true}) (fun i=>(((((St.nil 65 st).pv 2 (.seq (rows.map roC))).var 3 27 ((bsC b))).var 4 43 (t.cells)).pv 7 ((PV.val (Value.int .i64 ((i.1:Nat))))))) (fun i=>t.foreign.length-i.1) ⟨0,by omega,by omega⟩ ?_ (fun i=> ?_)
  · ((repeat (first|refine Sub.pv ?_ rfl|refine Sub.var ?_ rfl rfl));exact Sub.nil _ _ _ (StSub.refl _) rfl)
  obtain ⟨i,hi,hI⟩:=i
  dsimp only
  by_cases hend:t.foreign.length≤i
  · have e:B=true:=hyes fun j hj=>hI j hj (by omega)
    (try (apply wO pk;exact rfl));(repeat' (first|(show All _;constructor)|(apply wC pk;(iterate 2 exact rfl))|(refine aA rfl (fun h=> ?_) (fun h=> ?_)<;>(try simp at h)<;>try (exfalso;omega))|(refine aB ?_;refine ⟨_,_,_,rfl,Wk.refl _,StSub.refl _, ?_,rfl⟩;try first|rfl|((rw [e]);done))))
  have hil:i<t.foreign.length:=by omega
  obtain ⟨hf0,hfr⟩:=hr _ (List.getElem_mem hil)
  have hno:=hno i hil
  have hup:(rows.all fun r=> !decide (r[t.foreign[i].col.toNat]!.kind=1)||(dH (aV b t.foreign[i].table) r[t.foreign[i].col.toNat]!.n).isSome)=true→∀j (h:j<t.foreign.length),j<i+1→(rows.all fun r=> !decide (r[t.foreign[j].col.toNat]!.kind=1)||(dH (aV b t.foreign[j].table) r[t.foreign[j].col.toNat]!.n).isSome)=true:=fun h j hj hji=>by
    rcases Nat.lt_succ_iff_lt_or_eq.1 hji with q|q
    · exact hI j hj q
    · subst q;exact h
  focus ((try (apply wO pk;exact rfl));(repeat' (first|(show All _;constructor)|(apply wC pk;(iterate 2 exact rfl))|(refine aA rfl (fun h=> ?_) (fun h=> ?_)<;>(try simp at h)<;>try (exfalso;omega)))))
  refine aJ (X:={x:Nat//x≤rows.length∧∀j (h:j<rows.length),j<x→(!decide (rows[j][t.foreign[i].col.toNat]!.kind=1)||(dH (aV b t.foreign[i].table) rows[j][t.foreign[i].col.toNat]!.n).isSome)=true}) (fun y=>((((((St.nil 65 st).pv 2 (.seq (rows.map roC))).var 3 27 ((bsC b))).var 4 43 (t.cells)).pv 7 ((PV.val (Value.int .i64 ((i:Nat)))))).pv 8 ((PV.val (Value.int .i64 ((y.1:Nat))))))) (fun y=>rows.length-y.1) ⟨0,by omega,by omega⟩ ?_ (fun y=> ?_)
  · ((repeat (first|refine Sub.pv ?_ rfl|refine Sub.var ?_ rfl rfl));exact Sub.nil _ _ _ (StSub.refl _) rfl)
  obtain ⟨y,hy,hyI⟩:=y
  dsimp only
  by_cases hend2:rows.length≤y
  · have hw:=hup (by
      rw [List.all_eq_true]
      intro r hr
      obtain ⟨j,hj,rfl⟩:=List.getElem_of_mem hr
      exact hyI j hj (by omega))
    (try (apply wO pk;exact rfl));(repeat' (first|(show All _;constructor)|(apply wC pk;(iterate 2 exact rfl))|(refine aA rfl (fun h=> ?_) (fun h=> ?_)<;>(try simp at h)<;>try (exfalso;omega))|(refine ⟨⟨i+1,by omega,hw⟩, ?_,by simp only;omega⟩;((repeat (first|refine Sub.pv ?_ rfl|refine Sub.var ?_ rfl rfl));exact Sub.nil _ _ _ (StSub.refl _) rfl))|(intros;(try simp only [zql]);omega)))
  have hyl:y<rows.length:=by omega
  have hcr:=hfr _ (List.getElem_mem hyl)
  have hno2:(!decide (rows[y][t.foreign[i].col.toNat]!.kind=1)||(dH (aV b t.foreign[i].table) rows[y][t.foreign[i].col.toNat]!.n).isSome)=false→B=false:=fun h=>hno (by
    rw [←Bool.not_eq_true,List.all_eq_true]
    intro q
    rw [q _ (List.getElem_mem hyl)] at h;cases h)
  have hyu:(!decide (rows[y][t.foreign[i].col.toNat]!.kind=1)||(dH (aV b t.foreign[i].table) rows[y][t.foreign[i].col.toNat]!.n).isSome)=true→∀j (h:j<rows.length),j<y+1→(!decide (rows[j][t.foreign[i].col.toNat]!.kind=1)||(dH (aV b t.foreign[i].table) rows[j][t.foreign[i].col.toNat]!.n).isSome)=true:=fun h j hj hji=>by
    rcases Nat.lt_succ_iff_lt_or_eq.1 hji with q|q
    · exact hyI j hj q
    · subst q;exact h
  have hci:t.foreign[i].col=((t.foreign[i].col.toNat:Nat):Int):=by omega
  have hlt:t.foreign[i].col.toNat<rows[y].length:=by omega
  have hgu:=getElem!_pos rows[y] t.foreign[i].col.toNat hlt
  rw [hgu] at hno2 hyu
  clear hgu
  have hls:=xC b t.foreign[i].table
  have hlb:=(hb.lines t.foreign[i].table).1
  have hgy:=fun n (h:n<(aV b t.foreign[i].table).length)=> @aqH (aV b t.foreign[i].table) rows[y][t.foreign[i].col.toNat].n n h
  have hgn:= @avO (aV b t.foreign[i].table) rows[y][t.foreign[i].col.toNat].n
  generalize (dH (aV b t.foreign[i].table) rows[y][t.foreign[i].col.toNat].n).isSome=G at*
  generalize aV b t.foreign[i].table=L at*
  by_cases hk1:¬rows[y][t.foreign[i].col.toNat].kind=1
  · have hw:=hyu (by simp [hk1])
    (try (apply wO pk;exact rfl));(repeat' (first|(show All _;constructor)|(show Imp _ _;constructor)|(apply wC pk;(iterate 2 exact rfl))|(apply wE pk;(iterate 2 exact rfl))|(apply wD pk [] [];kernel_rfl;exact rfl;exact rfl)|(refine aA rfl (fun h=> ?_) (fun h=> ?_)<;>(try simp at h)<;>try (exfalso;omega))|(apply aM pk;(iterate 6 exact rfl);rotate_left;exact rfl;(first|((intro hw;exact rfl);(intro hw;apply aF<;>omega);(intro _;exact rfl))|((intro hw;exact hci);(intro hw;apply aF<;>omega);(intro _;exact rfl)));exact rfl)|(refine ⟨⟨y+1,by omega,hw⟩, ?_,by simp only;omega⟩;((repeat (first|refine Sub.pv ?_ rfl|refine Sub.var ?_ rfl rfl));exact Sub.nil _ _ _ (StSub.refl _) rfl))|(intros;(try simp only [zql]);omega)))
  replace hk1:=Decidable.of_not_not hk1
  focus ((try (apply wO pk;exact rfl));(repeat' (first|(show All _;constructor)|(show Imp _ _;constructor)|(apply wC pk;(iterate 2 exact rfl))|(apply wE pk;(iterate 2 exact rfl))|(apply wD pk [] [];kernel_rfl;exact rfl;exact rfl)|(refine aA rfl (fun h=> ?_) (fun h=> ?_)<;>(try simp at h)<;>try (exfalso;omega))|(apply aI;(iterate 3 exact rfl);(intro _;apply hls<;>first|assumption|omega);rotate_left;(iterate 2 exact rfl))|(apply aM pk;(iterate 6 exact rfl);rotate_left;exact rfl;(first|((intro hw;exact rfl);(intro hw;apply aF<;>omega);(intro _;exact rfl))|((intro hw;exact hci);(intro hw;apply aF<;>omega);(intro _;exact rfl)));exact rfl))))
  refine aJ (X:={x:Nat×Bool//x.1≤L.length∧(x.2=true→G=true)∧(x.2=false→∀n (h:n<L.length),n<x.1→L[n].key≠rows[y][t.foreign[i].col.toNat].n)}) (fun z=>((((((((((St.nil 65 st).pv 2 (.seq (rows.map roC))).var 3 27 ((bsC b))).var 4 43 (t.cells)).pv 7 ((PV.val (Value.int .i64 ((i:Nat)))))).pv 8 ((PV.val (Value.int .i64 ((y:Nat)))))).var 9 47 (rows[y][t.foreign[i].col.toNat].cells)).pv 10 ((PV.val (Value.bool (z.1.2))))).pv 11 (.seq (L.map Ln.cells))).pv 12 ((PV.val (Value.int .i64 ((z.1.1:Nat))))))) (fun z=>L.length-z.1.1) ⟨(0,false),by simp,by simp,by simp⟩ ?_ (fun z=> ?_)
  · ((repeat (first|refine Sub.pv ?_ rfl|refine Sub.var ?_ rfl rfl));exact Sub.nil _ _ _ (StSub.refl _) rfl)
  obtain ⟨⟨z,g⟩,hz,hg1,hg2⟩:=z
  simp only at hz hg1 hg2
  dsimp only
  by_cases hend3:L.length≤z
  · cases g with
    |true=>
      have hw:=hyu (by rw [hg1 rfl];simp)
      (try (apply wO pk;exact rfl));(repeat' (first|(show All _;constructor)|(apply wC pk;(iterate 2 exact rfl))|(refine aA rfl (fun h=> ?_) (fun h=> ?_)<;>(try simp at h)<;>try (exfalso;omega))|(refine ⟨⟨y+1,by omega,hw⟩, ?_,by simp only;omega⟩;((repeat (first|refine Sub.pv ?_ rfl|refine Sub.var ?_ rfl rfl));exact Sub.nil _ _ _ (StSub.refl _) rfl))|(intros;(try simp only [zql]);omega)))
    |false=>
      have e:B=false:=hno2 (by rw [hgn fun n h=>hg2 rfl n h (by omega),hk1];simp)
      (try (apply wO pk;exact rfl));(repeat' (first|(show All _;constructor)|(apply wC pk;(iterate 2 exact rfl))|(refine aA rfl (fun h=> ?_) (fun h=> ?_)<;>(try simp at h)<;>try (exfalso;omega))|(refine aB ?_;refine ⟨_,_,_,rfl,Wk.refl _,StSub.refl _, ?_,rfl⟩;try first|rfl|((rw [e]);done))))
  have hzl:z<L.length:=by omega
  by_cases he:L[z].key=rows[y][t.foreign[i].col.toNat].n
  · have hgt:=hgy z hzl he
    (try (apply wO pk;exact rfl));(repeat' (first|(show All _;constructor)|(show Imp _ _;constructor)|(apply wC pk;(iterate 2 exact rfl))|(apply wE pk;(iterate 2 exact rfl))|(apply wD pk [] [];kernel_rfl;exact rfl;exact rfl)|(refine aA rfl (fun h=> ?_) (fun h=> ?_)<;>(try simp at h)<;>try (exfalso;omega))|(apply aM pk;(iterate 6 exact rfl);rotate_left;exact rfl;(intro hw;exact rfl);(intro hw;apply aF<;>omega);(intro _;exact rfl);exact rfl)|(refine ⟨⟨(z+1,true),by simp only;omega,fun _=>hgt,fun q=>by cases q⟩, ?_,by simp only;omega⟩;((dsimp only));((repeat (first|refine Sub.pv ?_ rfl|refine Sub.var ?_ rfl rfl));exact Sub.nil _ _ _ (StSub.refl _) rfl))|(intros;(try simp only [zql]);omega)))
  · have hgf:g=false→∀n (h:n<L.length),n<z+1→L[n].key≠rows[y][t.foreign[i].col.toNat].n:=fun q n h hn=>by
      rcases Nat.lt_succ_iff_lt_or_eq.1 hn with r|r
      · exact hg2 q n h r
      · subst r;exact he
    (try (apply wO pk;exact rfl));(repeat' (first|(show All _;constructor)|(show Imp _ _;constructor)|(apply wC pk;(iterate 2 exact rfl))|(apply wE pk;(iterate 2 exact rfl))|(apply wD pk [] [];kernel_rfl;exact rfl;exact rfl)|(refine aA rfl (fun h=> ?_) (fun h=> ?_)<;>(try simp at h)<;>try (exfalso;omega))|(apply aM pk;(iterate 6 exact rfl);rotate_left;exact rfl;(intro hw;exact rfl);(intro hw;apply aF<;>omega);(intro _;exact rfl);exact rfl)|(refine ⟨⟨(z+1,g),by simp only;omega,hg1,hgf⟩, ?_,by simp only;omega⟩;((dsimp only));((repeat (first|refine Sub.pv ?_ rfl|refine Sub.var ?_ rfl rfl));exact Sub.nil _ _ _ (StSub.refl _) rfl))|(intros;(try simp only [zql]);omega)))
theorem aiD (hx:t.sums.length<1000000000000000) (hl:rows.length<1000000000000000) (hT:∀m∈t.sums,TotOK m rows):PF Tryz.prog 45 [.agg t.cells, .seq (rows.map roC)] (PV.val (Value.bool (lA t rows))):=by
  have hyes:(∀j (h:j<t.sums.length),(rows.all fun r=> !lV t.sums[j] r&&(!decide (r[t.sums[j].by_.toNat]!.kind=1)||decide (dI t.sums[j] r[t.sums[j].by_.toNat]!.n rows≤t.sums[j].max)))=true)→lA t rows=true:=fun h=>by
    unfold lA
    rw [List.all_eq_true]
    intro m hm
    obtain ⟨j,hj,rfl⟩:=List.getElem_of_mem hm
    exact h j hj
  have hno:∀j (h:j<t.sums.length),(rows.all fun r=> !lV t.sums[j] r&&(!decide (r[t.sums[j].by_.toNat]!.kind=1)||decide (dI t.sums[j] r[t.sums[j].by_.toNat]!.n rows≤t.sums[j].max)))=false→lA t rows=false:=fun j hj h=>by
    unfold lA
    rw [←Bool.not_eq_true,List.all_eq_true]
    intro q
    rw [q _ (List.getElem_mem hj)] at h;cases h
  generalize lA t rows=B at*
  refine aH aD Tryz.func45 (by kernel_rfl) rfl rfl rfl rfl (fun st=> ?_)
  focus ((try (apply wO pk;exact rfl));(repeat' ((show All _;constructor))))
  refine aJ (X:={x:Nat//x≤t.sums.length∧∀j (h:j<t.sums.length),j<x→(rows.all fun r=> !lV t.sums[j] r&&(!decide (r[t.sums[j].by_.toNat]!.kind=1)||decide (dI t.sums[j] r[t.sums[j].by_.toNat]!.n rows≤t.sums[j].max)))=true}) (fun i=>((((St.nil 75 st).pv 1 (.seq (rows.map roC))).var 2 43 (t.cells)).pv 5 ((PV.val (Value.int .i64 ((i.1:Nat))))))) (fun i=>t.sums.length-i.1) ⟨0,by omega,by omega⟩ ?_ (fun i=> ?_)
  · ((repeat (first|refine Sub.pv ?_ rfl|refine Sub.var ?_ rfl rfl));exact Sub.nil _ _ _ (StSub.refl _) rfl)
  obtain ⟨i,hi,hI⟩:=i
  dsimp only
  by_cases hend:t.sums.length≤i
  · have e:B=true:=hyes fun j hj=>hI j hj (by omega)
    (try (apply wO pk;exact rfl));(repeat' (first|(show All _;constructor)|(apply wC pk;(iterate 2 exact rfl))|(refine aA rfl (fun h=> ?_) (fun h=> ?_)<;>(try simp at h)<;>try (exfalso;omega))|(refine aB ?_;refine ⟨_,_,_,rfl,Wk.refl _,StSub.refl _, ?_,rfl⟩;try first|rfl|((rw [e]);done))))
  have hil:i<t.sums.length:=by omega
  have hTi:=hT _ (List.getElem_mem hil)
  have hno:=hno i hil
  have hup:(rows.all fun r=> !lV t.sums[i] r&&(!decide (r[t.sums[i].by_.toNat]!.kind=1)||decide (dI t.sums[i] r[t.sums[i].by_.toNat]!.n rows≤t.sums[i].max)))=true→∀j (h:j<t.sums.length),j<i+1→(rows.all fun r=> !lV t.sums[j] r&&(!decide (r[t.sums[j].by_.toNat]!.kind=1)||decide (dI t.sums[j] r[t.sums[j].by_.toNat]!.n rows≤t.sums[j].max)))=true:=fun h j hj hji=>by
    rcases Nat.lt_succ_iff_lt_or_eq.1 hji with q|q
    · exact hI j hj q
    · subst q;exact h
  focus ((try (apply wO pk;exact rfl));(repeat' (first|(show All _;constructor)|(apply wC pk;(iterate 2 exact rfl))|(refine aA rfl (fun h=> ?_) (fun h=> ?_)<;>(try simp at h)<;>try (exfalso;omega)))))
  refine aJ (X:={x:Nat//x≤rows.length∧∀j (h:j<rows.length),j<x→(!lV t.sums[i] rows[j]&&(!decide (rows[j][t.sums[i].by_.toNat]!.kind=1)||decide (dI t.sums[i] rows[j][t.sums[i].by_.toNat]!.n rows≤t.sums[i].max)))=true}) (fun y=>(((((St.nil 75 st).pv 1 (.seq (rows.map roC))).var 2 43 (t.cells)).pv 5 ((PV.val (Value.int .i64 ((i:Nat)))))).pv 6 ((PV.val (Value.int .i64 ((y.1:Nat))))))) (fun y=>rows.length-y.1) ⟨0,by omega,by omega⟩ ?_ (fun y=> ?_)
  · ((repeat (first|refine Sub.pv ?_ rfl|refine Sub.var ?_ rfl rfl));exact Sub.nil _ _ _ (StSub.refl _) rfl)
  obtain ⟨y,hy,hyI⟩:=y
  dsimp only
  by_cases hend2:rows.length≤y
  · have hw:=hup (by
      rw [List.all_eq_true]
      intro r hr
      obtain ⟨j,hj,rfl⟩:=List.getElem_of_mem hr
      exact hyI j hj (by omega))
    (try (apply wO pk;exact rfl));(repeat' (first|(show All _;constructor)|(apply wC pk;(iterate 2 exact rfl))|(refine aA rfl (fun h=> ?_) (fun h=> ?_)<;>(try simp at h)<;>try (exfalso;omega))|(refine ⟨⟨i+1,by omega,hw⟩, ?_,by simp only;omega⟩;((repeat (first|refine Sub.pv ?_ rfl|refine Sub.var ?_ rfl rfl));exact Sub.nil _ _ _ (StSub.refl _) rfl))|(intros;(try simp only [zql]);omega)))
  have hyl:y<rows.length:=by omega
  obtain ⟨c1,c2⟩:=hTi.cl _ (List.getElem_mem hyl)
  have hc0:=hTi.c0
  have hb0:=hTi.b0
  have hno2:(!lV t.sums[i] rows[y]&&(!decide (rows[y][t.sums[i].by_.toNat]!.kind=1)||decide (dI t.sums[i] rows[y][t.sums[i].by_.toNat]!.n rows≤t.sums[i].max)))=false→B=false:=fun h=>hno (by
    rw [←Bool.not_eq_true,List.all_eq_true]
    intro q
    rw [q _ (List.getElem_mem hyl)] at h;cases h)
  have hyu:(!lV t.sums[i] rows[y]&&(!decide (rows[y][t.sums[i].by_.toNat]!.kind=1)||decide (dI t.sums[i] rows[y][t.sums[i].by_.toNat]!.n rows≤t.sums[i].max)))=true→∀j (h:j<rows.length),j<y+1→(!lV t.sums[i] rows[j]&&(!decide (rows[j][t.sums[i].by_.toNat]!.kind=1)||decide (dI t.sums[i] rows[j][t.sums[i].by_.toNat]!.n rows≤t.sums[i].max)))=true:=fun h j hj hji=>by
    rcases Nat.lt_succ_iff_lt_or_eq.1 hji with q|q
    · exact hyI j hj q
    · subst q;exact h
  have hci:t.sums[i].col=((t.sums[i].col.toNat:Nat):Int):=by omega
  have hbi:t.sums[i].by_=((t.sums[i].by_.toNat:Nat):Int):=by omega
  have l1:t.sums[i].col.toNat<rows[y].length:=by omega
  have l2:t.sums[i].by_.toNat<rows[y].length:=by omega
  unfold lV at hno2 hyu
  have hto:=sW rows t.sums[i] rows[y][t.sums[i].by_.toNat].n hTi
  have q1:=getElem!_pos rows[y] t.sums[i].col.toNat l1
  have q2:=getElem!_pos rows[y] t.sums[i].by_.toNat l2
  rw [q1,q2] at hno2
  have hyu:=fun h=>hyu (by rw [q1,q2];exact h)
  clear q1 q2
  generalize dI t.sums[i] rows[y][t.sums[i].by_.toNat].n rows=T at*
  by_cases hc1:rows[y][t.sums[i].col.toNat].kind=1∧rows[y][t.sums[i].col.toNat].n<0
  · have e:B=false:=hno2 (by simp [hc1.1,hc1.2])
    obtain ⟨hc2,hc3⟩:=hc1
    (try (apply wO pk;exact rfl));(repeat' (first|(show All _;constructor)|(show Imp _ _;constructor)|(show ImpX _ _ _ _;constructor)|(apply wC pk;(iterate 2 exact rfl))|(apply wE pk;(iterate 2 exact rfl))|(apply wD pk [] [];kernel_rfl;exact rfl;exact rfl)|(refine aA rfl (fun h=> ?_) (fun h=> ?_)<;>(try simp at h)<;>try (exfalso;omega))|(refine aB ?_;refine ⟨_,_,_,rfl,Wk.refl _,StSub.refl _, ?_,rfl⟩;try first|rfl|((rw [e]);done))|(apply aM pk;(iterate 6 exact rfl);rotate_left;exact rfl;(first|((intro hw;exact rfl);(intro hw;apply aF<;>omega);(intro _;exact rfl))|((intro hw;exact (by first|exact hci|exact hbi));(intro hw;apply aF<;>omega);(intro _;exact rfl)));exact rfl)|(intros;(try simp only [zql]);omega)))
  have hng:(decide (rows[y][t.sums[i].col.toNat].kind=1)&&decide (rows[y][t.sums[i].col.toNat].n<0))=false:=by rw [←Bool.not_eq_true];simpa using hc1
  by_cases hc2:rows[y][t.sums[i].by_.toNat].kind=1∧T>t.sums[i].max
  · have e:B=false:=hno2 (by rw [hng];simp [hc2.1];omega)
    obtain ⟨hc3,hc4⟩:=hc2
    (try (apply wO pk;exact rfl));(repeat' (first|(show All _;constructor)|(show Imp _ _;constructor)|(show ImpX _ _ _ _;constructor)|(apply wC pk;(iterate 2 exact rfl))|(apply wE pk;(iterate 2 exact rfl))|(apply wD pk [] [];kernel_rfl;exact rfl;exact rfl)|(refine aA rfl (fun h=> ?_) (fun h=> ?_)<;>(try simp at h)<;>try (exfalso;omega))|(refine aB ?_;refine ⟨_,_,_,rfl,Wk.refl _,StSub.refl _, ?_,rfl⟩;try first|rfl|((rw [e]);done))|(apply aI;(iterate 3 exact rfl);(intro _;apply hto<;>first|assumption|omega);rotate_left;(iterate 2 exact rfl))|(apply aM pk;(iterate 6 exact rfl);rotate_left;exact rfl;(first|((intro hw;exact rfl);(intro hw;apply aF<;>omega);(intro _;exact rfl))|((intro hw;exact (by first|exact hci|exact hbi));(intro hw;apply aF<;>omega);(intro _;exact rfl)));exact rfl)))
  · have hw:=hyu (by rw [hng];simp;omega)
    (try (apply wO pk;exact rfl));(repeat' (first|(show All _;constructor)|(show Imp _ _;constructor)|(show ImpX _ _ _ _;constructor)|(apply wC pk;(iterate 2 exact rfl))|(apply wE pk;(iterate 2 exact rfl))|(apply wD pk [] [];kernel_rfl;exact rfl;exact rfl)|(refine aA rfl (fun h=> ?_) (fun h=> ?_)<;>(try simp at h)<;>try (exfalso;omega))|(apply aI;(iterate 3 exact rfl);(intro _;apply hto<;>first|assumption|omega);rotate_left;(iterate 2 exact rfl))|(apply aM pk;(iterate 6 exact rfl);rotate_left;exact rfl;(first|((intro hw;exact rfl);(intro hw;apply aF<;>omega);(intro _;exact rfl))|((intro hw;exact (by first|exact hci|exact hbi));(intro hw;apply aF<;>omega);(intro _;exact rfl)));exact rfl)|(refine ⟨⟨y+1,by omega,hw⟩, ?_,by simp only;omega⟩;((repeat (first|refine Sub.pv ?_ rfl|refine Sub.var ?_ rfl rfl));exact Sub.nil _ _ _ (StSub.refl _) rfl))|(intros;(try simp only [zql]);omega)))
end Go.Proofs.YtcglimangneafaaGreatDoor
namespace Go.Proofs.YtcglimangneafaaGreatDoor
open Go Go.Abs
attribute [local irreducible] Ev PWp
set_option maxRecDepth 10000
set_option maxHeartbeats 4000000
theorem abB (s:Sc) (hl:s.length<200000000000000) (hB:∀t∈s,TbB t) (hT:∀t∈s,mB t) (hc:∀t∈s,t.cols.length<10000000000):PF Tryz.prog 12 [.agg (scC s)] (PV.val (Value.int .i64 (rightC s))):=by
  have hr:=qH s hl hB
  by_cases h0:¬cD s=0
  · have e:rightC s=cD s:=by unfold rightC;rw [if_neg h0]
    rw [e]
    generalize cD s=R at*
    refine aH aD Tryz.func12 (by kernel_rfl) rfl rfl rfl rfl (fun st=> ?_)
    (try (apply wO pk;exact rfl));(repeat' (first|(show All _;constructor)|(show Imp _ _;constructor)|(apply wC pk;(iterate 2 exact rfl))|(apply wE pk;(iterate 2 exact rfl))|(refine aA rfl (fun h=> ?_) (fun h=> ?_)<;>(try simp at h)<;>try (exfalso;omega))|(refine aB ?_;refine ⟨_,_,_,rfl,Wk.refl _,StSub.refl _, ?_,rfl⟩;try rfl)|(apply aI;(iterate 3 exact rfl);(intro _;apply hr<;>first|assumption|omega);rotate_left;(iterate 2 exact rfl))))
  replace h0:=Decidable.of_not_not h0
  have e:rightC s=cC rightX s:=by unfold rightC;rw [if_pos h0]
  rw [e]
  rw [h0] at hr
  clear e h0
  refine aH aD Tryz.func12 (by kernel_rfl) rfl rfl rfl rfl (fun st=> ?_)
  focus ((try (apply wO pk;exact rfl));(repeat' (first|(show All _;constructor)|(show Imp _ _;constructor)|(apply wC pk;(iterate 2 exact rfl))|(apply wE pk;(iterate 2 exact rfl))|(refine aA rfl (fun h=> ?_) (fun h=> ?_)<;>(try simp at h)<;>try (exfalso;omega))|(apply aI;(iterate 3 exact rfl);(intro _;apply hr<;>first|assumption|omega);rotate_left;(iterate 2 exact rfl)))))
  refine aJ (X:={x:Nat//x≤s.length∧∀j (h:j<s.length),j<x→rightX s[j]=0}) (fun i=>(((St.nil 49 st).var 1 24 ((scC s))).pv 4 ((PV.val (Value.int .i64 ((i.1:Nat))))))) (fun i=>s.length-i.1) ⟨0,by omega,by omega⟩ ?_ (fun i=> ?_)
  · ((repeat (first|refine Sub.pv ?_ rfl|refine Sub.var ?_ rfl rfl));exact Sub.nil _ _ _ (StSub.refl _) rfl)
  obtain ⟨i,hi,hI⟩:=i
  dsimp only
  by_cases hend:s.length≤i
  · have e:cC rightX s=0:=eB fun j hj=>hI j hj (by omega)
    (try (apply wO pk;exact rfl));(repeat' (first|(show All _;constructor)|(apply wC pk;(iterate 2 exact rfl))|(refine aA rfl (fun h=> ?_) (fun h=> ?_)<;>(try simp at h)<;>try (exfalso;omega))|(refine aB ?_;refine ⟨_,_,_,rfl,Wk.refl _,StSub.refl _, ?_,rfl⟩;try first|rfl|((rw [e]);done))))
  have hil:i<s.length:=by omega
  have hk:=hT _ (List.getElem_mem hil)
  have hcl:=hc _ (List.getElem_mem hil)
  have hkl:=(hB _ (List.getElem_mem hil)).k
  have e:=gO hI hil
  have hu:=gN hI hil
  focus ((try (apply wO pk;exact rfl));(repeat' (first|(show All _;constructor)|(apply wC pk;(iterate 2 exact rfl))|(refine aA rfl (fun h=> ?_) (fun h=> ?_)<;>(try simp at h)<;>try (exfalso;omega)))))
  refine aJ (X:={x:Nat//x≤s[i].checks.length∧∀j (h:j<s[i].checks.length),j<x→X.RightR (exOf s[i].checks[j]) (s[i].cols.map bK)=0}) (fun y=>((((St.nil 49 st).var 1 24 ((scC s))).pv 4 ((PV.val (Value.int .i64 ((i:Nat)))))).pv 5 ((PV.val (Value.int .i64 ((y.1:Nat))))))) (fun y=>s[i].checks.length-y.1) ⟨0,by omega,by omega⟩ ?_ (fun y=> ?_)
  · ((repeat (first|refine Sub.pv ?_ rfl|refine Sub.var ?_ rfl rfl));exact Sub.nil _ _ _ (StSub.refl _) rfl)
  obtain ⟨y,hy,hyI⟩:=y
  dsimp only
  by_cases hend2:s[i].checks.length≤y
  · have e2:rightX s[i]=0:=eB fun j hj=>hyI j hj (by omega)
    (try (apply wO pk;exact rfl));(repeat' (first|(show All _;constructor)|(show Imp _ _;constructor)|(apply wC pk;(iterate 2 exact rfl))|(apply wE pk;(iterate 2 exact rfl))|(refine aA rfl (fun h=> ?_) (fun h=> ?_)<;>(try simp at h)<;>try (exfalso;omega))|(apply aM pk;(iterate 6 exact rfl);rotate_left;exact rfl;(intro hw;exact rfl);(intro hw;apply aF<;>omega);(intro _;exact rfl);exact rfl)|(refine ⟨⟨i+1,by omega,hu e2⟩, ?_,by simp only;omega⟩;((repeat (first|refine Sub.pv ?_ rfl|refine Sub.var ?_ rfl rfl));exact Sub.nil _ _ _ (StSub.refl _) rfl))|(intros;(try simp only [zql]);omega)))
  have hyl:y<s[i].checks.length:=by omega
  obtain ⟨hok,hcc⟩:=nN (hk _ (List.getElem_mem hyl))
  have he:=gO (f:=fun c=>X.RightR (exOf c) (s[i].cols.map bK)) hyI hyl
  have hyu:=gN (f:=fun c=>X.RightR (exOf c) (s[i].cols.map bK)) hyI hyl
  change X.RightR (exOf s[i].checks[y]) (s[i].cols.map bK)≠0→rightX s[i]=X.RightR (exOf s[i].checks[y]) (s[i].cols.map bK) at he
  change X.RightR (exOf s[i].checks[y]) (s[i].cols.map bK)=0→_ at hyu
  have hE:=X.rright_spec hok s[i].cols hcl
  rw [X.Ex.lit_eq] at hE
  have hget:s[i].checks[y]?=some (exOf s[i].checks[y]).cells:=by rw [hcc,List.getElem?_eq_getElem hyl]
  generalize X.RightR (exOf s[i].checks[y]) (s[i].cols.map bK)=p at*
  generalize exOf s[i].checks[y]=x at*
  obtain ⟨xk,xn,xv,xo⟩:=x
  by_cases hp:p=0
  · (try (apply wO pk;exact rfl));(repeat' (first|(show All _;constructor)|(show Imp _ _;constructor)|(apply wC pk;(iterate 2 exact rfl))|(apply wE pk;(iterate 2 exact rfl))|(apply wD pk [] [];kernel_rfl;exact rfl;exact rfl)|(refine aA rfl (fun h=> ?_) (fun h=> ?_)<;>(try simp at h)<;>try (exfalso;omega))|(apply aI;(iterate 3 exact rfl);(intro _;apply hE<;>first|assumption|omega);rotate_left;(iterate 2 exact rfl))|(apply aM pk;(iterate 6 exact rfl);rotate_left;exact rfl;(first|((intro hw;exact rfl);(intro hw;apply aF<;>omega);(intro _;exact rfl))|((intro hw;exact rfl);(intro hw;apply hget<;>omega);(intro _;exact rfl)));exact rfl)|(refine ⟨⟨y+1,by omega,hyu hp⟩, ?_,by simp only;omega⟩;((repeat (first|refine Sub.pv ?_ rfl|refine Sub.var ?_ rfl rfl));exact Sub.nil _ _ _ (StSub.refl _) rfl))|(intros;(try simp only [zql]);omega)))
  · have hfin:cC rightX s=p:=by rw [e (by rw [he hp];exact hp),he hp]
    (try (apply wO pk;exact rfl));(repeat' (first|(show All _;constructor)|(show Imp _ _;constructor)|(apply wC pk;(iterate 2 exact rfl))|(apply wE pk;(iterate 2 exact rfl))|(apply wD pk [] [];kernel_rfl;exact rfl;exact rfl)|(refine aA rfl (fun h=> ?_) (fun h=> ?_)<;>(try simp at h)<;>try (exfalso;omega))|(refine aB ?_;refine ⟨_,_,_,rfl,Wk.refl _,StSub.refl _, ?_,rfl⟩;try first|rfl|((rw [hfin]);done))|(apply aI;(iterate 3 exact rfl);(intro _;apply hE<;>first|assumption|omega);rotate_left;(iterate 2 exact rfl))|(apply aM pk;(iterate 6 exact rfl);rotate_left;exact rfl;(first|((intro hw;exact rfl);(intro hw;apply aF<;>omega);(intro _;exact rfl))|((intro hw;exact rfl);(intro hw;apply hget<;>omega);(intro _;exact rfl)));exact rfl)))
section
variable {n:Nat} {s:Sc} {b:Bs} (hB:CkB n s b)
include hB
theorem CkB.rright :PF Tryz.prog 12 [.agg (scC s)] (PV.val (Value.int .i64 (rightC s))):=abB s (by have:=hB.len;omega) hB.sb hB.chk hB.col
theorem anI :PF Tryz.prog 14 [.agg (scC s), .agg (bsC b)] (PV.val (Value.int .i64 (whyC s b))):=by
  have h1:=hB.rright
  have h2:=qR hB.bs hB.hn hB.sb hB.len
  have hsl:=hB.len
  by_cases hmay:¬(rightC s=0∧eG T.rightP s b=true)
  · have e:whyC s b=1:=by
      unfold whyC mayC
      rw [if_neg (fun q=>hmay (by rw [Bool.and_eq_true,decide_eq_true_eq] at q;exact q))]
    rw [e]
    generalize rightC s=R at*
    generalize eG T.rightP s b=A at*
    refine aH aD Tryz.func14 (by kernel_rfl) rfl rfl rfl rfl (fun st=> ?_)
    (try (apply wO pk;exact rfl));(repeat' (first|(show All _;constructor)|(show Imp _ _;constructor)|(show ImpX _ _ _ _;constructor)|(apply wC pk;(iterate 2 exact rfl))|(apply wE pk;(iterate 2 exact rfl))|(refine aA rfl (fun h=> ?_) (fun h=> ?_)<;>(try simp at h)<;>try (exfalso;omega))|(refine aB ?_;refine ⟨_,_,_,rfl,Wk.refl _,StSub.refl _, ?_,rfl⟩;try rfl)|(apply aI;(iterate 3 exact rfl);(intro _;(first|apply h1|apply h2)<;>first|assumption|omega);rotate_left;(iterate 2 exact rfl))|((exfalso;simp at*;grind))))
  obtain ⟨hrc,hg⟩:=Decidable.of_not_not hmay
  have e:whyC s b=ckW aZ exR s b:=by unfold whyC mayC;rw [hrc,hg];rfl
  rw [e]
  clear e
  rw [hrc] at h1
  rw [hg] at h2
  have hrs:=pU hrc
  obtain ⟨⟨_,hbl⟩,_⟩:=gA.1 hg
  have hfin0:(∀j<s.length,ckT exR b s[j]! (bQ aZ b j)=0)→ckW aZ exR s b=0:=fun h=>nE h
  have hfin1:∀i<s.length,(∀j<i,ckT exR b s[j]! (bQ aZ b j)=0)→ckT exR b s[i]! (bQ aZ b i)≠0→ckW aZ exR s b=ckT exR b s[i]! (bQ aZ b i):=fun i hi h1 h2=>uJ (f:=fun k:Nat=>ckT exR b s[k]! (bQ aZ b k)) hi h1 h2
  generalize ckW aZ exR s b=W at*
  refine aH aD Tryz.func14 (by kernel_rfl) rfl rfl rfl rfl (fun st=> ?_)
  focus ((try (apply wO pk;exact rfl));(repeat' (first|(show All _;constructor)|(show Imp _ _;constructor)|(show ImpX _ _ _ _;constructor)|(apply wC pk;(iterate 2 exact rfl))|(apply wE pk;(iterate 2 exact rfl))|(refine aA rfl (fun h=> ?_) (fun h=> ?_)<;>(try simp at h)<;>try (exfalso;omega))|(apply aI;(iterate 3 exact rfl);(intro _;(first|apply h1|apply h2)<;>first|assumption|omega);rotate_left;(iterate 2 exact rfl)))))
  refine aJ (X:={x:Nat//x≤s.length∧∀j<x,ckT exR b s[j]! (bQ aZ b j)=0}) (fun i=>((((St.nil 62 st).var 2 24 ((scC s))).var 3 27 ((bsC b))).pv 7 ((PV.val (Value.int .i64 ((i.1:Nat))))))) (fun i=>s.length-i.1) ⟨0,by omega,by omega⟩ ?_ (fun i=> ?_)
  · ((repeat (first|refine Sub.pv ?_ rfl|refine Sub.var ?_ rfl rfl));exact Sub.nil _ _ _ (StSub.refl _) rfl)
  obtain ⟨i,hi,hI⟩:=i
  dsimp only
  by_cases hend:s.length≤i
  · have e:W=0:=hfin0 fun j hj=>hI j (by omega)
    (try (apply wO pk;exact rfl));(repeat' (first|(show All _;constructor)|(apply wC pk;(iterate 2 exact rfl))|(refine aA rfl (fun h=> ?_) (fun h=> ?_)<;>(try simp at h)<;>try (exfalso;omega))|(refine aB ?_;refine ⟨_,_,_,rfl,Wk.refl _,StSub.refl _, ?_,rfl⟩;try first|rfl|((rw [e]);done))))
  have hil:i<s.length:=by omega
  have hib:i<b.length:=by omega
  have hsh:=oC hB.bs hB.hn (i:Int)
  have hfin1:=hfin1 i hil hI
  have hup:ckT exR b s[i]! (bQ aZ b i)=0→∀j<i+1,ckT exR b s[j]! (bQ aZ b j)=0:=fun h j hj=>by
    rcases Nat.lt_succ_iff_lt_or_eq.1 hj with q|q
    · exact hI j q
    · subst q;exact h
  rw [getElem!_pos s i hil] at hfin1 hup
  obtain ⟨n1,n2,n3,n4,n5⟩:=aaL hrs hil
  have hrl:=rows_len hg hil
  have hro:=fun r (hr:r∈bQ aZ b i)=>abH avK hg hil hr
  have hto:=fun m (hm:m∈s[i].sums)=>pV hg hil hm
  have hun:=fun u (hu:u∈s[i].unique)=>axJ hrs hil hu
  have hfr:=fun f (hf:f∈s[i].foreign)=>axQ hrs hil hf
  have hchk:=hB.chk _ (List.getElem_mem hil)
  generalize bQ aZ b i=rows at*
  have hrn:∀r∈rows,r.length≤1000:=fun r hr=>by have:=(hro r hr).len;omega
  have f0:=abR s[i] rows (by omega) (by omega) fun r hr=>by have:=hrn r hr;omega
  have f1:=adB s[i] rows (by omega) (by omega) fun u hu=>⟨by have:=(hun u hu).c1;omega,fun r hr=>by have:=(hun u hu).c2;have:=(hro r hr).len;omega⟩
  have f2:=fun h:cC (dE s[i]) rows=0=>abS s[i] rows (by omega) (by omega) hchk fun r hr=>⟨by have:=hrn r hr;omega,acA (iM.1 h r hr)⟩
  have f3:=abN s[i] rows b (by omega) (by omega) (fun f hf=>⟨by have:=(hfr f hf).c1;omega,fun r hr=>by have:=(hfr f hf).c2;have:=(hro r hr).len;omega⟩) hB.bs hB.hn
  have f4:=aiD s[i] rows (by omega) (by omega) hto
  have hC:ckT exR b s[i] rows=if cC (dE s[i]) rows≠0 then cC (dE s[i]) rows else if fW s[i] rows=false then 8 else if cC (exR s[i]) rows≠0 then cC (exR s[i]) rows else if kJ b s[i] rows=false then 10 else if lA s[i] rows=false then 11 else 0:=rfl
  generalize ckT exR b s[i] rows=C at*
  generalize cC (dE s[i]) rows=E1 at*
  generalize fW s[i] rows=U at*
  generalize cC (exR s[i]) rows=E2 at*
  generalize kJ b s[i] rows=F at*
  generalize lA s[i] rows=S at*
  by_cases z1:E1≠0
  · rw [if_pos z1] at hC
    have e:W=E1:=by rw [hfin1 (by rw [hC];exact z1),hC]
    (try (apply wO pk;exact rfl));(repeat' (first|(show All _;constructor)|(show Imp _ _;constructor)|(apply wC pk;(iterate 2 exact rfl))|(apply wE pk;(iterate 2 exact rfl))|(refine aA rfl (fun h=> ?_) (fun h=> ?_)<;>(try simp at h)<;>try (exfalso;omega))|(refine aB ?_;refine ⟨_,_,_,rfl,Wk.refl _,StSub.refl _, ?_,rfl⟩;try first|rfl|((rw [e]);done))|(apply aI;(iterate 3 exact rfl);(intro _;(first|apply hsh|apply f0)<;>first|assumption|omega);rotate_left;(iterate 2 exact rfl))|(apply aM pk;(iterate 6 exact rfl);rotate_left;exact rfl;(intro hw;exact rfl);(intro hw;apply aF<;>omega);(intro _;exact rfl);exact rfl)))
  rw [if_neg z1] at hC
  have z1:E1=0:=by omega
  have f2:=f2 z1
  rw [z1] at f0
  cases U with
  |false=>
    rw [if_pos rfl] at hC
    have e:W=8:=by rw [hfin1 (by rw [hC];decide),hC]
    (try (apply wO pk;exact rfl));(repeat' (first|(show All _;constructor)|(show Imp _ _;constructor)|(apply wC pk;(iterate 2 exact rfl))|(apply wE pk;(iterate 2 exact rfl))|(refine aA rfl (fun h=> ?_) (fun h=> ?_)<;>(try simp at h)<;>try (exfalso;omega))|(refine aB ?_;refine ⟨_,_,_,rfl,Wk.refl _,StSub.refl _, ?_,rfl⟩;try first|rfl|((rw [e]);done))|(apply aI;(iterate 3 exact rfl);(intro _;(first|apply hsh|apply f0|apply f1)<;>first|assumption|omega);rotate_left;(iterate 2 exact rfl))|(apply aM pk;(iterate 6 exact rfl);rotate_left;exact rfl;(intro hw;exact rfl);(intro hw;apply aF<;>omega);(intro _;exact rfl);exact rfl)))
  |true=>
  rw [if_neg (by simp)] at hC
  by_cases z2:E2≠0
  · rw [if_pos z2] at hC
    have e:W=E2:=by rw [hfin1 (by rw [hC];exact z2),hC]
    (try (apply wO pk;exact rfl));(repeat' (first|(show All _;constructor)|(show Imp _ _;constructor)|(apply wC pk;(iterate 2 exact rfl))|(apply wE pk;(iterate 2 exact rfl))|(refine aA rfl (fun h=> ?_) (fun h=> ?_)<;>(try simp at h)<;>try (exfalso;omega))|(refine aB ?_;refine ⟨_,_,_,rfl,Wk.refl _,StSub.refl _, ?_,rfl⟩;try first|rfl|((rw [e]);done))|(apply aI;(iterate 3 exact rfl);(intro _;(first|apply hsh|apply f0|apply f1|apply f2)<;>first|assumption|omega);rotate_left;(iterate 2 exact rfl))|(apply aM pk;(iterate 6 exact rfl);rotate_left;exact rfl;(intro hw;exact rfl);(intro hw;apply aF<;>omega);(intro _;exact rfl);exact rfl)))
  rw [if_neg z2] at hC
  have z2:E2=0:=by omega
  rw [z2] at f2
  cases F with
  |false=>
    rw [if_pos rfl] at hC
    have e:W=10:=by rw [hfin1 (by rw [hC];decide),hC]
    (try (apply wO pk;exact rfl));(repeat' (first|(show All _;constructor)|(show Imp _ _;constructor)|(apply wC pk;(iterate 2 exact rfl))|(apply wE pk;(iterate 2 exact rfl))|(refine aA rfl (fun h=> ?_) (fun h=> ?_)<;>(try simp at h)<;>try (exfalso;omega))|(refine aB ?_;refine ⟨_,_,_,rfl,Wk.refl _,StSub.refl _, ?_,rfl⟩;try first|rfl|((rw [e]);done))|(apply aI;(iterate 3 exact rfl);(intro _;(first|apply hsh|apply f0|apply f1|apply f2|apply f3)<;>first|assumption|omega);rotate_left;(iterate 2 exact rfl))|(apply aM pk;(iterate 6 exact rfl);rotate_left;exact rfl;(intro hw;exact rfl);(intro hw;apply aF<;>omega);(intro _;exact rfl);exact rfl)))
  |true=>
  rw [if_neg (by simp)] at hC
  cases S with
  |false=>
    rw [if_pos rfl] at hC
    have e:W=11:=by rw [hfin1 (by rw [hC];decide),hC]
    (try (apply wO pk;exact rfl));(repeat' (first|(show All _;constructor)|(show Imp _ _;constructor)|(apply wC pk;(iterate 2 exact rfl))|(apply wE pk;(iterate 2 exact rfl))|(refine aA rfl (fun h=> ?_) (fun h=> ?_)<;>(try simp at h)<;>try (exfalso;omega))|(refine aB ?_;refine ⟨_,_,_,rfl,Wk.refl _,StSub.refl _, ?_,rfl⟩;try first|rfl|((rw [e]);done))|(apply aI;(iterate 3 exact rfl);(intro _;(first|apply hsh|apply f0|apply f1|apply f2|apply f3|apply f4)<;>first|assumption|omega);rotate_left;(iterate 2 exact rfl))|(apply aM pk;(iterate 6 exact rfl);rotate_left;exact rfl;(intro hw;exact rfl);(intro hw;apply aF<;>omega);(intro _;exact rfl);exact rfl)))
  |true=>
  rw [if_neg (by simp)] at hC
  have hw:=hup hC
  (try (apply wO pk;exact rfl));(repeat' (first|(show All _;constructor)|(show Imp _ _;constructor)|(apply wC pk;(iterate 2 exact rfl))|(apply wE pk;(iterate 2 exact rfl))|(refine aA rfl (fun h=> ?_) (fun h=> ?_)<;>(try simp at h)<;>try (exfalso;omega))|(apply aI;(iterate 3 exact rfl);(intro _;(first|apply hsh|apply f0|apply f1|apply f2|apply f3|apply f4)<;>first|assumption|omega);rotate_left;(iterate 2 exact rfl))|(apply aM pk;(iterate 6 exact rfl);rotate_left;exact rfl;(intro hw;exact rfl);(intro hw;apply aF<;>omega);(intro _;exact rfl);exact rfl)|(refine ⟨⟨i+1,by omega,hw⟩, ?_,by simp only;omega⟩;((repeat (first|refine Sub.pv ?_ rfl|refine Sub.var ?_ rfl rfl));exact Sub.nil _ _ _ (StSub.refl _) rfl))|(intros;(try simp only [zql]);omega)))
theorem acR (table sum group:Int):PF Tryz.prog 16 [.agg (scC s), .agg (bsC b),(PV.val (Value.int .i64 (table))),(PV.val (Value.int .i64 (sum))),(PV.val (Value.int .i64 (group)))] (PV.val (Value.int .i64 (totC s b table sum group))):=by
  have h1:=hB.rright
  have h2:=qR hB.bs hB.hn hB.sb hB.len
  have hsl:=hB.len
  by_cases hmay:¬(rightC s=0∧eG T.rightP s b=true∧0≤table∧table<s.length)
  · have e:totC s b table sum group=0:=by
      unfold totC
      rw [dif_neg]
      rintro ⟨q,⟨q1,q2⟩,_⟩
      unfold mayC at q
      rw [Bool.and_eq_true,decide_eq_true_eq] at q
      exact hmay ⟨q.1,q.2,q1,q2⟩
    rw [e]
    generalize rightC s=R at*
    generalize eG T.rightP s b=A at*
    refine aH aD Tryz.func16 (by kernel_rfl) rfl rfl rfl rfl (fun st=> ?_)
    (try (apply wO pk;exact rfl));(repeat' (first|(show All _;constructor)|(show Imp _ _;constructor)|(show ImpX _ _ _ _;constructor)|(apply wC pk;(iterate 2 exact rfl))|(apply wE pk;(iterate 2 exact rfl))|(refine aA rfl (fun h=> ?_) (fun h=> ?_)<;>(try simp at h)<;>try (exfalso;omega))|(refine aB ?_;refine ⟨_,_,_,rfl,Wk.refl _,StSub.refl _, ?_,rfl⟩;try rfl)|(apply aI;(iterate 3 exact rfl);(intro _;(first|apply h1|apply h2)<;>first|assumption|omega);rotate_left;(iterate 2 exact rfl))|((exfalso;simp [gw] at*;grind))))
  obtain ⟨hrc,hg,t1,t2⟩:=Decidable.of_not_not hmay
  obtain ⟨k,rfl⟩:∃k:Nat,table=(k:Int):=⟨table.toNat,by omega⟩
  have hk:k<s.length:=by omega
  have hmay2:mayC s b=true:=by unfold mayC;rw [hg,decide_eq_true hrc];rfl
  rw [hrc] at h1
  rw [hg] at h2
  have hrs:=pU hrc
  obtain ⟨n1,n2,n3,n4,n5⟩:=aaL hrs hk
  by_cases hs:¬(0≤sum∧sum<s[k].sums.length)
  · have e:totC s b k sum group=0:=by
      unfold totC
      rw [dif_neg]
      rintro ⟨_,_,q⟩
      rw [Int.toNat_natCast,getElem!_pos s k hk] at q
      exact hs q
    rw [e]
    refine aH aD Tryz.func16 (by kernel_rfl) rfl rfl rfl rfl (fun st=> ?_)
    (try (apply wO pk;exact rfl));(repeat' (first|(show All _;constructor)|(show Imp _ _;constructor)|(show ImpX _ _ _ _;constructor)|(apply wC pk;(iterate 2 exact rfl))|(apply wE pk;(iterate 2 exact rfl))|(refine aA rfl (fun h=> ?_) (fun h=> ?_)<;>(try simp at h)<;>try (exfalso;omega))|(refine aB ?_;refine ⟨_,_,_,rfl,Wk.refl _,StSub.refl _, ?_,rfl⟩;try rfl)|(apply aI;(iterate 3 exact rfl);(intro _;(first|apply h1|apply h2)<;>first|assumption|omega);rotate_left;(iterate 2 exact rfl))|(apply aM pk;(iterate 6 exact rfl);rotate_left;exact rfl;(intro hw;exact rfl);(intro hw;apply aF<;>omega);(intro _;exact rfl);exact rfl)))
  replace hs:=Decidable.of_not_not hs
  obtain ⟨y,rfl⟩:∃y:Nat,sum=(y:Int):=⟨sum.toNat,by omega⟩
  have hy:y<s[k].sums.length:=by omega
  have hT:=pV hg hk (List.getElem_mem hy)
  have e:totC s b k y group=dI s[k].sums[y] group (bQ aZ b k):=by
    unfold totC
    rw [dif_pos ⟨hmay2,⟨by omega,by omega⟩,by omega,by rw [Int.toNat_natCast,getElem!_pos s k hk];omega⟩]
    rw [Int.toNat_natCast,Int.toNat_natCast,getElem!_pos s k hk,getElem!_pos s[k].sums y hy]
  rw [e]
  have hsh:=oC hB.bs hB.hn (k:Int)
  have hts:=sW (bQ aZ b k) s[k].sums[y] group hT
  generalize dI s[k].sums[y] group (bQ aZ b k)=R at*
  generalize bQ aZ b k=rows at*
  refine aH aD Tryz.func16 (by kernel_rfl) rfl rfl rfl rfl (fun st=> ?_)
  (try (apply wO pk;exact rfl));(repeat' (first|(show All _;constructor)|(show Imp _ _;constructor)|(show ImpX _ _ _ _;constructor)|(apply wC pk;(iterate 2 exact rfl))|(apply wE pk;(iterate 2 exact rfl))|(apply wD pk [] [];kernel_rfl;exact rfl;exact rfl)|(refine aA rfl (fun h=> ?_) (fun h=> ?_)<;>(try simp at h)<;>try (exfalso;omega))|(refine aB ?_;refine ⟨_,_,_,rfl,Wk.refl _,StSub.refl _, ?_,rfl⟩;try rfl)|(apply aI;(iterate 3 exact rfl);(intro _;(first|apply h1|apply h2|apply hsh|apply hts)<;>first|assumption|omega);rotate_left;(iterate 2 exact rfl))|(apply aM pk;(iterate 6 exact rfl);rotate_left;exact rfl;(intro hw;exact rfl);(intro hw;apply aF<;>omega);(intro _;exact rfl);exact rfl)))
end
end Go.Proofs.YtcglimangneafaaGreatDoor
