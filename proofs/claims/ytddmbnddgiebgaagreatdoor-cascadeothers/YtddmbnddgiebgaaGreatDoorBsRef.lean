import Derived.Test.YtddmbnddgiebgaaGreatDoorBsWrote
set_option linter.unusedSimpArgs false
set_option linter.unusedVariables false
namespace Go.Proofs.YtddmbnddgiebgaaGreatDoor
open Go Go.Abs
attribute [local irreducible] Ev PWp
set_option maxRecDepth 10000
set_option maxHeartbeats 2000000
theorem agW (a b:List Dt) (hb:a.length<4611686018427387904):PF Tryz.prog 49 [.seq (a.map Dt.cells), .seq (b.map Dt.cells)] (PV.val (Value.bool (decide (a=b)))):=by
  by_cases hl:¬(a.length=b.length)
  · have e:decide (a=b)=false:=decide_eq_false fun q=>hl (by rw [q])
    refine aL aH Tryz.func49 (by kernel_rfl) rfl rfl rfl rfl (fun st=> ?_)
    (try (apply wO pk;exact rfl));(repeat' (first|(show All _;constructor)|(show Imp _ _;constructor)|(show ImpX _ _ _ _;constructor)|(apply wC pk;(iterate 2 exact rfl))|(apply wE pk;(iterate 2 exact rfl))|(apply wX pk;exact rfl)|(apply wN pk;exact rfl)|(apply wD pk [] [];kernel_rfl;exact rfl;exact rfl)|(apply aC;simp only [zqt,zqf])|(refine aD rfl (fun h=> ?_) (fun h=> ?_)<;>(try simp at h)<;>try (exfalso;omega))|(refine aF ?_;refine ⟨_,_,_,rfl,Wk.refl _,StSub.refl _, ?_,rfl⟩;try first|rfl|((first|(rw [e];done)|(exfalso;omega));done))|(intros;(try simp only [zql]);omega)))
  replace hl:=Decidable.of_not_not hl
  refine aL aH Tryz.func49 (by kernel_rfl) rfl rfl rfl rfl (fun st=> ?_)
  (try (apply wO pk;exact rfl));(repeat' (first|(show All _;constructor)|(show Imp _ _;constructor)|(show ImpX _ _ _ _;constructor)|(apply wC pk;(iterate 2 exact rfl))|(apply wE pk;(iterate 2 exact rfl))|(apply wX pk;exact rfl)|(apply wN pk;exact rfl)|(apply wD pk [] [];kernel_rfl;exact rfl;exact rfl)|(apply aC;simp only [zqt,zqf])|(refine aD rfl (fun h=> ?_) (fun h=> ?_)<;>(try simp at h)<;>try (exfalso;omega))|(refine aF ?_;refine ⟨_,_,_,rfl,Wk.refl _,StSub.refl _, ?_,rfl⟩;try first|rfl|((exfalso;omega);done))|(intros;(try simp only [zql]);omega)))
  refine aP (X:={x:Nat//x≤a.length∧∀j (h:j<x) (h1:j<a.length) (h2:j<b.length),a[j]=b[j]}) (fun i=>((((St.nil 26 st).pv 0 (.seq (a.map Dt.cells))).pv 1 (.seq (b.map Dt.cells))).pv 5 ((PV.val (Value.int .i64 ((i.1:Nat))))))) (fun i=>a.length-i.1) ⟨0,by omega,fun _ h=>absurd h (Nat.not_lt_zero _)⟩ ?_ (fun i=> ?_)
  · ((repeat (first|refine Sub.pv ?_ rfl|refine Sub.var ?_ rfl rfl));exact Sub.nil _ _ _ (StSub.refl _) rfl)
  obtain ⟨i,hi,hI⟩:=i
  dsimp only
  by_cases hend:a.length≤i
  · have e:decide (a=b)=true:=decide_eq_true (List.ext_getElem hl fun j h1 h2=>hI j (by omega) h1 h2)
    (try (apply wO pk;exact rfl));(repeat' (first|(show All _;constructor)|(show Imp _ _;constructor)|(show ImpX _ _ _ _;constructor)|(apply wC pk;(iterate 2 exact rfl))|(apply wE pk;(iterate 2 exact rfl))|(apply wX pk;exact rfl)|(apply wN pk;exact rfl)|(apply wD pk [] [];kernel_rfl;exact rfl;exact rfl)|(apply aC;simp only [zqt,zqf])|(refine aD rfl (fun h=> ?_) (fun h=> ?_)<;>(try simp at h)<;>try (exfalso;omega))|(refine aF ?_;refine ⟨_,_,_,rfl,Wk.refl _,StSub.refl _, ?_,rfl⟩;try first|rfl|((rw [e]);done))|(intros;(try simp only [zql]);omega)))
  have h1:i<a.length:=by omega
  have h2:i<b.length:=by omega
  have hF:¬a[i]=b[i]→decide (a=b)=false:=fun h=>decide_eq_false fun q=>h (by subst q;rfl)
  have hS:a[i]=b[i]→∀j (h:j<i+1) (h1:j<a.length) (h2:j<b.length),a[j]=b[j]:=fun h j hj h1 h2=>by
    rcases Nat.lt_succ_iff_lt_or_eq.1 hj with q|q
    · exact hI j q h1 h2
    · subst q;exact h
  rw [Dt.ext_iff] at hF hS
  (try (apply wO pk;exact rfl));(repeat' (first|(show All _;constructor)|(show Imp _ _;constructor)|(show ImpX _ _ _ _;constructor)|(apply wC pk;(iterate 2 exact rfl))|(apply wE pk;(iterate 2 exact rfl))|(apply wX pk;exact rfl)|(apply wN pk;exact rfl)|(apply wD pk [] [];kernel_rfl;exact rfl;exact rfl)|(apply aC;simp only [zqt,zqf])|(refine aD rfl (fun h=> ?_) (fun h=> ?_)<;>(try simp at h)<;>try (exfalso;omega))|(refine aF ?_;refine ⟨_,_,_,rfl,Wk.refl _,StSub.refl _, ?_,rfl⟩;try first|rfl|((rw [hF (by grind)]);done))|(apply bC pk;(iterate 6 exact rfl);rotate_left;exact rfl;(intro hw;exact rfl);(intro hw;apply aJ<;>omega);(intro _;exact rfl);exact rfl)|(refine ⟨⟨i+1,by omega,hS (by assumption)⟩, ?_,by simp only;omega⟩;((repeat (first|refine Sub.pv ?_ rfl|refine Sub.var ?_ rfl rfl));exact Sub.nil _ _ _ (StSub.refl _) rfl))|(intros;(try simp only [zql]);omega)))
theorem aiI (a b:Cl) (hb:a.parts.length<4611686018427387904):PF Tryz.prog 50 [.agg a.cells, .agg b.cells] (PV.val (Value.bool (decide (a=b)))):=by
  by_cases hl:¬(a.kind=b.kind∧(a.val.kind=b.val.kind∧a.val.n=b.val.n∧a.val.s=b.val.s)∧a.parts.length=b.parts.length)
  · have e:decide (a=b)=false:=decide_eq_false fun q=>hl (by rw [q];simp)
    rw [e]
    have hx:(a.kind=b.kind∧a.val.kind=b.val.kind∧a.val.n=b.val.n∧a.val.s=b.val.s)∧(a.parts.length:Int)=(b.parts.length:Int)→False:=fun h=>hl ⟨h.1.1,h.1.2,by omega⟩
    refine aL aH Tryz.func50 (by kernel_rfl) rfl rfl rfl rfl (fun st=> ?_)
    (try (apply wO pk;exact rfl));(repeat' (first|(exact (hx (by assumption)).elim)|(show All _;constructor)|(show Imp _ _;constructor)|(show ImpX _ _ _ _;constructor)|(apply wC pk;(iterate 2 exact rfl))|(apply wE pk;(iterate 2 exact rfl))|(apply wX pk;exact rfl)|(apply wN pk;exact rfl)|(apply wD pk [] [];kernel_rfl;exact rfl;exact rfl)|(apply aC;simp only [zqt,zqf])|(refine aD rfl (fun h=> ?_) (fun h=> ?_)<;>(try simp at h)<;>try (exfalso;omega))|(refine aF ?_;refine ⟨_,_,_,rfl,Wk.refl _,StSub.refl _, ?_,rfl⟩;try first|rfl|((exfalso;grind);done))|(intros;(try simp only [zql]);omega)))
  replace hl:=Decidable.of_not_not hl
  obtain ⟨k1,⟨k2,k3,k4⟩,k5⟩:=hl
  have hv:a.val=b.val:=(Vl.ext_iff _ _).2 ⟨k2,k3,k4⟩
  refine aL aH Tryz.func50 (by kernel_rfl) rfl rfl rfl rfl (fun st=> ?_)
  (try (apply wO pk;exact rfl));(repeat' (first|(show All _;constructor)|(show Imp _ _;constructor)|(show ImpX _ _ _ _;constructor)|(apply wC pk;(iterate 2 exact rfl))|(apply wE pk;(iterate 2 exact rfl))|(apply wX pk;exact rfl)|(apply wN pk;exact rfl)|(apply wD pk [] [];kernel_rfl;exact rfl;exact rfl)|(apply aC;simp only [zqt,zqf])|(refine aD rfl (fun h=> ?_) (fun h=> ?_)<;>(try simp at h)<;>try (exfalso;omega))|(refine aF ?_;refine ⟨_,_,_,rfl,Wk.refl _,StSub.refl _, ?_,rfl⟩;try first|rfl|((exfalso;grind);done))|(intros;(try simp only [zql]);omega)))
  refine aP (X:={x:Nat//x≤a.parts.length∧∀j (h:j<x) (h1:j<a.parts.length) (h2:j<b.parts.length),a.parts[j]=b.parts[j]}) (fun i=>((((St.nil 45 st).var 2 75 (a.cells)).var 3 75 (b.cells)).pv 5 ((PV.val (Value.int .i64 ((i.1:Nat))))))) (fun i=>a.parts.length-i.1) ⟨0,by omega,fun _ h=>absurd h (Nat.not_lt_zero _)⟩ ?_ (fun i=> ?_)
  · ((repeat (first|refine Sub.pv ?_ rfl|refine Sub.var ?_ rfl rfl));exact Sub.nil _ _ _ (StSub.refl _) rfl)
  obtain ⟨i,hi,hI⟩:=i
  dsimp only
  by_cases hend:a.parts.length≤i
  · have e:decide (a=b)=true:=decide_eq_true ((Cl.ext_iff _ _).2 ⟨k1,hv,List.ext_getElem k5 fun j h1 h2=>hI j (by omega) h1 h2⟩)
    (try (apply wO pk;exact rfl));(repeat' (first|(show All _;constructor)|(show Imp _ _;constructor)|(show ImpX _ _ _ _;constructor)|(apply wC pk;(iterate 2 exact rfl))|(apply wE pk;(iterate 2 exact rfl))|(apply wX pk;exact rfl)|(apply wN pk;exact rfl)|(apply wD pk [] [];kernel_rfl;exact rfl;exact rfl)|(apply aC;simp only [zqt,zqf])|(refine aD rfl (fun h=> ?_) (fun h=> ?_)<;>(try simp at h)<;>try (exfalso;omega))|(refine aF ?_;refine ⟨_,_,_,rfl,Wk.refl _,StSub.refl _, ?_,rfl⟩;try first|rfl|((rw [e]);done))|(intros;(try simp only [zql]);omega)))
  have h1:i<a.parts.length:=by omega
  have h2:i<b.parts.length:=by omega
  have hF:¬a.parts[i]=b.parts[i]→decide (a=b)=false:=fun h=>decide_eq_false fun q=>h (by subst q;rfl)
  have hS:a.parts[i]=b.parts[i]→∀j (h:j<i+1) (h1:j<a.parts.length) (h2:j<b.parts.length),a.parts[j]=b.parts[j]:=fun h j hj h1 h2=>by
    rcases Nat.lt_succ_iff_lt_or_eq.1 hj with q|q
    · exact hI j q h1 h2
    · subst q;exact h
  rw [Pt.ext_iff,Vl.ext_iff,Dt.ext_iff,Dt.ext_iff] at hF hS
  (try (apply wO pk;exact rfl));(repeat' (first|(show All _;constructor)|(show Imp _ _;constructor)|(show ImpX _ _ _ _;constructor)|(apply wC pk;(iterate 2 exact rfl))|(apply wE pk;(iterate 2 exact rfl))|(apply wX pk;exact rfl)|(apply wN pk;exact rfl)|(apply wD pk [] [];kernel_rfl;exact rfl;exact rfl)|(apply aC;simp only [zqt,zqf])|(refine aD rfl (fun h=> ?_) (fun h=> ?_)<;>(try simp at h)<;>try (exfalso;omega))|(refine aF ?_;refine ⟨_,_,_,rfl,Wk.refl _,StSub.refl _, ?_,rfl⟩;try first|rfl|((rw [hF (by grind)]);done))|(apply bC pk;(iterate 6 exact rfl);rotate_left;exact rfl;(intro hw;exact rfl);(intro hw;apply aJ<;>omega);(intro _;exact rfl);exact rfl)|(refine ⟨⟨i+1,by omega,hS (by grind)⟩, ?_,by simp only;omega⟩;((repeat (first|refine Sub.pv ?_ rfl|refine Sub.var ?_ rfl rfl));exact Sub.nil _ _ _ (StSub.refl _) rfl))|(intros;(try simp only [zql]);omega)))
theorem mY (a b:Ln) (h1:a.by_.length<4611686018427387904) (hb:a.cells_.length<4611686018427387904) (hp:∀c∈a.cells_,c.parts.length<4611686018427387904):PF Tryz.prog 20 [.agg a.cells, .agg b.cells] (PV.val (Value.bool (decide (a=b)))):=by
  have hd:=agW a.by_ b.by_ h1
  by_cases hl:¬((a.key=b.key∧a.cells_.length=b.cells_.length)∧a.by_=b.by_)
  · have e:decide (a=b)=false:=decide_eq_false fun q=>hl (by rw [q];simp)
    rw [e]
    have hx:(a.key=b.key∧(a.cells_.length:Int)=(b.cells_.length:Int))∧a.by_=b.by_→False:=fun h=>hl ⟨⟨h.1.1,by omega⟩,h.2⟩
    refine aL aH Tryz.func20 (by kernel_rfl) rfl rfl rfl rfl (fun st=> ?_)
    (try (apply wO pk;exact rfl));(repeat' (first|(exact (hx (by assumption)).elim)|(show All _;constructor)|(show Imp _ _;constructor)|(show ImpX _ _ _ _;constructor)|(apply wC pk;(iterate 2 exact rfl))|(apply wE pk;(iterate 2 exact rfl))|(apply wX pk;exact rfl)|(apply wN pk;exact rfl)|(apply wD pk [] [];kernel_rfl;exact rfl;exact rfl)|(apply aC;simp only [zqt,zqf])|(refine aD rfl (fun h=> ?_) (fun h=> ?_)<;>(try simp at h)<;>try (exfalso;omega))|(refine aF ?_;refine ⟨_,_,_,rfl,Wk.refl _,StSub.refl _, ?_,rfl⟩;try first|rfl|((exfalso;grind);done))|(apply aK;(iterate 3 exact rfl);(intro _;apply hd<;>first|assumption|omega);rotate_left;(iterate 2 exact rfl))|(intros;(try simp only [zql]);omega)))
  replace hl:=Decidable.of_not_not hl
  obtain ⟨⟨k1,k5⟩,k2⟩:=hl
  refine aL aH Tryz.func20 (by kernel_rfl) rfl rfl rfl rfl (fun st=> ?_)
  (try (apply wO pk;exact rfl));(repeat' (first|(show All _;constructor)|(show Imp _ _;constructor)|(show ImpX _ _ _ _;constructor)|(apply wC pk;(iterate 2 exact rfl))|(apply wE pk;(iterate 2 exact rfl))|(apply wX pk;exact rfl)|(apply wN pk;exact rfl)|(apply wD pk [] [];kernel_rfl;exact rfl;exact rfl)|(apply aC;simp only [zqt,zqf])|(refine aD rfl (fun h=> ?_) (fun h=> ?_)<;>(try simp at h)<;>try (exfalso;omega))|(refine aF ?_;refine ⟨_,_,_,rfl,Wk.refl _,StSub.refl _, ?_,rfl⟩;try first|rfl|((exfalso;grind);done))|(apply aK;(iterate 3 exact rfl);(intro _;apply hd<;>first|assumption|omega);rotate_left;(iterate 2 exact rfl))|(intros;(try simp only [zql]);omega)))
  refine aP (X:={x:Nat//x≤a.cells_.length∧∀j (h:j<x) (h1:j<a.cells_.length) (h2:j<b.cells_.length),a.cells_[j]=b.cells_[j]}) (fun i=>((((St.nil 47 st).var 2 43 (a.cells)).var 3 43 (b.cells)).pv 5 ((PV.val (Value.int .i64 ((i.1:Nat))))))) (fun i=>a.cells_.length-i.1) ⟨0,by omega,fun _ h=>absurd h (Nat.not_lt_zero _)⟩ ?_ (fun i=> ?_)
  · ((repeat (first|refine Sub.pv ?_ rfl|refine Sub.var ?_ rfl rfl));exact Sub.nil _ _ _ (StSub.refl _) rfl)
  obtain ⟨i,hi,hI⟩:=i
  dsimp only
  by_cases hend:a.cells_.length≤i
  · have e:decide (a=b)=true:=decide_eq_true ((Ln.ext_iff _ _).2 ⟨k1,List.ext_getElem k5 fun j h1 h2=>hI j (by omega) h1 h2,k2⟩)
    (try (apply wO pk;exact rfl));(repeat' (first|(show All _;constructor)|(show Imp _ _;constructor)|(show ImpX _ _ _ _;constructor)|(apply wC pk;(iterate 2 exact rfl))|(apply wE pk;(iterate 2 exact rfl))|(apply wX pk;exact rfl)|(apply wN pk;exact rfl)|(apply wD pk [] [];kernel_rfl;exact rfl;exact rfl)|(apply aC;simp only [zqt,zqf])|(refine aD rfl (fun h=> ?_) (fun h=> ?_)<;>(try simp at h)<;>try (exfalso;omega))|(refine aF ?_;refine ⟨_,_,_,rfl,Wk.refl _,StSub.refl _, ?_,rfl⟩;try first|rfl|((rw [e]);done))|(intros;(try simp only [zql]);omega)))
  have h1:i<a.cells_.length:=by omega
  have h2:i<b.cells_.length:=by omega
  have hF:¬a.cells_[i]=b.cells_[i]→decide (a=b)=false:=fun h=>decide_eq_false fun q=>h (by subst q;rfl)
  have hS:a.cells_[i]=b.cells_[i]→∀j (h:j<i+1) (h1:j<a.cells_.length) (h2:j<b.cells_.length),a.cells_[j]=b.cells_[j]:=fun h j hj h1 h2=>by
    rcases Nat.lt_succ_iff_lt_or_eq.1 hj with q|q
    · exact hI j q h1 h2
    · subst q;exact h
  have hs:=aiI a.cells_[i] b.cells_[i] (hp _ (List.getElem_mem h1))
  (try (apply wO pk;exact rfl));(repeat' (first|(show All _;constructor)|(show Imp _ _;constructor)|(show ImpX _ _ _ _;constructor)|(apply wC pk;(iterate 2 exact rfl))|(apply wE pk;(iterate 2 exact rfl))|(apply wX pk;exact rfl)|(apply wN pk;exact rfl)|(apply wD pk [] [];kernel_rfl;exact rfl;exact rfl)|(apply aC;simp only [zqt,zqf])|(refine aD rfl (fun h=> ?_) (fun h=> ?_)<;>(try simp at h)<;>try (exfalso;omega))|(refine aF ?_;refine ⟨_,_,_,rfl,Wk.refl _,StSub.refl _, ?_,rfl⟩;try first|rfl|((rw [hF (by grind)]);done))|(apply aK;(iterate 3 exact rfl);(intro _;apply hs<;>first|assumption|omega);rotate_left;(iterate 2 exact rfl))|(apply bC pk;(iterate 6 exact rfl);rotate_left;exact rfl;(intro hw;exact rfl);(intro hw;apply aJ<;>omega);(intro _;exact rfl);exact rfl)|(refine ⟨⟨i+1,by omega,hS (by assumption)⟩, ?_,by simp only;omega⟩;((repeat (first|refine Sub.pv ?_ rfl|refine Sub.var ?_ rfl rfl));exact Sub.nil _ _ _ (StSub.refl _) rfl))|(intros;(try simp only [zql]);omega)))
def jP (c:Cl):Bool:=decide (c.parts.length≤40)&&decide (c.val.s.size≤400)
def eG (a:Ln):Bool:=a.cells_.all jP&&(decide (a.cells_.length≤20)&&decide (a.by_.length≤60))
theorem tT (a:Ln) (hl:a.cells_.length<4611686018427387904):PF Tryz.prog 52 [.agg a.cells] (PV.val (Value.bool (eG a))):=by
  refine aL aH Tryz.func52 (by kernel_rfl) rfl rfl rfl rfl (fun st=> ?_)
  (try (apply wO pk;exact rfl));(repeat' (first|(show All _;constructor)|(show Imp _ _;constructor)|(show ImpX _ _ _ _;constructor)|(apply wC pk;(iterate 2 exact rfl))|(apply wE pk;(iterate 2 exact rfl))|(apply wX pk;exact rfl)|(apply wN pk;exact rfl)|(apply wD pk [] [];kernel_rfl;exact rfl;exact rfl)|(apply aC;simp only [zqt,zqf])|(refine aD rfl (fun h=> ?_) (fun h=> ?_)<;>(try simp at h)<;>try (exfalso;omega))|(refine aF ?_;refine ⟨_,_,_,rfl,Wk.refl _,StSub.refl _, ?_,rfl⟩;try rfl)|(intros;(try simp only [zql]);omega)))
  refine aP (X:={x:Nat//x≤a.cells_.length∧∀j (h:j<x) (h1:j<a.cells_.length),jP a.cells_[j]=true}) (fun i=>(((St.nil 40 st).var 1 43 (a.cells)).pv 3 ((PV.val (Value.int .i64 ((i.1:Nat))))))) (fun i=>a.cells_.length-i.1) ⟨0,by omega,fun _ h=>absurd h (Nat.not_lt_zero _)⟩ ?_ (fun i=> ?_)
  · ((repeat (first|refine Sub.pv ?_ rfl|refine Sub.var ?_ rfl rfl));exact Sub.nil _ _ _ (StSub.refl _) rfl)
  obtain ⟨i,hi,hI⟩:=i
  dsimp only
  by_cases hend:a.cells_.length≤i
  · have e:a.cells_.all jP=true:=List.all_eq_true.2 fun c hc=>by
      obtain ⟨j,hj,rfl⟩:=List.getElem_of_mem hc
      exact hI j (by omega) hj
    unfold eG
    rw [e,Bool.true_and]
    have e2:(decide (((a.cells_.map Cl.cells).length:Int)≤20)&&decide (((a.by_.map Dt.cells).length:Int)≤60))=(decide (a.cells_.length≤20)&&decide (a.by_.length≤60)):=by
      rw [Bool.eq_iff_iff];simp only [Bool.and_eq_true,decide_eq_true_eq,zql];omega
    (try (apply wO pk;exact rfl));(repeat' (first|(show All _;constructor)|(show Imp _ _;constructor)|(show ImpX _ _ _ _;constructor)|(apply wC pk;(iterate 2 exact rfl))|(apply wE pk;(iterate 2 exact rfl))|(apply wX pk;exact rfl)|(apply wN pk;exact rfl)|(apply wD pk [] [];kernel_rfl;exact rfl;exact rfl)|(apply aC;simp only [zqt,zqf])|(refine aD rfl (fun h=> ?_) (fun h=> ?_)<;>(try simp at h)<;>try (exfalso;omega))|(refine aF ?_;refine ⟨_,_,_,rfl,Wk.refl _,StSub.refl _, ?_,rfl⟩;try first|rfl|((rw [e2]);done))|(intros;(try simp only [zql]);omega)))
  have h1:i<a.cells_.length:=by omega
  have hF:jP a.cells_[i]=false→eG a=false:=fun h=>by
    unfold eG
    have:a.cells_.all jP=false:=by
      rw [←Bool.not_eq_true,List.all_eq_true]
      intro q;rw [q _ (List.getElem_mem h1)] at h;cases h
    rw [this];rfl
  have hS:jP a.cells_[i]=true→∀j (h:j<i+1) (h1:j<a.cells_.length),jP a.cells_[j]=true:=fun h j hj h1=>by
    rcases Nat.lt_succ_iff_lt_or_eq.1 hj with q|q
    · exact hI j q h1
    · subst q;exact h
  unfold jP at hF hS
  (try (apply wO pk;exact rfl));(repeat' (first|(show All _;constructor)|(show Imp _ _;constructor)|(show ImpX _ _ _ _;constructor)|(apply wC pk;(iterate 2 exact rfl))|(apply wE pk;(iterate 2 exact rfl))|(apply wX pk;exact rfl)|(apply wN pk;exact rfl)|(apply wD pk [] [];kernel_rfl;exact rfl;exact rfl)|(apply aC;simp only [zqt,zqf])|(refine aD rfl (fun h=> ?_) (fun h=> ?_)<;>(try simp at h)<;>try (exfalso;omega))|(refine aF ?_;refine ⟨_,_,_,rfl,Wk.refl _,StSub.refl _, ?_,rfl⟩;try first|rfl|((rw [hF (by simp;omega)]);done))|(apply bC pk;(iterate 6 exact rfl);rotate_left;exact rfl;(intro hw;exact rfl);(intro hw;apply aJ<;>omega);(intro _;exact rfl);exact rfl)|(refine ⟨⟨i+1,by omega,hS (by simp;omega)⟩, ?_,by simp only;omega⟩;((repeat (first|refine Sub.pv ?_ rfl|refine Sub.var ?_ rfl rfl));exact Sub.nil _ _ _ (StSub.refl _) rfl))|(intros;(try simp only [zql]);omega)))
def iV (l:List Ln) (k:Int):Option Ln:=l.find? fun x=>decide (x.key=k)
def atG :Option Ln→PV
  |some x=> .tup [.agg x.cells,(PV.val (Value.bool (true)))]
  |none=> .tup [.agg Ln.zero.cells,(PV.val (Value.bool (false)))]
theorem afC {α:Type} {f:α→Bool} {l:List α} {i:Nat} (h:i<l.length) (hf:f l[i]=true) (hn:∀j (h:j<i) (h2:j<l.length),f l[j]=false):l.find? f=some l[i]:=
  List.find?_eq_some_iff_getElem.2 ⟨hf,i,h,rfl,fun j hj=>by rw [hn j hj (by omega)];rfl⟩
theorem asF (l:List Ln) (k:Int):(∃j:Nat,∃h:j<l.length,atP l k=(((j:Nat):Int),true)∧iV l k=some l[j])∨((atP l k).2=false∧iV l k=none):=by
  unfold atP iV
  cases h:l.findIdx? fun x:Ln=>decide (x.key=k) with
  |some j=>
    left
    obtain ⟨hj,hf,hn⟩:=List.findIdx?_eq_some_iff_getElem.1 h
    refine ⟨j,hj, ?_,afC hj hf fun q hq h2=>by simpa using hn q hq⟩
    have e:dB (fun x:Ln=>decide (x.key=k)) l=j:=by unfold dB;rw [h]
    rw [e,if_pos (by omega)]
  |none=>
    right
    have e:dB (fun x:Ln=>decide (x.key=k)) l= -1:=by unfold dB;rw [h]
    rw [e,if_neg (by omega)]
    refine ⟨by split<;>rfl,List.find?_eq_none.2 fun x hx=>by rw [List.findIdx?_eq_none_iff.1 h x hx];simp⟩
theorem tG (b:Bs) (k key:Int) (hll:∀d∈b,d.lines.length<100000000000):PF Tryz.prog 16 [.agg (bsC b),(PV.val (Value.int .i64 (k))),(PV.val (Value.int .i64 (key)))] (atG (iV (bT b k) key)):=by
  cases hok:okT b k with
  |false=>
    have ho:=aeY b k hok
    have ha:=xH [] key (by simp)
    rw [arT] at ha
    have e:bT b k=[]:=by unfold bT;rw [hok];rfl
    rw [e,show iV [] key=none from rfl]
    refine aL aH Tryz.func16 (by kernel_rfl) rfl rfl rfl rfl (fun st=> ?_)
    (try (apply wO pk;exact rfl));(repeat' (first|(show All _;constructor)|(show Imp _ _;constructor)|(show ImpX _ _ _ _;constructor)|(apply wC pk;(iterate 2 exact rfl))|(apply wE pk;(iterate 2 exact rfl))|(apply wX pk;exact rfl)|(apply wN pk;exact rfl)|(apply wD pk [] [];kernel_rfl;exact rfl;exact rfl)|(apply aC;simp only [zqt,zqf])|(refine aD rfl (fun h=> ?_) (fun h=> ?_)<;>(try simp at h)<;>try (exfalso;omega))|(refine aF ?_;first|(refine ⟨_,_,_,rfl,Wk.refl _,StSub.refl _, ?_,rfl⟩;(first|rfl))|(refine ⟨_,_,_,rfl,Wk.refl _,aN (by assumption), ?_,rfl⟩;(first|rfl))|(refine ⟨_,_,_,rfl,Wk.soft _,StSub.refl _, ?_,rfl⟩;(first|rfl))|(refine ⟨_,_,_,rfl,Wk.soft _,aN (by assumption), ?_,rfl⟩;(first|rfl))|(refine ⟨_,_,_,rfl,Wk.refl _,StSub.refl _, ?_,rfl⟩)|(refine ⟨_,_,_,rfl,Wk.soft _,aN (by assumption), ?_,rfl⟩))|(apply aK;(iterate 3 exact rfl);(intro _;(first|apply ho|apply ha)<;>first|assumption|omega);rotate_left;(iterate 2 exact rfl))|(intros;(try simp only [zql]);omega)))
  |true=>
    obtain ⟨q,rfl,hq⟩:∃q:Nat,k=q∧q<b.length:=by
      unfold okT at hok
      simp only [Bool.and_eq_true,decide_eq_true_eq] at hok
      exact ⟨k.toNat,by omega,by omega⟩
    have ho:=sW b q hq
    have hlq:=hll b[q] (List.getElem_mem hq)
    have hln:bT b q=b[q].lines:=by unfold bT;rw [if_pos hok];simp [hq]
    rw [hln]
    generalize hLe:b[q].lines=L at*
    have ha:=xH L key (by omega)
    rcases asF L key with ⟨j,hj,e1,e2⟩|⟨e1,e2⟩
    · rw [e1] at ha
      rw [e2]
      refine aL aH Tryz.func16 (by kernel_rfl) rfl rfl rfl rfl (fun st=> ?_)
      (try (apply wO pk;exact rfl));(repeat' (first|(show All _;constructor)|(show Imp _ _;constructor)|(show ImpX _ _ _ _;constructor)|(apply wC pk;(iterate 2 exact rfl))|(apply wE pk;(iterate 2 exact rfl))|(apply wX pk;exact rfl)|(apply wN pk;exact rfl)|(apply wD pk [] [];kernel_rfl;exact rfl;exact rfl)|(apply aC;simp only [zqt,zqf])|(refine aD rfl (fun h=> ?_) (fun h=> ?_)<;>(try simp at h)<;>try (exfalso;omega))|(refine aF ?_;refine ⟨_,_,_,rfl,Wk.refl _,StSub.refl _, ?_,rfl⟩;try rfl)|(apply aK;(iterate 3 exact rfl);(intro _;(first|apply ho|apply ha)<;>first|assumption|omega);rotate_left;(iterate 2 exact rfl))|(apply bC pk;(iterate 6 exact rfl);rotate_left;exact rfl;(intro hw;exact rfl);(intro hw;apply aJ<;>omega);(intro _;exact rfl);exact rfl)|(intros;(try simp only [zql]);omega)))
    · rw [e1] at ha
      rw [e2]
      refine aL aH Tryz.func16 (by kernel_rfl) rfl rfl rfl rfl (fun st=> ?_)
      (try (apply wO pk;exact rfl));(repeat' (first|(show All _;constructor)|(show Imp _ _;constructor)|(show ImpX _ _ _ _;constructor)|(apply wC pk;(iterate 2 exact rfl))|(apply wE pk;(iterate 2 exact rfl))|(apply wX pk;exact rfl)|(apply wN pk;exact rfl)|(apply wD pk [] [];kernel_rfl;exact rfl;exact rfl)|(apply aC;simp only [zqt,zqf])|(refine aD rfl (fun h=> ?_) (fun h=> ?_)<;>(try simp at h)<;>try (exfalso;omega))|(refine aF ?_;first|(refine ⟨_,_,_,rfl,Wk.refl _,StSub.refl _, ?_,rfl⟩;(first|rfl))|(refine ⟨_,_,_,rfl,Wk.refl _,aN (by assumption), ?_,rfl⟩;(first|rfl))|(refine ⟨_,_,_,rfl,Wk.soft _,StSub.refl _, ?_,rfl⟩;(first|rfl))|(refine ⟨_,_,_,rfl,Wk.soft _,aN (by assumption), ?_,rfl⟩;(first|rfl))|(refine ⟨_,_,_,rfl,Wk.refl _,StSub.refl _, ?_,rfl⟩)|(refine ⟨_,_,_,rfl,Wk.soft _,aN (by assumption), ?_,rfl⟩))|(apply aK;(iterate 3 exact rfl);(intro _;(first|apply ho|apply ha)<;>first|assumption|omega);rotate_left;(iterate 2 exact rfl))|(intros;(try simp only [zql]);omega)))
theorem adI (a b:Bs) (hb:a.length<4611686018427387904) (hp:∀d∈a,d.lines.length<1000000000000∧∀x∈d.lines,x.by_.length<1000000000000∧x.cells_.length<1000000000000∧∀c∈x.cells_,c.parts.length<1000000000000):PF Tryz.prog 13 [.agg (bsC a), .agg (bsC b)] (PV.val (Value.bool (decide (a=b)))):=by
  by_cases hl:¬(a.length=b.length)
  · have e:decide (a=b)=false:=decide_eq_false fun q=>hl (by rw [q])
    refine aL aH Tryz.func13 (by kernel_rfl) rfl rfl rfl rfl (fun st=> ?_)
    (try (apply wO pk;exact rfl));(repeat' (first|(show All _;constructor)|(show Imp _ _;constructor)|(show ImpX _ _ _ _;constructor)|(apply wC pk;(iterate 2 exact rfl))|(apply wE pk;(iterate 2 exact rfl))|(apply wX pk;exact rfl)|(apply wN pk;exact rfl)|(apply wD pk [] [];kernel_rfl;exact rfl;exact rfl)|(apply aC;simp only [zqt,zqf])|(refine aD rfl (fun h=> ?_) (fun h=> ?_)<;>(try simp at h)<;>try (exfalso;omega))|(refine aF ?_;refine ⟨_,_,_,rfl,Wk.refl _,StSub.refl _, ?_,rfl⟩;try first|rfl|((first|(rw [e];done)|(exfalso;omega));done))|(intros;(try simp only [zql]);omega)))
  replace hl:=Decidable.of_not_not hl
  refine aL aH Tryz.func13 (by kernel_rfl) rfl rfl rfl rfl (fun st=> ?_)
  (try (apply wO pk;exact rfl));(repeat' (first|(show All _;constructor)|(show Imp _ _;constructor)|(show ImpX _ _ _ _;constructor)|(apply wC pk;(iterate 2 exact rfl))|(apply wE pk;(iterate 2 exact rfl))|(apply wX pk;exact rfl)|(apply wN pk;exact rfl)|(apply wD pk [] [];kernel_rfl;exact rfl;exact rfl)|(apply aC;simp only [zqt,zqf])|(refine aD rfl (fun h=> ?_) (fun h=> ?_)<;>(try simp at h)<;>try (exfalso;omega))|(refine aF ?_;refine ⟨_,_,_,rfl,Wk.refl _,StSub.refl _, ?_,rfl⟩;try first|rfl|((exfalso;omega);done))|(intros;(try simp only [zql]);omega)))
  refine aP (X:={x:Nat//x≤a.length∧∀j (h:j<x) (h1:j<a.length) (h2:j<b.length),a[j]=b[j]}) (fun i=>((((St.nil 56 st).var 2 27 ((bsC a))).var 3 27 ((bsC b))).pv 5 ((PV.val (Value.int .i64 ((i.1:Nat))))))) (fun i=>a.length-i.1) ⟨0,by omega,fun _ h=>absurd h (Nat.not_lt_zero _)⟩ ?_ (fun i=> ?_)
  · ((repeat (first|refine Sub.pv ?_ rfl|refine Sub.var ?_ rfl rfl));exact Sub.nil _ _ _ (StSub.refl _) rfl)
  obtain ⟨i,hi,hI⟩:=i
  dsimp only
  by_cases hend:a.length≤i
  · have e:decide (a=b)=true:=decide_eq_true (List.ext_getElem hl fun j h1 h2=>hI j (by omega) h1 h2)
    (try (apply wO pk;exact rfl));(repeat' (first|(show All _;constructor)|(show Imp _ _;constructor)|(show ImpX _ _ _ _;constructor)|(apply wC pk;(iterate 2 exact rfl))|(apply wE pk;(iterate 2 exact rfl))|(apply wX pk;exact rfl)|(apply wN pk;exact rfl)|(apply wD pk [] [];kernel_rfl;exact rfl;exact rfl)|(apply aC;simp only [zqt,zqf])|(refine aD rfl (fun h=> ?_) (fun h=> ?_)<;>(try simp at h)<;>try (exfalso;omega))|(refine aF ?_;refine ⟨_,_,_,rfl,Wk.refl _,StSub.refl _, ?_,rfl⟩;try first|rfl|((rw [e]);done))|(intros;(try simp only [zql]);omega)))
  have h1:i<a.length:=by omega
  have h2:i<b.length:=by omega
  have hF:¬a[i]=b[i]→decide (a=b)=false:=fun h=>decide_eq_false fun q=>h (by subst q;rfl)
  have hS:a[i]=b[i]→∀j (h:j<i+1) (h1:j<a.length) (h2:j<b.length),a[j]=b[j]:=fun h j hj h1 h2=>by
    rcases Nat.lt_succ_iff_lt_or_eq.1 hj with q|q
    · exact hI j q h1 h2
    · subst q;exact h
  obtain ⟨p1,p2⟩:=hp a[i] (List.getElem_mem h1)
  rw [Da.ext_iff] at hF hS
  have hF2:¬(a[i].lines.length:Int)=(b[i].lines.length:Int)→decide (a=b)=false:=fun h=>hF fun q=>h (by rw [q])
  (try (apply wO pk;exact rfl));(repeat' (first|(show All _;constructor)|(show Imp _ _;constructor)|(show ImpX _ _ _ _;constructor)|(apply wC pk;(iterate 2 exact rfl))|(apply wE pk;(iterate 2 exact rfl))|(apply wX pk;exact rfl)|(apply wN pk;exact rfl)|(apply wD pk [] [];kernel_rfl;exact rfl;exact rfl)|(apply aC;simp only [zqt,zqf])|(refine aD rfl (fun h=> ?_) (fun h=> ?_)<;>(try simp at h)<;>try (exfalso;omega))|(refine aF ?_;refine ⟨_,_,_,rfl,Wk.refl _,StSub.refl _, ?_,rfl⟩;try first|rfl|((rw [hF2 (by assumption)]);done))|(apply bC pk;(iterate 6 exact rfl);rotate_left;exact rfl;(intro hw;exact rfl);(intro hw;apply aJ<;>omega);(intro _;exact rfl);exact rfl)|(intros;(try simp only [zql]);omega)))
  have hll:a[i].lines.length=b[i].lines.length:=by omega
  refine aP (X:={x:Nat//x≤a[i].lines.length∧∀j (h:j<x) (h1:j<a[i].lines.length) (h2:j<b[i].lines.length),a[i].lines[j]=b[i].lines[j]}) (fun y=>(((((((St.nil 56 st).var 2 27 ((bsC a))).var 3 27 ((bsC b))).pv 5 ((PV.val (Value.int .i64 ((i:Nat)))))).pv 6 (.seq (a[i].lines.map Ln.cells))).pv 7 (.seq (b[i].lines.map Ln.cells))).pv 8 ((PV.val (Value.int .i64 ((y.1:Nat))))))) (fun y=>a[i].lines.length-y.1) ⟨0,by omega,fun _ h=>absurd h (Nat.not_lt_zero _)⟩ ?_ (fun y=> ?_)
  · ((repeat (first|refine Sub.pv ?_ rfl|refine Sub.var ?_ rfl rfl));exact Sub.nil _ _ _ (StSub.refl _) rfl)
  obtain ⟨y,hy,hyI⟩:=y
  dsimp only
  by_cases hend2:a[i].lines.length≤y
  · have e:a[i].lines=b[i].lines:=List.ext_getElem hll fun j h1 h2=>hyI j (by omega) h1 h2
    (try (apply wO pk;exact rfl));(repeat' (first|(show All _;constructor)|(show Imp _ _;constructor)|(show ImpX _ _ _ _;constructor)|(apply wC pk;(iterate 2 exact rfl))|(apply wE pk;(iterate 2 exact rfl))|(apply wX pk;exact rfl)|(apply wN pk;exact rfl)|(apply wD pk [] [];kernel_rfl;exact rfl;exact rfl)|(apply aC;simp only [zqt,zqf])|(refine aD rfl (fun h=> ?_) (fun h=> ?_)<;>(try simp at h)<;>try (exfalso;omega))|(refine aF ?_;refine ⟨_,_,_,rfl,Wk.refl _,StSub.refl _, ?_,rfl⟩;try rfl)|(refine ⟨⟨i+1,by omega,hS e⟩, ?_,by simp only;omega⟩;((repeat (first|refine Sub.pv ?_ rfl|refine Sub.var ?_ rfl rfl));exact Sub.nil _ _ _ (StSub.refl _) rfl))|(intros;(try simp only [zql]);omega)))
  have g1:y<a[i].lines.length:=by omega
  have g2:y<b[i].lines.length:=by omega
  obtain ⟨r1,r2,r3⟩:=p2 a[i].lines[y] (List.getElem_mem g1)
  have hs:=mY a[i].lines[y] b[i].lines[y] (by omega) (by omega) fun c hc=>by have:=r3 c hc;omega
  have hF3:¬a[i].lines[y]=b[i].lines[y]→decide (a=b)=false:=fun h=>hF fun q=>h (by simp only [q])
  have hS3:a[i].lines[y]=b[i].lines[y]→∀j (h:j<y+1) (h1:j<a[i].lines.length) (h2:j<b[i].lines.length),a[i].lines[j]=b[i].lines[j]:=fun h j hj h1 h2=>by
    rcases Nat.lt_succ_iff_lt_or_eq.1 hj with q|q
    · exact hyI j q h1 h2
    · subst q;exact h
  (try (apply wO pk;exact rfl));(repeat' (first|(show All _;constructor)|(show Imp _ _;constructor)|(show ImpX _ _ _ _;constructor)|(apply wC pk;(iterate 2 exact rfl))|(apply wE pk;(iterate 2 exact rfl))|(apply wX pk;exact rfl)|(apply wN pk;exact rfl)|(apply wD pk [] [];kernel_rfl;exact rfl;exact rfl)|(apply aC;simp only [zqt,zqf])|(refine aD rfl (fun h=> ?_) (fun h=> ?_)<;>(try simp at h)<;>try (exfalso;omega))|(refine aF ?_;refine ⟨_,_,_,rfl,Wk.refl _,StSub.refl _, ?_,rfl⟩;try first|rfl|((rw [hF3 (by assumption)]);done))|(apply aK;(iterate 3 exact rfl);(intro _;apply hs<;>first|assumption|omega);rotate_left;(iterate 2 exact rfl))|(apply bC pk;(iterate 6 exact rfl);rotate_left;exact rfl;(intro hw;exact rfl);(intro hw;apply aJ<;>omega);(intro _;exact rfl);exact rfl)|(refine ⟨⟨y+1,by omega,hS3 (by assumption)⟩, ?_,by simp only;omega⟩;((repeat (first|refine Sub.pv ?_ rfl|refine Sub.var ?_ rfl rfl));exact Sub.nil _ _ _ (StSub.refl _) rfl))|(intros;(try simp only [zql]);omega)))
end Go.Proofs.YtddmbnddgiebgaaGreatDoor
