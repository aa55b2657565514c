import Derived.Test.YtcglimangneafaaGreatDoorBsWrote
set_option linter.unusedSimpArgs false
set_option linter.unusedVariables false
namespace Go.Proofs.YtcglimangneafaaGreatDoor
open Go Go.Abs
attribute [local irreducible] Ev PWp
set_option maxRecDepth 10000
set_option maxHeartbeats 2000000
theorem xC (b:Bs) (k:Int):PF Tryz.prog 69 [.agg (bsC b),(PV.val (Value.int .i64 (k)))] (.seq ((aV b k).map Ln.cells)):=by
  cases hok:okT b k with
  |false=>
    have e:aV b k=[]:=by unfold aV;rw [hok];rfl
    rw [e]
    unfold okT at hok
    simp only [Bool.and_eq_false_iff,decide_eq_false_iff_not] at hok
    refine aH aD Tryz.func69 (by kernel_rfl) rfl rfl rfl rfl (fun st=> ?_)
    (try (apply wO pk;exact rfl));(repeat' (first|(show All _;constructor)|(show Imp _ _;constructor)|(show ImpX _ _ _ _;constructor)|(apply wC pk;(iterate 2 exact rfl))|(refine aA rfl (fun h=> ?_) (fun h=> ?_)<;>(try simp at h)<;>try (exfalso;omega))|(refine aB ?_;first|(refine ⟨_,_,_,rfl,Wk.refl _,StSub.refl _, ?_,rfl⟩;(fail))|(refine ⟨_,_,_,rfl,Wk.refl _,aK (by assumption), ?_,rfl⟩;(fail))|(refine ⟨_,_,_,rfl,Wk.soft _,StSub.refl _, ?_,rfl⟩;(rfl))|(refine ⟨_,_,_,rfl,Wk.soft _,aK (by assumption), ?_,rfl⟩;(fail))|(refine ⟨_,_,_,rfl,Wk.refl _,StSub.refl _, ?_,rfl⟩)|(refine ⟨_,_,_,rfl,Wk.soft _,aK (by assumption), ?_,rfl⟩))))
  |true=>
    obtain ⟨q,rfl,hq⟩:∃q:Nat,k=q∧q<b.length:=by
      unfold okT at hok
      simp only [Bool.and_eq_true,decide_eq_true_eq] at hok
      exact ⟨k.toNat,by omega,by omega⟩
    have hln:aV b q=b[q].lines:=by unfold aV;rw [if_pos hok];simp [hq]
    rw [hln]
    refine aH aD Tryz.func69 (by kernel_rfl) rfl rfl rfl rfl (fun st=> ?_)
    (try (apply wO pk;exact rfl));(repeat' (first|(show All _;constructor)|(show Imp _ _;constructor)|(show ImpX _ _ _ _;constructor)|(apply wC pk;(iterate 2 exact rfl))|(apply wE pk;(iterate 2 exact rfl))|(refine aA rfl (fun h=> ?_) (fun h=> ?_)<;>(try simp at h)<;>try (exfalso;omega))|(refine aB ?_;refine ⟨_,_,_,rfl,Wk.refl _,StSub.refl _, ?_,rfl⟩;try rfl)|(apply aM pk;(iterate 6 exact rfl);rotate_left;exact rfl;(intro hw;exact rfl);(intro hw;apply aF<;>omega);(intro _;exact rfl);exact rfl)))
def kT (c:Cl):Bool:=decide (c.parts.length≤40)&&decide (c.val.s.size≤400)
def eX (a:Ln):Bool:=a.cells_.all kT&&(decide (a.cells_.length≤20)&&decide (a.by_.length≤60))
theorem xO (a:Ln) (hl:a.cells_.length<4611686018427387904):PF Tryz.prog 99 [.agg a.cells] (PV.val (Value.bool (eX a))):=by
  refine aH aD Tryz.func99 (by kernel_rfl) rfl rfl rfl rfl (fun st=> ?_)
  (try (apply wO pk;exact rfl));(repeat' ((show All _;constructor)))
  refine aJ (X:={x:Nat//x≤a.cells_.length∧∀j (h:j<x) (h1:j<a.cells_.length),kT a.cells_[j]=true}) (fun i=>(((St.nil 40 st).var 1 53 (a.cells)).pv 3 ((PV.val (Value.int .i64 ((i.1:Nat))))))) (fun i=>a.cells_.length-i.1) ⟨0,by omega,fun _ h=>absurd h (Nat.not_lt_zero _)⟩ ?_ (fun i=> ?_)
  · ((repeat (first|refine Sub.pv ?_ rfl|refine Sub.var ?_ rfl rfl));exact Sub.nil _ _ _ (StSub.refl _) rfl)
  obtain ⟨i,hi,hI⟩:=i
  dsimp only
  by_cases hend:a.cells_.length≤i
  · have e:a.cells_.all kT=true:=List.all_eq_true.2 fun c hc=>by
      obtain ⟨j,hj,rfl⟩:=List.getElem_of_mem hc
      exact hI j (by omega) hj
    unfold eX
    rw [e,Bool.true_and]
    have e2:(decide (((a.cells_.map Cl.cells).length:Int)≤20)&&decide (((a.by_.map Dt.cells).length:Int)≤60))=(decide (a.cells_.length≤20)&&decide (a.by_.length≤60)):=by
      rw [Bool.eq_iff_iff];simp only [Bool.and_eq_true,decide_eq_true_eq,zql];omega
    (try (apply wO pk;exact rfl));(repeat' (first|(show All _;constructor)|(show Imp _ _;constructor)|(show ImpX _ _ _ _;constructor)|(apply wC pk;(iterate 2 exact rfl))|(refine aA rfl (fun h=> ?_) (fun h=> ?_)<;>(try simp at h)<;>try (exfalso;omega))|(refine aB ?_;refine ⟨_,_,_,rfl,Wk.refl _,StSub.refl _, ?_,rfl⟩;try first|rfl|((rw [e2]);done))))
  have h1:i<a.cells_.length:=by omega
  have hF:kT a.cells_[i]=false→eX a=false:=fun h=>by
    unfold eX
    have:a.cells_.all kT=false:=by
      rw [←Bool.not_eq_true,List.all_eq_true]
      intro q;rw [q _ (List.getElem_mem h1)] at h;cases h
    rw [this];rfl
  have hS:kT a.cells_[i]=true→∀j (h:j<i+1) (h1:j<a.cells_.length),kT a.cells_[j]=true:=fun h j hj h1=>by
    rcases Nat.lt_succ_iff_lt_or_eq.1 hj with q|q
    · exact hI j q h1
    · subst q;exact h
  unfold kT at hF hS
  (try (apply wO pk;exact rfl));(repeat' (first|(show All _;constructor)|(show Imp _ _;constructor)|(show ImpX _ _ _ _;constructor)|(apply wC pk;(iterate 2 exact rfl))|(apply wE pk;(iterate 2 exact rfl))|(refine aA rfl (fun h=> ?_) (fun h=> ?_)<;>(try simp at h)<;>try (exfalso;omega))|(refine aB ?_;refine ⟨_,_,_,rfl,Wk.refl _,StSub.refl _, ?_,rfl⟩;try first|rfl|((rw [hF (by simp;omega)]);done))|(apply aM pk;(iterate 6 exact rfl);rotate_left;exact rfl;(intro hw;exact rfl);(intro hw;apply aF<;>omega);(intro _;exact rfl);exact rfl)|(refine ⟨⟨i+1,by omega,hS (by simp;omega)⟩, ?_,by simp only;omega⟩;((repeat (first|refine Sub.pv ?_ rfl|refine Sub.var ?_ rfl rfl));exact Sub.nil _ _ _ (StSub.refl _) rfl))|(intros;(try simp only [zql]);omega)))
def dH (l:List Ln) (k:Int):Option Ln:=l.find? fun x=>decide (x.key=k)
def azP :Option Ln→PV
  |some x=> .tup [.agg x.cells,(PV.val (Value.bool (true)))]
  |none=> .tup [.agg Ln.zero.cells,(PV.val (Value.bool (false)))]
theorem akI {α:Type} {f:α→Bool} {l:List α} {i:Nat} (h:i<l.length) (hf:f l[i]=true) (hn:∀j (h:j<i) (h2:j<l.length),f l[j]=false):l.find? f=some l[i]:=
  List.find?_eq_some_iff_getElem.2 ⟨hf,i,h,rfl,fun j hj=>by rw [hn j hj (by omega)];rfl⟩
theorem ahM (l:List Ln) (k:Int):(∃j:Nat,∃h:j<l.length,atP l k=(((j:Nat):Int),true)∧dH l k=some l[j])∨((atP l k).2=false∧dH l k=none):=by
  unfold atP dH
  cases h:l.findIdx? fun x:Ln=>decide (x.key=k) with
  |some j=>
    left
    obtain ⟨hj,hf,hn⟩:=List.findIdx?_eq_some_iff_getElem.1 h
    refine ⟨j,hj, ?_,akI hj hf fun q hq h2=>by simpa using hn q hq⟩
    have e:dZ (fun x:Ln=>decide (x.key=k)) l=j:=by unfold dZ;rw [h]
    rw [e,if_pos (by omega)]
  |none=>
    right
    have e:dZ (fun x:Ln=>decide (x.key=k)) l= -1:=by unfold dZ;rw [h]
    rw [e,if_neg (by omega)]
    refine ⟨by split<;>rfl,List.find?_eq_none.2 fun x hx=>by rw [List.findIdx?_eq_none_iff.1 h x hx];simp⟩
theorem asL (b:Bs) (k key:Int) (hll:∀d∈b,d.lines.length<100000000000):PF Tryz.prog 18 [.agg (bsC b),(PV.val (Value.int .i64 (k))),(PV.val (Value.int .i64 (key)))] (azP (dH (aV b k) key)):=by
  cases hok:okT b k with
  |false=>
    have ho:=avT b k hok
    have ha:=akF [] key (by simp)
    rw [ayC] at ha
    have e:aV b k=[]:=by unfold aV;rw [hok];rfl
    rw [e,show dH [] key=none from rfl]
    refine aH aD Tryz.func18 (by kernel_rfl) rfl rfl rfl rfl (fun st=> ?_)
    (try (apply wO pk;exact rfl));(repeat' (first|(show All _;constructor)|(show Imp _ _;constructor)|(apply wC pk;(iterate 2 exact rfl))|(apply wE pk;(iterate 2 exact rfl))|(refine aA rfl (fun h=> ?_) (fun h=> ?_)<;>(try simp at h)<;>try (exfalso;omega))|(refine aB ?_;first|(refine ⟨_,_,_,rfl,Wk.refl _,StSub.refl _, ?_,rfl⟩;(fail))|(refine ⟨_,_,_,rfl,Wk.refl _,aK (by assumption), ?_,rfl⟩;(fail))|(refine ⟨_,_,_,rfl,Wk.soft _,StSub.refl _, ?_,rfl⟩;(rfl))|(refine ⟨_,_,_,rfl,Wk.soft _,aK (by assumption), ?_,rfl⟩;(fail))|(refine ⟨_,_,_,rfl,Wk.refl _,StSub.refl _, ?_,rfl⟩)|(refine ⟨_,_,_,rfl,Wk.soft _,aK (by assumption), ?_,rfl⟩))|(apply aI;(iterate 3 exact rfl);(intro _;(first|apply ho|apply ha)<;>first|assumption|omega);rotate_left;(iterate 2 exact rfl))))
  |true=>
    obtain ⟨q,rfl,hq⟩:∃q:Nat,k=q∧q<b.length:=by
      unfold okT at hok
      simp only [Bool.and_eq_true,decide_eq_true_eq] at hok
      exact ⟨k.toNat,by omega,by omega⟩
    have ho:=aeI b q hq
    have hlq:=hll b[q] (List.getElem_mem hq)
    have hln:aV b q=b[q].lines:=by unfold aV;rw [if_pos hok];simp [hq]
    rw [hln]
    generalize hLe:b[q].lines=L at*
    have ha:=akF L key (by omega)
    rcases ahM L key with ⟨j,hj,e1,e2⟩|⟨e1,e2⟩
    · rw [e1] at ha
      rw [e2]
      refine aH aD Tryz.func18 (by kernel_rfl) rfl rfl rfl rfl (fun st=> ?_)
      (try (apply wO pk;exact rfl));(repeat' (first|(show All _;constructor)|(show Imp _ _;constructor)|(apply wC pk;(iterate 2 exact rfl))|(apply wE pk;(iterate 2 exact rfl))|(refine aA rfl (fun h=> ?_) (fun h=> ?_)<;>(try simp at h)<;>try (exfalso;omega))|(refine aB ?_;refine ⟨_,_,_,rfl,Wk.refl _,StSub.refl _, ?_,rfl⟩;try rfl)|(apply aI;(iterate 3 exact rfl);(intro _;(first|apply ho|apply ha)<;>first|assumption|omega);rotate_left;(iterate 2 exact rfl))|(apply aM pk;(iterate 6 exact rfl);rotate_left;exact rfl;(intro hw;exact rfl);(intro hw;apply aF<;>omega);(intro _;exact rfl);exact rfl)))
    · rw [e1] at ha
      rw [e2]
      refine aH aD Tryz.func18 (by kernel_rfl) rfl rfl rfl rfl (fun st=> ?_)
      (try (apply wO pk;exact rfl));(repeat' (first|(show All _;constructor)|(show Imp _ _;constructor)|(apply wC pk;(iterate 2 exact rfl))|(apply wE pk;(iterate 2 exact rfl))|(refine aA rfl (fun h=> ?_) (fun h=> ?_)<;>(try simp at h)<;>try (exfalso;omega))|(refine aB ?_;first|(refine ⟨_,_,_,rfl,Wk.refl _,StSub.refl _, ?_,rfl⟩;(fail))|(refine ⟨_,_,_,rfl,Wk.refl _,aK (by assumption), ?_,rfl⟩;(fail))|(refine ⟨_,_,_,rfl,Wk.soft _,StSub.refl _, ?_,rfl⟩;(rfl))|(refine ⟨_,_,_,rfl,Wk.soft _,aK (by assumption), ?_,rfl⟩;(fail))|(refine ⟨_,_,_,rfl,Wk.refl _,StSub.refl _, ?_,rfl⟩)|(refine ⟨_,_,_,rfl,Wk.soft _,aK (by assumption), ?_,rfl⟩))|(apply aI;(iterate 3 exact rfl);(intro _;(first|apply ho|apply ha)<;>first|assumption|omega);rotate_left;(iterate 2 exact rfl))))
end Go.Proofs.YtcglimangneafaaGreatDoor
