import Derived.Test.YtcglimangneafaaGreatDoorCkNum
import Derived.Test.YtcglimangneafaaGreatDoorXpT
import Derived.Test.YtcglimangneafaaGreatDoorBsVal
import Derived.Test.YtcglimangneafaaGreatDoorBsCell
import Derived.Test.YtcglimangneafaaGreatDoorAbsE
set_option linter.unusedSimpArgs false
set_option linter.unusedVariables false
namespace Go.Proofs.YtcglimangneafaaGreatDoor
open Go Go.Abs
namespace X
mutual
theorem Ex.inj :∀(a b:Ex),a.cells=b.cells→a=b
  | .mk k n v o, .mk k' n' v' o',h=>by
    simp only [Ex.cells,List.cons.injEq,PV.val.injEq,PV.seq.injEq,Value.int.injEq,Value.string.injEq,true_and,and_true] at h
    obtain ⟨rfl,rfl,h1,h2,h3,h4⟩:=h
    have e:=Ex.injs o o' h4
    obtain ⟨a,b,c⟩:=v
    obtain ⟨a',b',c'⟩:=v'
    simp only at h1 h2 h3
    subst h1 h2 h3 e
    rfl
theorem Ex.injs :∀(a b:List Ex),Ex.rows a=Ex.rows b→a=b
  |[],[],_=>rfl
  |[],_::_,h=>by simp [Ex.rows] at h
  |_::_,[],h=>by simp [Ex.rows] at h
  |a::l,b::m,h=>by
    simp only [Ex.rows,List.cons.injEq] at h
    rw [Ex.inj a b h.1,Ex.injs l m h.2]
end
def RightR (e:Ex) (l:List Int):Int:=if (eJ e l).2=0 then (if (eJ e l).1=2 then 6 else 0) else (eJ e l).2
end X
open Classical in
noncomputable def exOf (c:List PV):X.Ex:=if h:∃e:X.Ex,e.ok∧e.cells=c then h.choose else .mk 0 0 X.v0 []
theorem nN {c:List PV} (h:∃e:X.Ex,e.ok∧e.cells=c):(exOf c).ok∧(exOf c).cells=c:=by
  unfold exOf
  rw [dif_pos h]
  exact h.choose_spec
theorem akU {e:X.Ex} (h:e.ok):exOf e.cells=e:=X.Ex.inj _ _ (nN ⟨e,h,rfl⟩).2
def mB (t:Tb):Prop:=∀c∈t.checks,∃e:X.Ex,e.ok∧e.cells=c
def chE (p:Vl×Int):Int:=if p.2=0 then (if p.1=⟨1,0,e0⟩ then 9 else 0) else p.2
noncomputable def exR (t:Tb) (r:List Vl):Int:=cC (fun c=>chE (X.EvalR (exOf c) r)) t.checks
noncomputable def rightX (t:Tb):Int:=cC (fun c=>X.RightR (exOf c) (t.cols.map bK)) t.checks
noncomputable def rightC (s:Sc):Int:=if cD s=0 then cC rightX s else cD s
end Go.Proofs.YtcglimangneafaaGreatDoor
namespace Go.Proofs.YtcglimangneafaaGreatDoor
open Go Go.Abs
attribute [local irreducible] Ev PWp
set_option maxRecDepth 10000
set_option maxHeartbeats 4000000
theorem agY (c:Co):PF Tryz.prog 153 [.agg c.cells] (PV.val (Value.int .i64 (bK c))):=by
  unfold bK
  refine aH aD Tryz.func153 (by kernel_rfl) rfl rfl rfl rfl (fun st=> ?_)
  (try (apply wO pk;exact rfl));(repeat' (first|(show All _;constructor)|(apply wC pk;(iterate 2 exact rfl))|(refine aA rfl (fun h=> ?_) (fun h=> ?_)<;>(try simp at h)<;>try (exfalso;omega))|(refine aB ?_;refine ⟨_,_,_,rfl,Wk.refl _,StSub.refl _, ?_,rfl⟩;try first|rfl|(((simp [*];done));done))))
theorem agR (c:Co) (v:Vl):PF Tryz.prog 109 [.agg c.cells, .agg v.cells] (PV.val (Value.int .i64 (lW c v))):=by
  have hv:=jQ v
  have hk:=agY c
  unfold lW
  generalize eD v=A at*
  generalize bK c=K at*
  refine aH aD Tryz.func109 (by kernel_rfl) rfl rfl rfl rfl (fun st=> ?_)
  (try (apply wO pk;exact rfl));(repeat' (first|(show All _;constructor)|(show Imp _ _;constructor)|(show ImpX _ _ _ _;constructor)|(apply wC pk;(iterate 2 exact rfl))|(apply wE pk;(iterate 2 exact rfl))|(apply wD pk [] [];kernel_rfl;exact rfl;exact rfl)|(refine aA rfl (fun h=> ?_) (fun h=> ?_)<;>(try simp at h)<;>try (exfalso;omega))|(refine aB ?_;refine ⟨_,_,_,rfl,Wk.refl _,StSub.refl _, ?_,rfl⟩;try first|rfl|((first|(simp [*];done)|grind);done))|(apply aI;(iterate 3 exact rfl);(intro _;(first|apply hv|apply hk)<;>first|assumption|omega);rotate_left;(iterate 2 exact rfl))))
theorem amL (t:Tb) (r:List Vl) (hc:t.cols.length<1000000000000000) (hr:r.length<1000000000000000):PF Tryz.prog 66 [.seq (t.cols.map Co.cells), .seq (r.map Vl.cells)] (PV.val (Value.int .i64 (dE t r))):=by
  unfold dE
  by_cases hl:¬t.cols.length=r.length
  · rw [if_neg hl]
    refine aH aD Tryz.func66 (by kernel_rfl) rfl rfl rfl rfl (fun st=> ?_)
    (try (apply wO pk;exact rfl));(repeat' (first|(show All _;constructor)|(apply wC pk;(iterate 2 exact rfl))|(refine aA rfl (fun h=> ?_) (fun h=> ?_)<;>(try simp at h)<;>try (exfalso;omega))|(refine aB ?_;refine ⟨_,_,_,rfl,Wk.refl _,StSub.refl _, ?_,rfl⟩;try first|rfl|((fail);done))))
  replace hl:=Decidable.of_not_not hl
  rw [if_pos hl]
  refine aH aD Tryz.func66 (by kernel_rfl) rfl rfl rfl rfl (fun st=> ?_)
  focus ((try (apply wO pk;exact rfl));(repeat' (first|(show All _;constructor)|(apply wC pk;(iterate 2 exact rfl))|(refine aA rfl (fun h=> ?_) (fun h=> ?_)<;>(try simp at h)<;>try (exfalso;omega)))))
  refine aJ (X:={x:Nat//x≤r.length∧∀j<x,lW t.cols[j]! r[j]! =0}) (fun i=>(((((St.nil 30 st).pv 0 (.seq (t.cols.map Co.cells))).pv 13 (.seq (r.map Vl.cells))).pv 14 ((PV.val (Value.int .i64 ((((r.map Vl.cells)).length:Nat)))))).pv 15 ((PV.val (Value.int .i64 ((i.1:Nat))))))) (fun i=>r.length-i.1) ⟨0,by omega,by omega⟩ ?_ (fun i=> ?_)
  · ((repeat (refine Sub.pv ?_ rfl));exact Sub.nil _ _ _ (StSub.refl _) rfl)
  obtain ⟨i,hi,hI⟩:=i
  dsimp only
  by_cases hend:r.length≤i
  · have e:cC (fun k=>lW t.cols[k]! r[k]!) (List.range r.length)=0:=nE fun j hj=>hI j (by omega)
    (try (apply wO pk;exact rfl));(repeat' (first|(show All _;constructor)|(apply wC pk;(iterate 2 exact rfl))|(refine aA rfl (fun h=> ?_) (fun h=> ?_)<;>(try simp at h)<;>try (exfalso;omega))|(refine aB ?_;refine ⟨_,_,_,rfl,Wk.refl _,StSub.refl _, ?_,rfl⟩;try first|rfl|((rw [e]);done))))
  have hil:i<r.length:=by omega
  have hic:i<t.cols.length:=by omega
  have hk:=agR t.cols[i] r[i]
  have e:=uJ (f:=fun k=>lW t.cols[k]! r[k]!) hil hI
  have hu:lW t.cols[i] r[i]=0→∀j<i+1,lW t.cols[j]! r[j]! =0:=fun h j hj=>by
    rcases Nat.lt_succ_iff_lt_or_eq.1 hj with q|q
    · exact hI j q
    · subst q;rw [getElem!_pos t.cols j hic,getElem!_pos r j hil];exact h
  simp only [getElem!_pos t.cols i hic,getElem!_pos r i hil] at e
  generalize lW t.cols[i] r[i]=E at*
  (try (apply wO pk;exact rfl));(repeat' (first|(show All _;constructor)|(show Imp _ _;constructor)|(apply wC pk;(iterate 2 exact rfl))|(apply wE pk;(iterate 2 exact rfl))|(apply wD pk [] [];kernel_rfl;exact rfl;exact rfl)|(refine aA rfl (fun h=> ?_) (fun h=> ?_)<;>(try simp at h)<;>try (exfalso;omega))|(refine aB ?_;refine ⟨_,_,_,rfl,Wk.refl _,StSub.refl _, ?_,rfl⟩;try first|rfl|((rw [e (by assumption)]);done))|(apply aI;(iterate 3 exact rfl);(intro _;apply hk<;>first|assumption|omega);rotate_left;(iterate 2 exact rfl))|(apply aM pk;(iterate 6 exact rfl);rotate_left;exact rfl;(intro hw;exact rfl);(intro hw;apply aF<;>omega);(intro _;exact rfl);exact rfl)|(refine ⟨⟨i+1,by omega,hu (by assumption)⟩, ?_,by simp only;omega⟩;((repeat (refine Sub.pv ?_ rfl));exact Sub.nil _ _ _ (StSub.refl _) rfl))|(intros;(try simp only [zql]);omega)))
end Go.Proofs.YtcglimangneafaaGreatDoor
namespace Go.Proofs.YtcglimangneafaaGreatDoor
open Go Go.Abs
attribute [local irreducible] Ev PWp
set_option maxRecDepth 10000
set_option maxHeartbeats 4000000
namespace X
theorem aiE (c:Co):PF Tryz.prog 61 [.agg c.cells] (PV.val (Value.int .i64 (bK c))):=by
  unfold bK
  refine aH aD Tryz.func61 (by kernel_rfl) rfl rfl rfl rfl (fun st=> ?_)
  (try (apply wO pk;exact rfl));(repeat' (first|(show All _;constructor)|(apply wC pk;(iterate 2 exact rfl))|(refine aA rfl (fun h=> ?_) (fun h=> ?_)<;>(try simp at h)<;>try (exfalso;omega))|(refine aB ?_;refine ⟨_,_,_,rfl,Wk.refl _,StSub.refl _, ?_,rfl⟩;try first|rfl|(((simp [*];done));done))))
theorem Right_spec {e:Ex} (hok:e.ok) (cols:List Co) (hl:cols.length<10000000000):PF Tryz.prog 31 [.agg e.cells, .seq (cols.map Co.cells)] (PV.val (Value.int .i64 (RightR e (cols.map bK)))):=by
  have hT:=alJ hok (l:=cols.map bK) (by rw [zql];omega)
  have hR:RightR e (cols.map bK)=if (eJ e (cols.map bK)).2=0 then (if (eJ e (cols.map bK)).1=2 then 6 else 0) else (eJ e (cols.map bK)).2:=rfl
  generalize eJ e (cols.map bK)=T at*
  generalize RightR e (cols.map bK)=R at*
  unfold fG at hT
  obtain ⟨k,n,v,of⟩:=e
  obtain ⟨T1,T2⟩:=T
  dsimp only at*
  refine aH aD Tryz.func31 (by kernel_rfl) rfl rfl rfl rfl (fun st=> ?_)
  focus ((try (apply wO pk;exact rfl));(repeat' ((show All _;constructor))))
  refine pT 5 3 rfl rfl (fun id hid=> ?_)
  have hid:st id=none:=hid
  refine aJ (X:={x:Nat×Nat//x.1≤cols.length∧st x.2=none}) (fun i=>((((((St.nil 35 (upd st i.1.2 (some (.tok 3)))).var 2 75 ((Ex.mk k n v of).cells)).pv 5 (.own i.1.2 (((cols.take i.1.1).map bK).map I1))).pv 10 (.seq (cols.map Co.cells))).pv 11 ((PV.val (Value.int .i64 ((((cols.map Co.cells)).length:Nat)))))).pv 12 ((PV.val (Value.int .i64 ((i.1.1:Nat))))))) (fun i=>cols.length-i.1.1) ⟨(0,id),by simp,hid⟩ ?_ (fun i=> ?_)
  · (((repeat (first|refine Sub.pv ?_ rfl|refine Sub.var ?_ rfl rfl));(exact Sub.nil _ _ _ (StSub.refl _) rfl)))
  obtain ⟨⟨i,id⟩,hi,hid⟩:=i
  simp only at hi hid
  dsimp only
  by_cases hend:cols.length≤i
  · rw [List.take_of_length_le hend]
    by_cases h0:T2=0<;>by_cases h1:T1=2
    · rw [if_pos h0,if_pos h1] at hR
      subst hR
      (try (apply wO pk;exact rfl));(repeat' (first|(show All _;constructor)|(show Imp _ _;constructor)|(show ImpX _ _ _ _;constructor)|(apply wC pk;(iterate 2 exact rfl))|(apply wE pk;(iterate 2 exact rfl))|(refine aA rfl (fun h=> ?_) (fun h=> ?_)<;>(try simp at h)<;>try (exfalso;omega))|(refine aB ?_;first|(refine ⟨_,_,_,rfl,Wk.refl _,StSub.refl _, ?_,rfl⟩;(fail))|(refine ⟨_,_,_,rfl,Wk.refl _,aK (by assumption), ?_,rfl⟩;(rfl))|(refine ⟨_,_,_,rfl,Wk.soft _,StSub.refl _, ?_,rfl⟩;(fail))|(refine ⟨_,_,_,rfl,Wk.soft _,aK (by assumption), ?_,rfl⟩;(fail))|(refine ⟨_,_,_,rfl,Wk.refl _,StSub.refl _, ?_,rfl⟩)|(refine ⟨_,_,_,rfl,Wk.soft _,aK (by assumption), ?_,rfl⟩))|(apply kK;(iterate 3 exact rfl);(intro _;apply hT<;>first|assumption|omega);rotate_left;(iterate 2 exact rfl))))
    · rw [if_pos h0,if_neg h1] at hR
      subst hR
      subst h0
      (try (apply wO pk;exact rfl));(repeat' (first|(show All _;constructor)|(show Imp _ _;constructor)|(show ImpX _ _ _ _;constructor)|(apply wC pk;(iterate 2 exact rfl))|(apply wE pk;(iterate 2 exact rfl))|(refine aA rfl (fun h=> ?_) (fun h=> ?_)<;>(try simp at h)<;>try (exfalso;omega))|(refine aB ?_;first|(refine ⟨_,_,_,rfl,Wk.refl _,StSub.refl _, ?_,rfl⟩;(fail))|(refine ⟨_,_,_,rfl,Wk.refl _,aK (by assumption), ?_,rfl⟩;(rfl))|(refine ⟨_,_,_,rfl,Wk.soft _,StSub.refl _, ?_,rfl⟩;(fail))|(refine ⟨_,_,_,rfl,Wk.soft _,aK (by assumption), ?_,rfl⟩;(fail))|(refine ⟨_,_,_,rfl,Wk.refl _,StSub.refl _, ?_,rfl⟩)|(refine ⟨_,_,_,rfl,Wk.soft _,aK (by assumption), ?_,rfl⟩))|(apply kK;(iterate 3 exact rfl);(intro _;apply hT<;>first|assumption|omega);rotate_left;(iterate 2 exact rfl))))
    · rw [if_neg h0] at hR
      subst hR
      (try (apply wO pk;exact rfl));(repeat' (first|(show All _;constructor)|(show Imp _ _;constructor)|(show ImpX _ _ _ _;constructor)|(apply wC pk;(iterate 2 exact rfl))|(apply wE pk;(iterate 2 exact rfl))|(refine aA rfl (fun h=> ?_) (fun h=> ?_)<;>(try simp at h)<;>try (exfalso;omega))|(refine aB ?_;first|(refine ⟨_,_,_,rfl,Wk.refl _,StSub.refl _, ?_,rfl⟩;(fail))|(refine ⟨_,_,_,rfl,Wk.refl _,aK (by assumption), ?_,rfl⟩;(rfl))|(refine ⟨_,_,_,rfl,Wk.soft _,StSub.refl _, ?_,rfl⟩;(fail))|(refine ⟨_,_,_,rfl,Wk.soft _,aK (by assumption), ?_,rfl⟩;(fail))|(refine ⟨_,_,_,rfl,Wk.refl _,StSub.refl _, ?_,rfl⟩)|(refine ⟨_,_,_,rfl,Wk.soft _,aK (by assumption), ?_,rfl⟩))|(apply kK;(iterate 3 exact rfl);(intro _;apply hT<;>first|assumption|omega);rotate_left;(iterate 2 exact rfl))))
    · rw [if_neg h0] at hR
      subst hR
      (try (apply wO pk;exact rfl));(repeat' (first|(show All _;constructor)|(show Imp _ _;constructor)|(show ImpX _ _ _ _;constructor)|(apply wC pk;(iterate 2 exact rfl))|(apply wE pk;(iterate 2 exact rfl))|(refine aA rfl (fun h=> ?_) (fun h=> ?_)<;>(try simp at h)<;>try (exfalso;omega))|(refine aB ?_;first|(refine ⟨_,_,_,rfl,Wk.refl _,StSub.refl _, ?_,rfl⟩;(fail))|(refine ⟨_,_,_,rfl,Wk.refl _,aK (by assumption), ?_,rfl⟩;(rfl))|(refine ⟨_,_,_,rfl,Wk.soft _,StSub.refl _, ?_,rfl⟩;(fail))|(refine ⟨_,_,_,rfl,Wk.soft _,aK (by assumption), ?_,rfl⟩;(fail))|(refine ⟨_,_,_,rfl,Wk.refl _,StSub.refl _, ?_,rfl⟩)|(refine ⟨_,_,_,rfl,Wk.soft _,aK (by assumption), ?_,rfl⟩))|(apply kK;(iterate 3 exact rfl);(intro _;apply hT<;>first|assumption|omega);rotate_left;(iterate 2 exact rfl))))
  have hil:i<cols.length:=by omega
  have hs:=aiE cols[i]
  have hmap:((cols.take (i+1)).map bK).map I1=((cols.take i).map bK).map I1++[I1 (bK cols[i])]:=by rw [List.take_succ_eq_append_getElem hil,List.map_append,List.map_append];rfl
  have htl:((cols.take i).map bK).length≤i:=by rw [zql];exact List.length_take_le ..
  generalize bK cols[i]=K at*
  (try (apply wO pk;exact rfl));(repeat' (first|(show All _;constructor)|(show Imp _ _;constructor)|(apply wC pk;(iterate 2 exact rfl))|(apply wE pk;(iterate 2 exact rfl))|(refine aA rfl (fun h=> ?_) (fun h=> ?_)<;>(try simp at h)<;>try (exfalso;omega))|(apply aI;(iterate 3 exact rfl);(intro _;apply hs<;>first|assumption|omega);rotate_left;(iterate 2 exact rfl))|(apply aM pk;(iterate 6 exact rfl);rotate_left;exact rfl;(intro hw;exact rfl);(intro hw;apply aF<;>omega);(intro _;exact rfl);exact rfl)|(refine ⟨⟨(i+1,id'),by simp only;omega,gL hid'⟩, ?_,by simp only;omega⟩;((dsimp only;rw [hmap]));(((repeat (first|refine Sub.pv ?_ rfl|refine Sub.var ?_ rfl rfl|refine Sub.pv' ?_ rfl (by (first|rfl|(simp [I1];done)))));(exact Sub.nil _ _ _ (cE (by assumption)) rfl))))|(apply apS pk (K) 8;(iterate 8 exact rfl);exact aC _ _ _;exact fun _=>rfl;exact fun _=>rfl;exact mR;(omega);(omega);exact rfl;intro id' hid')|(intros;(try simp only [zql]);omega)))
end X
theorem aeA (s:Sc) (hl:s.length<200000000000000) (hB:∀t∈s,TbB t) (hT:∀t∈s,mB t) (hc:∀t∈s,t.cols.length<10000000000):PF Tryz.prog 11 [.agg (scC s)] (PV.val (Value.int .i64 (rightC s))):=by
  have hr:=sJ s hl hB
  by_cases h0:¬cD s=0
  · have e:rightC s=cD s:=by unfold rightC;rw [if_neg h0]
    rw [e]
    generalize cD s=R at*
    refine aH aD Tryz.func11 (by kernel_rfl) rfl rfl rfl rfl (fun st=> ?_)
    (try (apply wO pk;exact rfl));(repeat' (first|(show All _;constructor)|(show Imp _ _;constructor)|(apply wC pk;(iterate 2 exact rfl))|(apply wE pk;(iterate 2 exact rfl))|(refine aA rfl (fun h=> ?_) (fun h=> ?_)<;>(try simp at h)<;>try (exfalso;omega))|(refine aB ?_;refine ⟨_,_,_,rfl,Wk.refl _,StSub.refl _, ?_,rfl⟩;try rfl)|(apply aI;(iterate 3 exact rfl);(intro _;apply hr<;>first|assumption|omega);rotate_left;(iterate 2 exact rfl))))
  replace h0:=Decidable.of_not_not h0
  have e:rightC s=cC rightX s:=by unfold rightC;rw [if_pos h0]
  rw [e]
  rw [h0] at hr
  clear e h0
  refine aH aD Tryz.func11 (by kernel_rfl) rfl rfl rfl rfl (fun st=> ?_)
  focus ((try (apply wO pk;exact rfl));(repeat' (first|(show All _;constructor)|(show Imp _ _;constructor)|(apply wC pk;(iterate 2 exact rfl))|(apply wE pk;(iterate 2 exact rfl))|(refine aA rfl (fun h=> ?_) (fun h=> ?_)<;>(try simp at h)<;>try (exfalso;omega))|(apply aI;(iterate 3 exact rfl);(intro _;apply hr<;>first|assumption|omega);rotate_left;(iterate 2 exact rfl)))))
  refine aJ (X:={x:Nat//x≤s.length∧∀j (h:j<s.length),j<x→rightX s[j]=0}) (fun i=>((((St.nil 37 st).pv 15 (.seq (s.map Tb.cells))).pv 16 ((PV.val (Value.int .i64 (((s.map Tb.cells).length:Nat)))))).pv 17 ((PV.val (Value.int .i64 ((i.1:Nat))))))) (fun i=>s.length-i.1) ⟨0,by omega,by omega⟩ ?_ (fun i=> ?_)
  · ((repeat (refine Sub.pv ?_ rfl));exact Sub.nil _ _ _ (StSub.refl _) rfl)
  obtain ⟨i,hi,hI⟩:=i
  dsimp only
  by_cases hend:s.length≤i
  · have e:cC rightX s=0:=eB fun j hj=>hI j hj (by omega)
    (try (apply wO pk;exact rfl));(repeat' (first|(show All _;constructor)|(apply wC pk;(iterate 2 exact rfl))|(refine aA rfl (fun h=> ?_) (fun h=> ?_)<;>(try simp at h)<;>try (exfalso;omega))|(refine aB ?_;refine ⟨_,_,_,rfl,Wk.refl _,StSub.refl _, ?_,rfl⟩;try first|rfl|((rw [e]);done))))
  have hil:i<s.length:=by omega
  have hk:=hT _ (List.getElem_mem hil)
  have hcl:=hc _ (List.getElem_mem hil)
  have hkl:=(hB _ (List.getElem_mem hil)).k
  have e:=gO hI hil
  have hu:=gN hI hil
  focus ((try (apply wO pk;exact rfl));(repeat' (first|(show All _;constructor)|(show Imp _ _;constructor)|(apply wC pk;(iterate 2 exact rfl))|(apply wE pk;(iterate 2 exact rfl))|(refine aA rfl (fun h=> ?_) (fun h=> ?_)<;>(try simp at h)<;>try (exfalso;omega))|(apply aM pk;(iterate 6 exact rfl);rotate_left;exact rfl;(intro hw;exact rfl);(intro hw;apply aF<;>omega);(intro _;exact rfl);exact rfl)|(intros;(try simp only [zql]);omega))))
  refine aJ (X:={x:Nat//x≤s[i].checks.length∧∀j (h:j<s[i].checks.length),j<x→X.RightR (exOf s[i].checks[j]) (s[i].cols.map bK)=0}) (fun y=>((((((((St.nil 37 st).var 5 43 (s[i].cells)).pv 15 (.seq (s.map Tb.cells))).pv 16 ((PV.val (Value.int .i64 (((s.map Tb.cells).length:Nat)))))).pv 17 ((PV.val (Value.int .i64 ((i:Nat)))))).pv 22 (.seq s[i].checks)).pv 23 ((PV.val (Value.int .i64 ((s[i].checks.length:Nat)))))).pv 24 ((PV.val (Value.int .i64 ((y.1:Nat))))))) (fun y=>s[i].checks.length-y.1) ⟨0,by omega,by omega⟩ ?_ (fun y=> ?_)
  · ((repeat (first|refine Sub.pv ?_ rfl|refine Sub.var ?_ rfl rfl));exact Sub.nil _ _ _ (StSub.refl _) rfl)
  obtain ⟨y,hy,hyI⟩:=y
  dsimp only
  by_cases hend2:s[i].checks.length≤y
  · have e2:rightX s[i]=0:=eB fun j hj=>hyI j hj (by omega)
    (try (apply wO pk;exact rfl));(repeat' (first|(show All _;constructor)|(apply wC pk;(iterate 2 exact rfl))|(refine aA rfl (fun h=> ?_) (fun h=> ?_)<;>(try simp at h)<;>try (exfalso;omega))|(refine ⟨⟨i+1,by omega,hu e2⟩, ?_,by simp only;omega⟩;((repeat (refine Sub.pv ?_ rfl));exact Sub.nil _ _ _ (StSub.refl _) rfl))|(intros;(try simp only [zql]);omega)))
  have hyl:y<s[i].checks.length:=by omega
  obtain ⟨hok,hcc⟩:=nN (hk _ (List.getElem_mem hyl))
  have he:=gO (f:=fun c=>X.RightR (exOf c) (s[i].cols.map bK)) hyI hyl
  have hyu:=gN (f:=fun c=>X.RightR (exOf c) (s[i].cols.map bK)) hyI hyl
  change X.RightR (exOf s[i].checks[y]) (s[i].cols.map bK)≠0→rightX s[i]=X.RightR (exOf s[i].checks[y]) (s[i].cols.map bK) at he
  change X.RightR (exOf s[i].checks[y]) (s[i].cols.map bK)=0→_ at hyu
  have hE:=X.Right_spec hok s[i].cols hcl
  have hget:s[i].checks[y]?=some (exOf s[i].checks[y]).cells:=by rw [hcc,List.getElem?_eq_getElem hyl]
  generalize X.RightR (exOf s[i].checks[y]) (s[i].cols.map bK)=p at*
  generalize exOf s[i].checks[y]=x at*
  obtain ⟨xk,xn,xv,xo⟩:=x
  by_cases hp:p=0
  · (try (apply wO pk;exact rfl));(repeat' (first|(show All _;constructor)|(show Imp _ _;constructor)|(apply wC pk;(iterate 2 exact rfl))|(apply wE pk;(iterate 2 exact rfl))|(refine aA rfl (fun h=> ?_) (fun h=> ?_)<;>(try simp at h)<;>try (exfalso;omega))|(apply aI;(iterate 3 exact rfl);(intro _;apply hE<;>first|assumption|omega);rotate_left;(iterate 2 exact rfl))|(apply aM pk;(iterate 6 exact rfl);rotate_left;exact rfl;(intro hw;exact rfl);(intro hw;apply hget<;>omega);(intro _;exact rfl);exact rfl)|(refine ⟨⟨y+1,by omega,hyu hp⟩, ?_,by simp only;omega⟩;((repeat (first|refine Sub.pv ?_ rfl|refine Sub.var ?_ rfl rfl));exact Sub.nil _ _ _ (StSub.refl _) rfl))|(intros;(try simp only [zql]);omega)))
  · have hfin:cC rightX s=p:=by rw [e (by rw [he hp];exact hp),he hp]
    (try (apply wO pk;exact rfl));(repeat' (first|(show All _;constructor)|(show Imp _ _;constructor)|(apply wC pk;(iterate 2 exact rfl))|(apply wE pk;(iterate 2 exact rfl))|(refine aA rfl (fun h=> ?_) (fun h=> ?_)<;>(try simp at h)<;>try (exfalso;omega))|(refine aB ?_;refine ⟨_,_,_,rfl,Wk.refl _,StSub.refl _, ?_,rfl⟩;try first|rfl|((rw [hfin]);done))|(apply aI;(iterate 3 exact rfl);(intro _;apply hE<;>first|assumption|omega);rotate_left;(iterate 2 exact rfl))|(apply aM pk;(iterate 6 exact rfl);rotate_left;exact rfl;(intro hw;exact rfl);(intro hw;apply hget<;>omega);(intro _;exact rfl);exact rfl)))
end Go.Proofs.YtcglimangneafaaGreatDoor
namespace Go.Proofs.YtcglimangneafaaGreatDoor
open Go Go.Abs
set_option maxRecDepth 10000
def jS (n:Int):PV:=(PV.val (Value.int .i64 (n)))
def Ie (k:Int):Value:= .int .i64 k
theorem atF {g:G} (a:Int):VR Tryz.prog g 3 [.val (Ie a)] (Ie a):=⟨fun h=>absurd (h.symm.trans (show bF Tryz.prog 3=false from by kernel_rfl)) (by simp),fun _=>by simp only [RepL];exact ⟨_,[],rfl,by simp [Rep],rfl⟩⟩
theorem qW :KeyOK Tryz.prog 3 Ie (fun k=> .val (Ie k)) where
  und:=rfl
  chk k b w:=fP (k:= .int .i64) (by kernel_rfl) rfl rfl b w
  now kd h a b:=by
    have hI:Tryz.prog.underlying 3=some (.int .i64):=by kernel_rfl
    have hkd:kd= .int .i64:=by
      rw [hI] at h
      injection h with h
      exact h.symm
    subst hkd
    right
    simp only [Ie,Instr.sameNow,if_true]
    congr 1
  eq a b w:=by
    have g:G:=⟨#[],fun _=>none,fun _=>0,fun _=>False⟩
    exact iL aD (g:=g) 8 Op.maxDepth (by decide) 3 _ _ _ _ _ (show peq tt 8 3 [.val (Ie a)] [.val (Ie b)]=some (decide (a=b)) from rfl) (by kernel_rfl) (atF a) (atF b)
  rp k g v h:=aP h
  bits k:=wZ rfl
end Go.Proofs.YtcglimangneafaaGreatDoor
