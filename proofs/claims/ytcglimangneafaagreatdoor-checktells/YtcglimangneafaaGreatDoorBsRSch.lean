import Derived.Test.YtcglimangneafaaGreatDoorBsSch
import Derived.Test.YtcglimangneafaaGreatDoorBsCell
import Derived.Test.YtcglimangneafaaGreatDoorTzB
import Derived.Test.YtcglimangneafaaGreatDoorBsPutS
set_option linter.unusedSimpArgs false
set_option linter.unusedVariables false
namespace Go.Proofs.YtcglimangneafaaGreatDoor
open Go Go.Abs
attribute [local irreducible] Ev PWp
set_option maxRecDepth 10000
set_option maxHeartbeats 4000000
theorem aoJ (t:Tb) (k:Nat) (hl:t.cols.length<200000000000000) (hk:k<t.cols.length):PF Tryz.prog 146 [.agg t.cells,(PV.val (Value.int .i64 ((k:Nat))))] (PV.val (Value.int .i64 (qM t k))):=by
  have hn:=xA t.cols[k].name
  have e:qM t k=aeT (t.cols.take k) t.cols[k]:=by unfold qM;rw [getElem!_pos t.cols k hk]
  rw [e]
  unfold aeT
  generalize lP t.cols[k].name=N at*
  refine aH aD Tryz.func146 (by kernel_rfl) rfl rfl rfl rfl (fun st=> ?_)
  focus ((try (apply wO pk;exact rfl));(repeat' (first|(show All _;constructor)|(show Imp _ _;constructor)|(show ImpX _ _ _ _;constructor)|(apply wC pk;(iterate 2 exact rfl))|(apply wE pk;(iterate 2 exact rfl))|(refine aA rfl (fun h=> ?_) (fun h=> ?_)<;>(try simp at h)<;>try (exfalso;omega))|(refine aB ?_;refine ⟨_,_,_,rfl,Wk.refl _,StSub.refl _, ?_,rfl⟩;try first|rfl|((rw [if_pos (by grind)]);done))|(apply aI;(iterate 3 exact rfl);(intro _;apply hn<;>first|assumption|omega);rotate_left;(iterate 2 exact rfl))|(apply aM pk;(iterate 6 exact rfl);rotate_left;exact rfl;(intro hw;exact rfl);(intro hw;apply aF<;>omega);(intro _;exact rfl);exact rfl))))
  refine aJ (X:={x:Nat//x≤k∧∀j (h:j<t.cols.length),j<x→t.cols[j].name≠t.cols[k].name}) (fun i=>(((((St.nil 78 st).pv 1 ((PV.val (Value.int .i64 ((k:Nat)))))).var 2 43 (t.cells)).var 5 98 (t.cols[k].cells)).pv 6 ((PV.val (Value.int .i64 ((i.1:Nat))))))) (fun i=>k-i.1) ⟨0,by omega,by omega⟩ ?_ (fun i=> ?_)
  · ((repeat (first|refine Sub.pv ?_ rfl|refine Sub.var ?_ rfl rfl));exact Sub.nil _ _ _ (StSub.refl _) rfl)
  obtain ⟨i,hi,hI⟩:=i
  dsimp only
  by_cases hend:k≤i
  have ha:((t.cols.take k).any fun x=>decide (x.name=t.cols[k].name))=false:=by
    rw [←Bool.not_eq_true,List.any_eq_true]
    rintro ⟨x,hx,hxe⟩
    obtain ⟨j,hj,rfl⟩:=List.getElem_of_mem hx
    rw [List.length_take] at hj
    rw [List.getElem_take,decide_eq_true_eq] at hxe
    exact hI j (by omega) (by omega) hxe
  rw [ha]
  rotate_left
  have hil:i<t.cols.length:=by omega
  by_cases hq:t.cols[i].name=t.cols[k].name
  have ha:((t.cols.take k).any fun x=>decide (x.name=t.cols[k].name))=true:=List.any_eq_true.2 ⟨t.cols[i],List.mem_iff_getElem.2 ⟨i,by rw [List.length_take];omega,by rw [List.getElem_take]⟩,by rw [decide_eq_true_eq];exact hq⟩
  rw [ha]
  rotate_left
  have hup:∀j (h:j<t.cols.length),j<i+1→t.cols[j].name≠t.cols[k].name:=fun j hj hji=>by
    rcases Nat.lt_succ_iff_lt_or_eq.1 hji with w|w
    · exact hI j hj w
    · subst w;exact hq
  rotate_left
  all_goals ((try (apply wO pk;exact rfl));(repeat' (first|(show All _;constructor)|(show Imp _ _;constructor)|(show ImpX _ _ _ _;constructor)|(apply wC pk;(iterate 2 exact rfl))|(apply wE pk;(iterate 2 exact rfl))|(apply wD pk [] [];kernel_rfl;exact rfl;exact rfl)|(refine aA rfl (fun h=> ?_) (fun h=> ?_)<;>(try simp at h)<;>try (exfalso;omega))|(refine aB ?_;refine ⟨_,_,_,rfl,Wk.refl _,StSub.refl _, ?_,rfl⟩;try first|rfl|((congr 2;grind);done))|(apply aM pk;(iterate 6 exact rfl);rotate_left;exact rfl;(intro hw;exact rfl);(intro hw;apply aF<;>omega);(intro _;exact rfl);exact rfl)|(refine ⟨⟨i+1,by omega,hup⟩, ?_,by simp only;omega⟩;((repeat (first|refine Sub.pv ?_ rfl|refine Sub.var ?_ rfl rfl));exact Sub.nil _ _ _ (StSub.refl _) rfl))|(intros;(try simp only [zql]);omega)|((exfalso;grind)))))
theorem nS (t:Tb) (i:Int):PF Tryz.prog 204 [.agg t.cells,(PV.val (Value.int .i64 (i)))] (.tup [(PV.val (Value.bool (fF t i))),(PV.val (Value.bool (fF t i&&eY (eF t i))))]):=by
  cases hh:fF t i with
  |false=>
    unfold fF at hh
    simp only [Bool.and_eq_false_iff,decide_eq_false_iff_not] at hh
    refine aH aD Tryz.func204 (by kernel_rfl) rfl rfl rfl rfl (fun st=> ?_)
    (try (apply wO pk;exact rfl));(repeat' (first|(show All _;constructor)|(show Imp _ _;constructor)|(show ImpX _ _ _ _;constructor)|(apply wC pk;(iterate 2 exact rfl))|(refine aA rfl (fun h=> ?_) (fun h=> ?_)<;>(try simp at h)<;>try (exfalso;omega))|(refine aB ?_;refine ⟨_,_,_,rfl,Wk.refl _,StSub.refl _, ?_,rfl⟩;try rfl)))
  |true=>
    obtain ⟨j,rfl,hj,e⟩:=nK hh
    rw [e]
    have hj1:1≤j:=by unfold fF at hh;simp at hh;omega
    refine aH aD Tryz.func204 (by kernel_rfl) rfl rfl rfl rfl (fun st=> ?_)
    (try (apply wO pk;exact rfl));(repeat' (first|(show All _;constructor)|(show Imp _ _;constructor)|(show ImpX _ _ _ _;constructor)|(apply wC pk;(iterate 2 exact rfl))|(apply wE pk;(iterate 2 exact rfl))|(apply wD pk [] [];kernel_rfl;exact rfl;exact rfl)|(refine aA rfl (fun h=> ?_) (fun h=> ?_)<;>(try simp at h)<;>try (exfalso;omega))|(refine aB ?_;refine ⟨_,_,_,rfl,Wk.refl _,StSub.refl _, ?_,rfl⟩;try first|rfl|((unfold eY;simp;done);done))|(apply aM pk;(iterate 6 exact rfl);rotate_left;exact rfl;(intro hw;exact rfl);(intro hw;apply aF<;>omega);(intro _;exact rfl);exact rfl)))
theorem amX (t:Tb) (k:Nat) (hl:t.cols.length<200000000000000) (hu:t.unique.length<200000000000000) (hk:k<t.unique.length):PF Tryz.prog 147 [.agg t.cells,(PV.val (Value.int .i64 ((k:Nat))))] (PV.val (Value.int .i64 (nX t k))):=by
  have hh:=nS t t.unique[k]
  have e:nX t k=wM (fF t t.unique[k]) (decide (0<k)&&decide (t.unique[k]≤t.unique[k-1]'(by omega))) (eY (eF t t.unique[k])):=by
    unfold nX;rw [getElem!_pos t.unique k hk,getElem!_pos t.unique (k-1) (by omega)]
  rw [e]
  unfold wM
  generalize fF t t.unique[k]=H at*
  generalize eY (eF t t.unique[k])=N at*
  rcases Nat.eq_zero_or_pos k with rfl|hk0
  refine aH aD Tryz.func147 (by kernel_rfl) rfl rfl rfl rfl (fun st=> ?_)
  rotate_left
  refine aH aD Tryz.func147 (by kernel_rfl) rfl rfl rfl rfl (fun st=> ?_)
  rotate_left
  all_goals ((try (apply wO pk;exact rfl));(repeat' (first|(show All _;constructor)|(show Imp _ _;constructor)|(show ImpX _ _ _ _;constructor)|(apply wC pk;(iterate 2 exact rfl))|(apply wE pk;(iterate 2 exact rfl))|(apply wD pk [] [];kernel_rfl;exact rfl;exact rfl)|(refine aA rfl (fun h=> ?_) (fun h=> ?_)<;>(try simp at h)<;>try (exfalso;omega))|(refine aB ?_;refine ⟨_,_,_,rfl,Wk.refl _,StSub.refl _, ?_,rfl⟩;try first|rfl|((congr 2;grind);done))|(apply aI;(iterate 3 exact rfl);(intro _;apply hh<;>first|assumption|omega);rotate_left;(iterate 2 exact rfl))|(apply aM pk;(iterate 6 exact rfl);rotate_left;exact rfl;(first|((intro hw;exact (show _=((0:Nat):Int) from by exact (hJ hw).elim));(intro hw;apply aF<;>omega);(intro _;exact rfl))|((intro hw;exact rfl);(intro hw;apply aF<;>omega);(intro _;exact rfl))|((intro hw;exact (show _=(((k-1:Nat)):Int) from by omega));(intro hw;apply aF<;>omega);(intro _;exact rfl)));exact rfl)|(intros;(try simp only [zql]);omega))))
theorem anT (s:Sc) (t:Tb) (k:Nat) (hu:t.foreign.length<200000000000000) (hk:k<t.foreign.length):PF Tryz.prog 148 [.agg (scC s), .agg t.cells,(PV.val (Value.int .i64 ((k:Nat))))] (PV.val (Value.int .i64 (pC s.length t k))):=by
  have hh:=nS t t.foreign[k].col
  have e:pC s.length t k=xM (fF t t.foreign[k].col) (decide (t.foreign[k].table<0)||decide (t.foreign[k].table≥s.length)) (decide (0<k)&&decide (t.foreign[k].col≤(t.foreign[k-1]'(by omega)).col)) (decide (t.foreign[k].act<0)||decide (t.foreign[k].act>2)) (eY (eF t t.foreign[k].col)) (decide (t.foreign[k].act=2)&& !(eF t t.foreign[k].col).null):=by
    unfold pC;rw [getElem!_pos t.foreign k hk,getElem!_pos t.foreign (k-1) (by omega)]
  rw [e]
  unfold xM
  cases hc:fF t t.foreign[k].col with
  |false=>
    rw [hc] at hh
    refine aH aD Tryz.func148 (by kernel_rfl) rfl rfl rfl rfl (fun st=> ?_)
    (try (apply wO pk;exact rfl));(repeat' (first|(show All _;constructor)|(show Imp _ _;constructor)|(show ImpX _ _ _ _;constructor)|(apply wC pk;(iterate 2 exact rfl))|(apply wE pk;(iterate 2 exact rfl))|(refine aA rfl (fun h=> ?_) (fun h=> ?_)<;>(try simp at h)<;>try (exfalso;omega))|(refine aB ?_;refine ⟨_,_,_,rfl,Wk.refl _,StSub.refl _, ?_,rfl⟩;try first|rfl|((rw [if_pos (by grind)]);done))|(apply aI;(iterate 3 exact rfl);(intro _;apply hh<;>first|assumption|omega);rotate_left;(iterate 2 exact rfl))|(apply aM pk;(iterate 6 exact rfl);rotate_left;exact rfl;(intro hw;exact rfl);(intro hw;apply aF<;>omega);(intro _;exact rfl);exact rfl)))
  |true=>
  obtain ⟨j,hj1,hj,ec⟩:=nK hc
  rw [hc,ec] at hh
  rw [ec]
  generalize eY t.cols[j]=N at*
  rcases Nat.eq_zero_or_pos k with rfl|hk0
  refine aH aD Tryz.func148 (by kernel_rfl) rfl rfl rfl rfl (fun st=> ?_)
  rotate_left
  refine aH aD Tryz.func148 (by kernel_rfl) rfl rfl rfl rfl (fun st=> ?_)
  rotate_left
  all_goals ((try (apply wO pk;exact rfl));(repeat' (first|(show All _;constructor)|(show Imp _ _;constructor)|(show ImpX _ _ _ _;constructor)|(apply wC pk;(iterate 2 exact rfl))|(apply wE pk;(iterate 2 exact rfl))|(apply wD pk [] [];kernel_rfl;exact rfl;exact rfl)|(refine aA rfl (fun h=> ?_) (fun h=> ?_)<;>(try simp at h)<;>try (exfalso;omega))|(refine aB ?_;refine ⟨_,_,_,rfl,Wk.refl _,StSub.refl _, ?_,rfl⟩;try first|rfl|((congr 2;grind);done))|(apply aI;(iterate 3 exact rfl);(intro _;apply hh<;>first|assumption|omega);rotate_left;(iterate 2 exact rfl))|(apply aM pk;(iterate 6 exact rfl);rotate_left;exact rfl;(first|((intro hw;exact (show _=((0:Nat):Int) from by exact (hJ hw).elim));(intro hw;apply aF<;>omega);(intro _;exact rfl))|((intro hw;exact rfl);(intro hw;apply aF<;>omega);(intro _;exact rfl))|((intro hw;exact (show _=((j:Nat):Int) from by omega));(intro hw;apply aF<;>omega);(intro _;exact rfl))|((intro hw;exact (show _=(((k-1:Nat)):Int) from by omega));(intro hw;apply aF<;>omega);(intro _;exact rfl)));exact rfl)|(intros;(try simp only [zql]);omega))))
theorem alQ (t:Tb) (k:Nat) (hu:t.sums.length<200000000000000) (hk:k<t.sums.length):PF Tryz.prog 149 [.agg t.cells,(PV.val (Value.int .i64 ((k:Nat))))] (PV.val (Value.int .i64 (oA t k))):=by
  have h1:=nS t t.sums[k].col
  have h2:=nS t t.sums[k].by_
  have e:oA t k=xD (fF t t.sums[k].col&&fF t t.sums[k].by_) ((decide (t.sums[k].col=t.sums[k].by_)||decide (t.sums[k].max<0))||decide (t.sums[k].max>1099511627776)) (eY (eF t t.sums[k].col)&&eY (eF t t.sums[k].by_)) ((t.sums.take k).any fun y=>decide (y.col=t.sums[k].col)&&decide (y.by_=t.sums[k].by_)):=by
    unfold oA;rw [getElem!_pos t.sums k hk]
  rw [e]
  unfold xD
  generalize fF t t.sums[k].col=H at*
  generalize fF t t.sums[k].by_=I at*
  generalize eY (eF t t.sums[k].col)=N at*
  generalize eY (eF t t.sums[k].by_)=M at*
  refine aH aD Tryz.func149 (by kernel_rfl) rfl rfl rfl rfl (fun st=> ?_)
  focus ((try (apply wO pk;exact rfl));(repeat' (first|(show All _;constructor)|(show Imp _ _;constructor)|(show ImpX _ _ _ _;constructor)|(apply wC pk;(iterate 2 exact rfl))|(apply wE pk;(iterate 2 exact rfl))|(refine aA rfl (fun h=> ?_) (fun h=> ?_)<;>(try simp at h)<;>try (exfalso;omega))|(refine aB ?_;refine ⟨_,_,_,rfl,Wk.refl _,StSub.refl _, ?_,rfl⟩;try first|rfl|((congr 2;grind);done))|(apply aI;(iterate 3 exact rfl);(intro _;(first|apply h1|apply h2)<;>first|assumption|omega);rotate_left;(iterate 2 exact rfl))|(apply aM pk;(iterate 6 exact rfl);rotate_left;exact rfl;(intro hw;exact rfl);(intro hw;apply aF<;>omega);(intro _;exact rfl);exact rfl))))
  refine aJ (X:={x:Nat//x≤k∧∀j (h:j<t.sums.length),j<x→¬(t.sums[j].col=t.sums[k].col∧t.sums[j].by_=t.sums[k].by_)}) (fun i=>(((((St.nil 82 st).pv 1 ((PV.val (Value.int .i64 ((k:Nat)))))).var 2 43 (t.cells)).var 5 63 (t.sums[k].cells)).pv 10 ((PV.val (Value.int .i64 ((i.1:Nat))))))) (fun i=>k-i.1) ⟨0,by omega,by omega⟩ ?_ (fun i=> ?_)
  · ((repeat (first|refine Sub.pv ?_ rfl|refine Sub.var ?_ rfl rfl));exact Sub.nil _ _ _ (StSub.refl _) rfl)
  obtain ⟨i,hi,hI⟩:=i
  dsimp only
  by_cases hend:k≤i
  have ha:((t.sums.take k).any fun y=>decide (y.col=t.sums[k].col)&&decide (y.by_=t.sums[k].by_))=false:=by
    rw [←Bool.not_eq_true,List.any_eq_true]
    rintro ⟨x,hx,hxe⟩
    obtain ⟨j,hj,rfl⟩:=List.getElem_of_mem hx
    rw [List.length_take] at hj
    rw [List.getElem_take,Bool.and_eq_true,decide_eq_true_eq,decide_eq_true_eq] at hxe
    exact hI j (by omega) (by omega) hxe
  rw [ha]
  rotate_left
  have hil:i<t.sums.length:=by omega
  by_cases hq:t.sums[i].col=t.sums[k].col∧t.sums[i].by_=t.sums[k].by_
  have ha:((t.sums.take k).any fun y=>decide (y.col=t.sums[k].col)&&decide (y.by_=t.sums[k].by_))=true:=List.any_eq_true.2 ⟨t.sums[i],List.mem_iff_getElem.2 ⟨i,by rw [List.length_take];omega,by rw [List.getElem_take]⟩,by rw [Bool.and_eq_true,decide_eq_true_eq,decide_eq_true_eq];exact hq⟩
  rw [ha]
  rotate_left
  have hup:∀j (h:j<t.sums.length),j<i+1→¬(t.sums[j].col=t.sums[k].col∧t.sums[j].by_=t.sums[k].by_):=fun j hj hji=>by
    rcases Nat.lt_succ_iff_lt_or_eq.1 hji with w|w
    · exact hI j hj w
    · subst w;exact hq
  rotate_left
  all_goals ((try (apply wO pk;exact rfl));(repeat' (first|(show All _;constructor)|(show Imp _ _;constructor)|(show ImpX _ _ _ _;constructor)|(apply wC pk;(iterate 2 exact rfl))|(apply wE pk;(iterate 2 exact rfl))|(apply wD pk [] [];kernel_rfl;exact rfl;exact rfl)|(refine aA rfl (fun h=> ?_) (fun h=> ?_)<;>(try simp at h)<;>try (exfalso;omega))|(refine aB ?_;refine ⟨_,_,_,rfl,Wk.refl _,StSub.refl _, ?_,rfl⟩;try first|rfl|((congr 2;grind);done))|(apply aM pk;(iterate 6 exact rfl);rotate_left;exact rfl;(intro hw;exact rfl);(intro hw;apply aF<;>omega);(intro _;exact rfl);exact rfl)|(refine ⟨⟨i+1,by omega,hup⟩, ?_,by simp only;omega⟩;((repeat (first|refine Sub.pv ?_ rfl|refine Sub.var ?_ rfl rfl));exact Sub.nil _ _ _ (StSub.refl _) rfl))|(intros;(try simp only [zql]);omega))))
theorem mF {a:Int} {l:List Int} (h:a≠0):orI (a::l)=a:=by rw [orI,if_neg h]
theorem pE {a:Int} {l:List Int} (h:a=0):orI (a::l)=orI l:=by rw [orI,if_pos h]
theorem up0 {f:Nat→Int} {i:Nat} (hI:∀j<i,f j=0) (h:f i=0):∀j<i+1,f j=0:=fun j hj=>by
  rcases Nat.lt_succ_iff_lt_or_eq.1 hj with q|q
  · exact hI j q
  · subst q;exact h
def apH (m:Nat) (t:Tb):Int:=orI [lk2 t,lk3 t,lk4 t,lk5 m t,lk6 t]
theorem afR (s:Sc) (t:Tb) (hB:TbB t) (hc:0<t.cols.length):PF Tryz.prog 105 [.agg (scC s), .agg t.cells] (PV.val (Value.int .i64 (apH s.length t))):=by
  have b1:=hB.c
  have b2:=hB.u
  have b3:=hB.f
  have b4:=hB.s
  unfold apH
  refine aH aD Tryz.func105 (by kernel_rfl) rfl rfl rfl rfl (fun st=> ?_)
  focus ((try (apply wO pk;exact rfl));(repeat' ((show All _;constructor))))
  refine aJ (X:={x:Nat//x≤t.cols.length∧∀j<x,qM t j=0}) (fun i=>((((St.nil 87 st).var 2 24 ((scC s))).var 3 43 (t.cells)).pv 5 ((PV.val (Value.int .i64 ((i.1:Nat))))))) (fun i=>t.cols.length-i.1) ⟨0,by omega,by omega⟩ ?_ (fun i=> ?_)
  · ((repeat (first|refine Sub.pv ?_ rfl|refine Sub.var ?_ rfl rfl));exact Sub.nil _ _ _ (StSub.refl _) rfl)
  obtain ⟨i,hi,hI⟩:=i
  dsimp only
  by_cases hil:i<t.cols.length
  have hs:=aoJ t i b1 hil
  have hF:qM t i≠0→orI [lk2 t,lk3 t,lk4 t,lk5 s.length t,lk6 t]=qM t i:=fun h=>by
    have e:lk2 t=qM t i:=iU hil h hI
    rw [mF (by rw [e];exact h),e]
  have hU:=fun h=>up0 hI h
  generalize qM t i=E at*
  rotate_left
  have z2:lk2 t=0:=iV fun j hj=>hI j (by omega)
  rw [pE z2]
  have h3:lk3 t=if eY t.cols[0]=false∨t.cols[0].null=true then 6 else 0:=by unfold lk3;rw [getElem!_pos t.cols 0 hc]
  by_cases hk:eY t.cols[0]=false∨t.cols[0].null=true
  rw [if_pos hk] at h3
  rw [mF (by rw [h3];decide),h3]
  unfold eY at hk
  simp only [Bool.and_eq_false_iff,decide_eq_false_iff_not] at hk
  rotate_left
  rw [if_neg hk] at h3
  rw [pE h3]
  unfold eY at hk
  simp only [Bool.and_eq_false_iff,decide_eq_false_iff_not] at hk
  focus ((try (apply wO pk;exact rfl));(repeat' (first|(show All _;constructor)|(show Imp _ _;constructor)|(show ImpX _ _ _ _;constructor)|(apply wC pk;(iterate 2 exact rfl))|(apply wE pk;(iterate 2 exact rfl))|(refine aA rfl (fun h=> ?_) (fun h=> ?_)<;>(try simp at h)<;>try (exfalso;omega))|(refine aB ?_;refine ⟨_,_,_,rfl,Wk.refl _,StSub.refl _, ?_,rfl⟩;try rfl)|(apply aM pk;(iterate 6 exact rfl);rotate_left;exact rfl;(intro hw;exact rfl);(intro hw;apply aF<;>omega);(intro _;exact rfl);exact rfl)|(intros;(try simp only [zql]);omega)|((exfalso;grind)))))
  refine aJ (X:={x:Nat//x≤t.unique.length∧∀j<x,nX t j=0}) (fun y=>((((St.nil 87 st).var 2 24 ((scC s))).var 3 43 (t.cells)).pv 7 ((PV.val (Value.int .i64 ((y.1:Nat))))))) (fun y=>t.unique.length-y.1) ⟨0,by omega,by omega⟩ ?_ (fun y=> ?_)
  · ((repeat (first|refine Sub.pv ?_ rfl|refine Sub.var ?_ rfl rfl));exact Sub.nil _ _ _ (StSub.refl _) rfl)
  obtain ⟨y,hy,hyI⟩:=y
  dsimp only
  by_cases hyl:y<t.unique.length
  have hs:=amX t y b1 b2 hyl
  have hF:nX t y≠0→orI [lk4 t,lk5 s.length t,lk6 t]=nX t y:=fun h=>by
    have e:lk4 t=nX t y:=iU hyl h hyI
    rw [mF (by rw [e];exact h),e]
  have hU2:=fun h=>up0 hyI h
  generalize nX t y=E at*
  rotate_left
  rw [pE (show lk4 t=0 from iV fun j hj=>hyI j (by omega))]
  focus ((try (apply wO pk;exact rfl));(repeat' (first|(show All _;constructor)|(apply wC pk;(iterate 2 exact rfl))|(refine aA rfl (fun h=> ?_) (fun h=> ?_)<;>(try simp at h)<;>try (exfalso;omega)))))
  refine aJ (X:={x:Nat//x≤t.foreign.length∧∀j<x,pC s.length t j=0}) (fun z=>((((St.nil 87 st).var 2 24 ((scC s))).var 3 43 (t.cells)).pv 9 ((PV.val (Value.int .i64 ((z.1:Nat))))))) (fun z=>t.foreign.length-z.1) ⟨0,by omega,by omega⟩ ?_ (fun z=> ?_)
  · ((repeat (first|refine Sub.pv ?_ rfl|refine Sub.var ?_ rfl rfl));exact Sub.nil _ _ _ (StSub.refl _) rfl)
  obtain ⟨z,hz,hzI⟩:=z
  dsimp only
  by_cases hzl:z<t.foreign.length
  have hs:=anT s t z b3 hzl
  have hF:pC s.length t z≠0→orI [lk5 s.length t,lk6 t]=pC s.length t z:=fun h=>by
    have e:lk5 s.length t=pC s.length t z:=iU hzl h hzI
    rw [mF (by rw [e];exact h),e]
  have hU3:=fun h=>up0 hzI h
  generalize pC s.length t z=E at*
  rotate_left
  rw [pE (show lk5 s.length t=0 from iV fun j hj=>hzI j (by omega))]
  focus ((try (apply wO pk;exact rfl));(repeat' (first|(show All _;constructor)|(apply wC pk;(iterate 2 exact rfl))|(refine aA rfl (fun h=> ?_) (fun h=> ?_)<;>(try simp at h)<;>try (exfalso;omega)))))
  refine aJ (X:={x:Nat//x≤t.sums.length∧∀j<x,oA t j=0}) (fun w=>(((St.nil 87 st).var 3 43 (t.cells)).pv 11 ((PV.val (Value.int .i64 ((w.1:Nat))))))) (fun w=>t.sums.length-w.1) ⟨0,by omega,by omega⟩ ?_ (fun w=> ?_)
  · ((repeat (first|refine Sub.pv ?_ rfl|refine Sub.var ?_ rfl rfl));exact Sub.nil _ _ _ (StSub.refl _) rfl)
  obtain ⟨w,hw,hwI⟩:=w
  dsimp only
  by_cases hwl:w<t.sums.length
  have hs:=alQ t w b4 hwl
  have hF:oA t w≠0→orI [lk6 t]=oA t w:=fun h=>by
    have e:lk6 t=oA t w:=iU hwl h hwI
    rw [mF (by rw [e];exact h),e]
  have hU4:=fun h=>up0 hwI h
  generalize oA t w=E at*
  rotate_left
  rw [pE (show lk6 t=0 from iV fun j hj=>hwI j (by omega))]
  rotate_left
  all_goals ((try (apply wO pk;exact rfl));(repeat' (first|(show All _;constructor)|(show Imp _ _;constructor)|(show ImpX _ _ _ _;constructor)|(apply wC pk;(iterate 2 exact rfl))|(apply wE pk;(iterate 2 exact rfl))|(refine aA rfl (fun h=> ?_) (fun h=> ?_)<;>(try simp at h)<;>try (exfalso;omega))|(refine aB ?_;refine ⟨_,_,_,rfl,Wk.refl _,StSub.refl _, ?_,rfl⟩;try first|rfl|((((rw [hF (by assumption)]);done));done))|(apply aI;(iterate 3 exact rfl);(intro _;apply hs<;>first|assumption|omega);rotate_left;(iterate 2 exact rfl))|(apply aM pk;(iterate 6 exact rfl);rotate_left;exact rfl;(intro hw;exact rfl);(intro hw;apply aF<;>omega);(intro _;exact rfl);exact rfl)|((first|refine ⟨⟨i+1,by omega,hU (by assumption)⟩, ?_,by simp only;omega⟩|refine ⟨⟨y+1,by omega,hU2 (by assumption)⟩, ?_,by simp only;omega⟩|refine ⟨⟨z+1,by omega,hU3 (by assumption)⟩, ?_,by simp only;omega⟩|refine ⟨⟨w+1,by omega,hU4 (by assumption)⟩, ?_,by simp only;omega⟩);((repeat (first|refine Sub.pv ?_ rfl|refine Sub.var ?_ rfl rfl));exact Sub.nil _ _ _ (StSub.refl _) rfl))|(intros;(try simp only [zql]);omega)|((exfalso;grind)))))
theorem adR (s:Sc) (k:Nat) (hl:s.length<200000000000000) (hk:k<s.length) (hB:TbB s[k]):PF Tryz.prog 63 [.agg (scC s),(PV.val (Value.int .i64 ((k:Nat))))] (PV.val (Value.int .i64 (nZ s k))):=by
  have b1:=hB.c
  have b2:=hB.u
  have b3:=hB.f
  have b4:=hB.s
  have b5:=hB.k
  have hn:=xA s[k].name
  have hp:=afR s s[k] hB
  have e:nZ s k=orI [lk0 s k,lk1 s[k],lk2 s[k],lk3 s[k],lk4 s[k],lk5 s.length s[k],lk6 s[k]]:=by unfold nZ lks;rw [getElem!_pos s k hk]
  rw [e]
  have h0:lk0 s k=if lP s[k].name=false then 1 else if agM s k=true then 5 else 0:=by unfold lk0;rw [getElem!_pos s k hk]
  have hdup:agM s k=(s.take k).any fun t=>decide (t.name=s[k].name):=by unfold agM;rw [getElem!_pos s k hk]
  cases hN:lP s[k].name with
  |false=>
    rw [hN,if_pos rfl] at h0
    rw [hN] at hn
    rw [mF (by rw [h0];decide),h0]
    refine aH aD Tryz.func63 (by kernel_rfl) rfl rfl rfl rfl (fun st=> ?_)
    (try (apply wO pk;exact rfl));(repeat' (first|(show All _;constructor)|(show Imp _ _;constructor)|(apply wC pk;(iterate 2 exact rfl))|(apply wE pk;(iterate 2 exact rfl))|(refine aA rfl (fun h=> ?_) (fun h=> ?_)<;>(try simp at h)<;>try (exfalso;omega))|(refine aB ?_;refine ⟨_,_,_,rfl,Wk.refl _,StSub.refl _, ?_,rfl⟩;try rfl)|(apply aI;(iterate 3 exact rfl);(intro _;apply hn<;>first|assumption|omega);rotate_left;(iterate 2 exact rfl))|(apply aM pk;(iterate 6 exact rfl);rotate_left;exact rfl;(intro hw;exact rfl);(intro hw;apply aF<;>omega);(intro _;exact rfl);exact rfl)))
  |true=>
  rw [hN,if_neg (by simp)] at h0
  rw [hN] at hn
  refine aH aD Tryz.func63 (by kernel_rfl) rfl rfl rfl rfl (fun st=> ?_)
  focus ((try (apply wO pk;exact rfl));(repeat' (first|(show All _;constructor)|(show Imp _ _;constructor)|(apply wC pk;(iterate 2 exact rfl))|(apply wE pk;(iterate 2 exact rfl))|(refine aA rfl (fun h=> ?_) (fun h=> ?_)<;>(try simp at h)<;>try (exfalso;omega))|(apply aI;(iterate 3 exact rfl);(intro _;apply hn<;>first|assumption|omega);rotate_left;(iterate 2 exact rfl))|(apply aM pk;(iterate 6 exact rfl);rotate_left;exact rfl;(intro hw;exact rfl);(intro hw;apply aF<;>omega);(intro _;exact rfl);exact rfl))))
  refine aJ (X:={x:Nat//x≤k∧∀j (h:j<s.length),j<x→s[j].name≠s[k].name}) (fun i=>(((((St.nil 67 st).pv 1 ((PV.val (Value.int .i64 ((k:Nat)))))).var 2 24 ((scC s))).var 5 43 (s[k].cells)).pv 6 ((PV.val (Value.int .i64 ((i.1:Nat))))))) (fun i=>k-i.1) ⟨0,by omega,by omega⟩ ?_ (fun i=> ?_)
  · ((repeat (first|refine Sub.pv ?_ rfl|refine Sub.var ?_ rfl rfl));exact Sub.nil _ _ _ (StSub.refl _) rfl)
  obtain ⟨i,hi,hI⟩:=i
  dsimp only
  by_cases hend:¬k≤i
  have hil:i<s.length:=by omega
  by_cases hq:s[i].name=s[k].name
  have ha:agM s k=true:=by rw [hdup];exact List.any_eq_true.2 ⟨s[i],List.mem_iff_getElem.2 ⟨i,by rw [List.length_take];omega,by rw [List.getElem_take]⟩,by rw [decide_eq_true_eq];exact hq⟩
  rw [if_pos ha] at h0
  rw [mF (by rw [h0];decide),h0]
  rotate_left
  have hup:∀j (h:j<s.length),j<i+1→s[j].name≠s[k].name:=fun j hj hji=>by
    rcases Nat.lt_succ_iff_lt_or_eq.1 hji with w|w
    · exact hI j hj w
    · subst w;exact hq
  rotate_left
  have ha:agM s k=false:=by
    rw [hdup,←Bool.not_eq_true,List.any_eq_true]
    rintro ⟨x,hx,hxe⟩
    obtain ⟨j,hj,rfl⟩:=List.getElem_of_mem hx
    rw [List.length_take] at hj
    rw [List.getElem_take,decide_eq_true_eq] at hxe
    exact hI j (by omega) (by omega) hxe
  rw [if_neg (by rw [ha];simp)] at h0
  rw [pE h0]
  by_cases h1:s[k].cols.length<1∨s[k].cols.length>16∨s[k].checks.length>16∨s[k].unique.length>16∨s[k].foreign.length>16∨s[k].sums.length>16
  have e1:lk1 s[k]=2:=by unfold lk1;rw [if_pos h1]
  rw [mF (by rw [e1];decide),e1]
  rotate_left
  have e1:lk1 s[k]=0:=by unfold lk1;rw [if_neg h1]
  rw [pE e1]
  have hp2:=hp (by omega)
  rotate_left
  all_goals ((try (apply wO pk;exact rfl));(repeat' (first|(show All _;constructor)|(show Imp _ _;constructor)|(show ImpX _ _ _ _;constructor)|(apply wC pk;(iterate 2 exact rfl))|(apply wE pk;(iterate 2 exact rfl))|(apply wD pk [] [];kernel_rfl;exact rfl;exact rfl)|(refine aA rfl (fun h=> ?_) (fun h=> ?_)<;>(try simp at h)<;>try (exfalso;omega))|(refine aB ?_;refine ⟨_,_,_,rfl,Wk.refl _,StSub.refl _, ?_,rfl⟩;try rfl)|(apply aI;(iterate 3 exact rfl);(intro _;apply hp2<;>first|assumption|omega);rotate_left;(iterate 2 exact rfl))|(apply aM pk;(iterate 6 exact rfl);rotate_left;exact rfl;(intro hw;exact rfl);(intro hw;apply aF<;>omega);(intro _;exact rfl);exact rfl)|(refine ⟨⟨i+1,by omega,hup⟩, ?_,by simp only;omega⟩;((repeat (first|refine Sub.pv ?_ rfl|refine Sub.var ?_ rfl rfl));exact Sub.nil _ _ _ (StSub.refl _) rfl))|(intros;(try simp only [zql]);omega)|((exfalso;grind)))))
theorem qH (s:Sc) (hl:s.length<200000000000000) (hB:∀t∈s,TbB t):PF Tryz.prog 32 [.agg (scC s)] (PV.val (Value.int .i64 (cD s))):=by
  unfold cD
  by_cases h16:s.length<1∨s.length>16
  · rw [if_pos h16]
    refine aH aD Tryz.func32 (by kernel_rfl) rfl rfl rfl rfl (fun st=> ?_)
    (try (apply wO pk;exact rfl));(repeat' (first|(show All _;constructor)|(show Imp _ _;constructor)|(show ImpX _ _ _ _;constructor)|(apply wC pk;(iterate 2 exact rfl))|(refine aA rfl (fun h=> ?_) (fun h=> ?_)<;>(try simp at h)<;>try (exfalso;omega))|(refine aB ?_;refine ⟨_,_,_,rfl,Wk.refl _,StSub.refl _, ?_,rfl⟩;try rfl)))
  rw [if_neg h16]
  refine aH aD Tryz.func32 (by kernel_rfl) rfl rfl rfl rfl (fun st=> ?_)
  focus ((try (apply wO pk;exact rfl));(repeat' (first|(show All _;constructor)|(show Imp _ _;constructor)|(show ImpX _ _ _ _;constructor)|(apply wC pk;(iterate 2 exact rfl))|(refine aA rfl (fun h=> ?_) (fun h=> ?_)<;>(try simp at h)<;>try (exfalso;omega)))))
  refine aJ (X:={x:Nat//x≤s.length∧∀j<x,nZ s j=0}) (fun i=>(((St.nil 28 st).var 1 24 ((scC s))).pv 3 ((PV.val (Value.int .i64 ((i.1:Nat))))))) (fun i=>s.length-i.1) ⟨0,by omega,by omega⟩ ?_ (fun i=> ?_)
  · ((repeat (first|refine Sub.pv ?_ rfl|refine Sub.var ?_ rfl rfl));exact Sub.nil _ _ _ (StSub.refl _) rfl)
  obtain ⟨i,hi,hI⟩:=i
  dsimp only
  by_cases hil:i<s.length
  have hs:=adR s i hl hil (hB _ (List.getElem_mem hil))
  have hF:nZ s i≠0→dB (nZ s) s.length=nZ s i:=fun h=>iU hil h hI
  have hU:=fun h=>up0 hI h
  generalize nZ s i=E at*
  rotate_left
  have e:dB (nZ s) s.length=0:=iV fun j hj=>hI j (by omega)
  rotate_left
  all_goals ((try (apply wO pk;exact rfl));(repeat' (first|(show All _;constructor)|(show Imp _ _;constructor)|(apply wC pk;(iterate 2 exact rfl))|(apply wE pk;(iterate 2 exact rfl))|(refine aA rfl (fun h=> ?_) (fun h=> ?_)<;>(try simp at h)<;>try (exfalso;omega))|(refine aB ?_;refine ⟨_,_,_,rfl,Wk.refl _,StSub.refl _, ?_,rfl⟩;try first|rfl|((first|((rw [hF (by assumption)]);done)|((rw [e]);done));done))|(apply aI;(iterate 3 exact rfl);(intro _;apply hs<;>first|assumption|omega);rotate_left;(iterate 2 exact rfl))|(refine ⟨⟨i+1,by omega,hU (by assumption)⟩, ?_,by simp only;omega⟩;((repeat (first|refine Sub.pv ?_ rfl|refine Sub.var ?_ rfl rfl));exact Sub.nil _ _ _ (StSub.refl _) rfl))|(intros;(try simp only [zql]);omega))))
theorem aiI (c:Cl) (hl:c.parts.length<1000000000000):PF Tryz.prog 111 [.agg c.cells] (PV.val (Value.bool (sF T.rightP c))):=by
  have h1:=aaQ c (by omega)
  have h3:=aaE c (by omega)
  have hv:=iF c.val
  have h2:=qF c
  have h4:=T.rright_spec c hl
  unfold sF
  generalize eD c.val=A at*
  generalize oR c=B at*
  generalize fE c=C at*
  generalize pB c=D at*
  generalize T.rightP c=E at*
  refine aH aD Tryz.func111 (by kernel_rfl) rfl rfl rfl rfl (fun st=> ?_)
  (try (apply wO pk;exact rfl));(repeat' (first|(show All _;constructor)|(show Imp _ _;constructor)|(show ImpX _ _ _ _;constructor)|(apply wC pk;(iterate 2 exact rfl))|(apply wE pk;(iterate 2 exact rfl))|(refine aA rfl (fun h=> ?_) (fun h=> ?_)<;>(try simp at h)<;>try (exfalso;omega))|(refine aB ?_;refine ⟨_,_,_,rfl,Wk.refl _,StSub.refl _, ?_,rfl⟩;try first|rfl|((simp [*];done);done))|(apply aI;(iterate 3 exact rfl);(intro _;(first|apply hv|apply h1|apply h2|apply h3|apply h4)<;>first|assumption|omega);rotate_left;(iterate 2 exact rfl))))
theorem akM {l:List Dt} {k:Nat} (h:k<l.length) (hf:tX l k=false):oG l=false:=by unfold oG;rw [uE h hf]
theorem ajA (l:List Dt) (hl:l.length<1000000000000):PF Tryz.prog 112 [.seq (l.map Dt.cells)] (PV.val (Value.bool (oG l))):=by
  refine aH aD Tryz.func112 (by kernel_rfl) rfl rfl rfl rfl (fun st=> ?_)
  focus ((try (apply wO pk;exact rfl));(repeat' ((show All _;constructor))))
  refine aJ (X:={x:Nat//x≤l.length∧∀j<x,tX l j=true}) (fun y=>(((St.nil 55 st).pv 0 (.seq (l.map Dt.cells))).pv 3 ((PV.val (Value.int .i64 ((y.1:Nat))))))) (fun y=>l.length-y.1) ⟨0,by omega,by omega⟩ ?_ (fun y=> ?_)
  · ((repeat (refine Sub.pv ?_ rfl));exact Sub.nil _ _ _ (StSub.refl _) rfl)
  obtain ⟨y,hy,hyI⟩:=y
  dsimp only
  by_cases hend2:l.length≤y
  have e:oG l=true:=by unfold oG;exact mN fun k hk=>hyI k (by omega)
  rotate_left
  have h1:y<l.length:=by omega
  have e:=Iff.refl (tX l y=true)
  by_cases h0:y=0
  subst h0
  conv at e=>rhs;simp only [tX,eN,getElem!_pos l 0 h1,Bool.and_eq_true,decide_eq_true_eq,decide_true,Bool.true_or,and_true]
  have hF:=tH (akM h1) e
  have hS:=lU hyI e
  have ha:=kR l[0] l[0]
  rotate_left
  obtain ⟨k,rfl⟩:∃k,y=k+1:=⟨y-1,by omega⟩
  have hd:=kR l[k+1] l[k]
  conv at e=>rhs;simp only [tX,eN,getElem!_pos l (k+1) h1,show k+1-1=k from rfl,getElem!_pos l k (by omega),Bool.and_eq_true,decide_eq_true_eq,Bool.or_eq_true,h0,false_or]
  have hF:=tH (akM h1) e
  have hS:=lU hyI e
  rotate_left
  all_goals ((try (apply wO pk;exact rfl));(repeat' (first|(show All _;constructor)|(show Imp _ _;constructor)|(show ImpX _ _ _ _;constructor)|(apply wC pk;(iterate 2 exact rfl))|(apply wE pk;(iterate 2 exact rfl))|(apply wD pk [] [];kernel_rfl;exact rfl;exact rfl)|(refine aA rfl (fun h=> ?_) (fun h=> ?_)<;>(try simp at h)<;>try (exfalso;omega))|(refine aB ?_;refine ⟨_,_,_,rfl,Wk.refl _,StSub.refl _, ?_,rfl⟩;try first|rfl|((first|((rw [e]);done)|((first|(rw [hF (by grind)];done)|(exfalso;grind));done));done))|(apply aI;(iterate 3 exact rfl);(intro _;(first|apply ha|apply hd)<;>first|assumption|omega);rotate_left;(iterate 2 exact rfl))|(apply aM pk;(iterate 6 exact rfl);rotate_left;exact rfl;(first|((intro hw;exact (show _=((0:Nat):Int) from by exact (hJ hw).elim));(intro hw;apply aF<;>omega);(intro _;exact rfl))|((intro hw;exact rfl);(intro hw;apply aF<;>omega);(intro _;exact rfl))|((intro hw;exact (show ((((k+1:Nat):Int))-1=((k:Nat):Int)) from by omega));(intro hw;apply aF<;>omega);(intro _;exact rfl)));exact rfl)|((first|refine ⟨⟨1,by omega,hS (by grind)⟩, ?_,by simp only;omega⟩|refine ⟨⟨k+2,by omega,hS (by grind)⟩, ?_,by simp only;omega⟩);((repeat (refine Sub.pv ?_ rfl));exact Sub.nil _ _ _ (StSub.refl _) rfl))|(intros;(try simp only [zql]);omega))))
theorem apP {tx:Cl→Int} {t:Tb} {l:Ln} (h:0≤l.key∧l.key<1073741824∧l.cells_.length=t.cols.length) (hc:∀k<l.cells_.length,lT tx t l k=true):gT tx t l=(decide (l.cells_[0]!.val=⟨1,l.key,e0⟩)&&oG l.by_):=by
  unfold gT lS
  rw [decide_eq_true h,mN hc];rfl
theorem aiZ (t:Tb) (l:Ln) (ht:0<t.cols.length) (hl:l.cells_.length<1000000000000∧l.by_.length<1000000000000) (hp:∀c∈l.cells_,c.parts.length<1000000000000):PF Tryz.prog 68 [.agg t.cells, .agg l.cells] (PV.val (Value.bool (gT T.rightP t l))):=by
  have hd:=ajA l.by_ hl.2
  by_cases h0:¬(0≤l.key∧l.key<1073741824∧l.cells_.length=t.cols.length)
  · rw [aaZ _ (by unfold lS;rw [decide_eq_false h0];rfl)]
    refine aH aD Tryz.func68 (by kernel_rfl) rfl rfl rfl rfl (fun st=> ?_)
    (try (apply wO pk;exact rfl));(repeat' (first|(show All _;constructor)|(show Imp _ _;constructor)|(show ImpX _ _ _ _;constructor)|(apply wC pk;(iterate 2 exact rfl))|(refine aA rfl (fun h=> ?_) (fun h=> ?_)<;>(try simp at h)<;>try (exfalso;omega))|(refine aB ?_;refine ⟨_,_,_,rfl,Wk.refl _,StSub.refl _, ?_,rfl⟩;try rfl)))
  replace h0:=Decidable.of_not_not h0
  obtain ⟨h1,h2,h3⟩:=h0
  have hkv:(decide (l.cells_[0].val.kind=1)&&(decide (l.cells_[0].val.n=l.key)&&decide (l.cells_[0].val.s=e0)))=decide (l.cells_[0].val=⟨1,l.key,e0⟩):=by rw [Bool.eq_iff_iff];simp [Vl.ext_iff]
  refine aH aD Tryz.func68 (by kernel_rfl) rfl rfl rfl rfl (fun st=> ?_)
  focus ((try (apply wO pk;exact rfl));(repeat' (first|(show All _;constructor)|(show Imp _ _;constructor)|(show ImpX _ _ _ _;constructor)|(apply wC pk;(iterate 2 exact rfl))|(refine aA rfl (fun h=> ?_) (fun h=> ?_)<;>(try simp at h)<;>try (exfalso;omega)))))
  refine aJ (X:={x:Nat//x≤l.cells_.length∧∀j<x,lT T.rightP t l j=true}) (fun i=>((((St.nil 66 st).var 2 43 (t.cells)).var 3 53 (l.cells)).pv 5 ((PV.val (Value.int .i64 ((i.1:Nat))))))) (fun i=>l.cells_.length-i.1) ⟨0,by omega,by omega⟩ ?_ (fun i=> ?_)
  · ((repeat (first|refine Sub.pv ?_ rfl|refine Sub.var ?_ rfl rfl));exact Sub.nil _ _ _ (StSub.refl _) rfl)
  obtain ⟨i,hi,hI⟩:=i
  dsimp only
  by_cases hend:l.cells_.length≤i
  have e:=apP (tx:=T.rightP) ⟨h1,h2,h3⟩ fun k hk=>hI k (by omega)
  rw [getElem!_pos l.cells_ 0 (by omega),←hkv] at e
  rotate_left
  have hil:i<l.cells_.length:=by omega
  have hc:=aiI l.cells_[i] (hp _ (List.getElem_mem hil))
  have e:=Iff.refl (lT T.rightP t l i=true)
  conv at e=>rhs;simp only [lT,getElem!_pos l.cells_ i hil,getElem!_pos t.cols i (show i<t.cols.length by omega),Bool.and_eq_true,decide_eq_true_eq]
  have hF:=tH (akX T.rightP (t:=t) hil) e
  have hS:=lU hI e
  rotate_left
  all_goals ((try (apply wO pk;exact rfl));(repeat' (first|(show All _;constructor)|(show Imp _ _;constructor)|(show ImpX _ _ _ _;constructor)|(apply wC pk;(iterate 2 exact rfl))|(apply wE pk;(iterate 2 exact rfl))|(apply wD pk [] [];kernel_rfl;exact rfl;exact rfl)|(refine aA rfl (fun h=> ?_) (fun h=> ?_)<;>(try simp at h)<;>try (exfalso;omega))|(refine aB ?_;refine ⟨_,_,_,rfl,Wk.refl _,StSub.refl _, ?_,rfl⟩;try first|rfl|((first|((rw [e]);done)|((rw [hF (by grind)]);done));done))|(apply aI;(iterate 3 exact rfl);(intro _;(first|apply hd|apply hc)<;>first|assumption|omega);rotate_left;(iterate 2 exact rfl))|(apply aM pk;(iterate 6 exact rfl);rotate_left;exact rfl;(intro hw;exact rfl);(intro hw;apply aF<;>omega);(intro _;exact rfl);exact rfl)|(refine ⟨⟨i+1,by omega,hS (by grind)⟩, ?_,by simp only;omega⟩;((repeat (first|refine Sub.pv ?_ rfl|refine Sub.var ?_ rfl rfl));exact Sub.nil _ _ _ (StSub.refl _) rfl))|(intros;(try simp only [zql]);omega))))
def axN (d:Da):Prop:=d.lines.length<1000000000000∧∀l∈d.lines,(l.cells_.length<1000000000000∧l.by_.length<1000000000000)∧∀c∈l.cells_,c.parts.length<1000000000000
theorem adC (s:Sc) (b:Bs) (hl:s.length<1000000000000) (hB:∀t∈s,TbB t) (hb:b.length<1000000000000) (hd:∀d∈b,axN d):PF Tryz.prog 40 [.agg (scC s), .agg (bsC b)] (PV.val (Value.bool (eG T.rightP s b))):=by
  have hs:=qH s (by omega) hB
  by_cases h0:¬(cD s=0∧b.length=s.length)
  · rw [alA _ h0]
    generalize cD s=R at*
    refine aH aD Tryz.func40 (by kernel_rfl) rfl rfl rfl rfl (fun st=> ?_)
    (try (apply wO pk;exact rfl));(repeat' (first|(show All _;constructor)|(show Imp _ _;constructor)|(show ImpX _ _ _ _;constructor)|(apply wC pk;(iterate 2 exact rfl))|(apply wE pk;(iterate 2 exact rfl))|(refine aA rfl (fun h=> ?_) (fun h=> ?_)<;>(try simp at h)<;>try (exfalso;omega))|(refine aB ?_;refine ⟨_,_,_,rfl,Wk.refl _,StSub.refl _, ?_,rfl⟩;try first|rfl|((exfalso;omega);done))|(apply aI;(iterate 3 exact rfl);(intro _;apply hs<;>first|assumption|omega);rotate_left;(iterate 2 exact rfl))))
  replace h0:=Decidable.of_not_not h0
  obtain ⟨h1,h2⟩:=h0
  rw [h1] at hs
  refine aH aD Tryz.func40 (by kernel_rfl) rfl rfl rfl rfl (fun st=> ?_)
  focus ((try (apply wO pk;exact rfl));(repeat' (first|(show All _;constructor)|(show Imp _ _;constructor)|(show ImpX _ _ _ _;constructor)|(apply wC pk;(iterate 2 exact rfl))|(apply wE pk;(iterate 2 exact rfl))|(refine aA rfl (fun h=> ?_) (fun h=> ?_)<;>(try simp at h)<;>try (exfalso;omega))|(apply aI;(iterate 3 exact rfl);(intro _;apply hs<;>first|assumption|omega);rotate_left;(iterate 2 exact rfl)))))
  refine aJ (X:={x:Nat//x≤b.length∧∀j<x,qD T.rightP s b j=true}) (fun i=>((((St.nil 71 st).var 2 24 ((scC s))).var 3 27 ((bsC b))).pv 5 ((PV.val (Value.int .i64 ((i.1:Nat))))))) (fun i=>b.length-i.1) ⟨0,by omega,by omega⟩ ?_ (fun i=> ?_)
  · ((repeat (first|refine Sub.pv ?_ rfl|refine Sub.var ?_ rfl rfl));exact Sub.nil _ _ _ (StSub.refl _) rfl)
  obtain ⟨i,hi,hI⟩:=i
  dsimp only
  by_cases hend:b.length≤i
  have e:=acX T.rightP ⟨h1,h2⟩ fun k hk=>hI k (by omega)
  rotate_left
  have hib:i<b.length:=by omega
  have his:i<s.length:=by omega
  have hcl:=tL h1 his
  obtain ⟨d1,d2⟩:=hd _ (List.getElem_mem hib)
  have e:=Iff.refl (qD T.rightP s b i=true)
  conv at e=>rhs;simp only [qD,yI,getElem!_pos s i his,getElem!_pos b i hib,Bool.and_eq_true,decide_eq_true_eq,mQ]
  have hF:=tH (akN T.rightP (s:=s) hib) e
  have hS:=lU hI e
  by_cases h2k:¬b[i].lines.length≤2000
  have hF0:=hF fun q=>h2k q.1
  rotate_left
  all_goals ((try (apply wO pk;exact rfl));(repeat' (first|(show All _;constructor)|(show Imp _ _;constructor)|(apply wC pk;(iterate 2 exact rfl))|(apply wE pk;(iterate 2 exact rfl))|(refine aA rfl (fun h=> ?_) (fun h=> ?_)<;>(try simp at h)<;>try (exfalso;omega))|(refine aB ?_;refine ⟨_,_,_,rfl,Wk.refl _,StSub.refl _, ?_,rfl⟩;try first|rfl|((first|((rw [e]);done)|((rw [hF0]);done));done))|(apply aM pk;(iterate 6 exact rfl);rotate_left;exact rfl;(intro hw;exact rfl);(intro hw;apply aF<;>omega);(intro _;exact rfl);exact rfl))))
  focus ((try (apply wO pk;exact rfl));(repeat' ((show All _;constructor))))
  refine aJ (X:={x:Nat//x≤b[i].lines.length∧∀j<x,lnR T.rightP s[i] b[i].lines j=true}) (fun y=>((((((St.nil 71 st).var 2 24 ((scC s))).var 3 27 ((bsC b))).pv 5 ((PV.val (Value.int .i64 ((i:Nat)))))).pv 6 (.seq (b[i].lines.map Ln.cells))).pv 7 ((PV.val (Value.int .i64 ((y.1:Nat))))))) (fun y=>b[i].lines.length-y.1) ⟨0,by omega,by omega⟩ ?_ (fun y=> ?_)
  · ((repeat (first|refine Sub.pv ?_ rfl|refine Sub.var ?_ rfl rfl));exact Sub.nil _ _ _ (StSub.refl _) rfl)
  obtain ⟨y,hy,hyI⟩:=y
  dsimp only
  by_cases hend2:b[i].lines.length≤y
  rotate_left
  have hyl:y<b[i].lines.length:=by omega
  obtain ⟨l1,l2⟩:=d2 _ (List.getElem_mem hyl)
  have hls:=aiZ s[i] b[i].lines[y] hcl l1 l2
  have e:=Iff.refl (lnR T.rightP s[i] b[i].lines y=true)
  have hF2:=fun h:¬lnR T.rightP s[i] b[i].lines y=true=>hF fun q=>h (q.2 y hyl)
  by_cases h0:y=0
  subst h0
  conv at e=>rhs;simp only [lnR,getElem!_pos b[i].lines 0 hyl,decide_true,Bool.true_or,Bool.and_true]
  have hS2:=lU hyI e
  rw [e] at hF2
  rotate_left
  obtain ⟨k,rfl⟩:∃k,y=k+1:=⟨y-1,by omega⟩
  conv at e=>rhs;simp only [lnR,getElem!_pos b[i].lines (k+1) hyl,show k+1-1=k from rfl,getElem!_pos b[i].lines k (by omega),Bool.and_eq_true,decide_eq_true_eq,Bool.or_eq_true,h0,false_or]
  have hS2:=lU hyI e
  rw [e] at hF2
  rotate_left
  all_goals ((try (apply wO pk;exact rfl));(repeat' (first|(show All _;constructor)|(show Imp _ _;constructor)|(show ImpX _ _ _ _;constructor)|(apply wC pk;(iterate 2 exact rfl))|(apply wE pk;(iterate 2 exact rfl))|(apply wD pk [] [];kernel_rfl;exact rfl;exact rfl)|(refine aA rfl (fun h=> ?_) (fun h=> ?_)<;>(try simp at h)<;>try (exfalso;omega))|(refine aB ?_;refine ⟨_,_,_,rfl,Wk.refl _,StSub.refl _, ?_,rfl⟩;try first|rfl|((rw [hF2 (by grind)]);done))|(apply aI;(iterate 3 exact rfl);(intro _;apply hls<;>first|assumption|omega);rotate_left;(iterate 2 exact rfl))|(apply aM pk;(iterate 6 exact rfl);rotate_left;exact rfl;(first|((intro hw;exact rfl);(intro hw;apply aF<;>omega);(intro _;exact rfl))|((intro hw;exact (show _=((0:Nat):Int) from by exact (hJ hw).elim));(intro hw;apply aF<;>omega);(intro _;exact rfl))|((intro hw;exact (show ((((k+1:Nat):Int))-1=((k:Nat):Int)) from by omega));(intro hw;apply aF<;>omega);(intro _;exact rfl)));exact rfl)|(exact absurd (by assumption:b[i].lines=[]) (List.ne_nil_of_length_pos hyl))|((first|refine ⟨⟨i+1,by omega,hS ⟨by omega,fun k hk=>hyI k (by omega)⟩⟩, ?_,by simp only;omega⟩|refine ⟨⟨1,by omega,hS2 (by grind)⟩, ?_,by simp only;omega⟩|refine ⟨⟨k+2,by omega,hS2 (by grind)⟩, ?_,by simp only;omega⟩);((repeat (first|refine Sub.pv ?_ rfl|refine Sub.var ?_ rfl rfl));exact Sub.nil _ _ _ (StSub.refl _) rfl))|(intros;(try simp only [zql]);omega))))
end Go.Proofs.YtcglimangneafaaGreatDoor
