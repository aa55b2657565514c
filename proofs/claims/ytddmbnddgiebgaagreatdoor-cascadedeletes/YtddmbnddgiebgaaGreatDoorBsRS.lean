import Derived.Test.YtddmbnddgiebgaaGreatDoorBsSch
import Derived.Test.YtddmbnddgiebgaaGreatDoorBsCell
set_option linter.unusedSimpArgs false
set_option linter.unusedVariables false
namespace Go.Proofs.YtddmbnddgiebgaaGreatDoor
open Go Go.Abs
attribute [local irreducible] Ev PWp
set_option maxRecDepth 10000
set_option maxHeartbeats 4000000
theorem ajY (t:Tb) (k:Nat) (hl:t.cols.length<200000000000000) (hk:k<t.cols.length):PF Tryz.prog 179 [.agg t.cells,(PV.val (Value.int .i64 ((k:Nat))))] (PV.val (Value.int .i64 (pC t k))):=by
  have hn:=uD t.cols[k].name
  have e:pC t k=abT (t.cols.take k) t.cols[k]:=by unfold pC;rw [getElem!_pos t.cols k hk]
  rw [e]
  unfold abT
  generalize kP t.cols[k].name=N at*
  refine aL aH Tryz.func179 (by kernel_rfl) rfl rfl rfl rfl (fun st=> ?_)
  focus ((try (apply wO pk;exact rfl));(repeat' (first|(show All _;constructor)|(show Imp _ _;constructor)|(show ImpX _ _ _ _;constructor)|(apply wC pk;(iterate 2 exact rfl))|(apply wE pk;(iterate 2 exact rfl))|(apply wX pk;exact rfl)|(apply wN pk;exact rfl)|(apply wD pk [] [];kernel_rfl;exact rfl;exact rfl)|(apply aB;simp only [zqt,zqf])|(refine aD rfl (fun h=> ?_) (fun h=> ?_)<;>(try simp at h)<;>try (exfalso;omega))|(refine aF ?_;refine ⟨_,_,_,rfl,Wk.refl _,StSub.refl _, ?_,rfl⟩;try first|rfl|((rw [if_pos (by grind)]);done))|(apply aN;(iterate 3 exact rfl);(intro _;apply hn<;>first|assumption|omega);rotate_left;(iterate 2 exact rfl))|(apply aW pk;(iterate 6 exact rfl);rotate_left;exact rfl;(intro hw;exact rfl);(intro hw;apply aI<;>omega);(intro _;exact rfl);exact rfl)|(intros;(try simp only [zql]);omega))))
  refine aO (X:={x:Nat//x≤k∧∀j (h:j<t.cols.length),j<x→t.cols[j].name≠t.cols[k].name}) (fun i=>(((((St.nil 78 st).pv 1 ((PV.val (Value.int .i64 ((k:Nat)))))).var 2 52 (t.cells)).var 5 66 (t.cols[k].cells)).pv 6 ((PV.val (Value.int .i64 ((i.1:Nat))))))) (fun i=>k-i.1) ⟨0,by omega,by omega⟩ ?_ (fun i=> ?_)
  · ((repeat (first|refine Sub.pv ?_ rfl|refine Sub.var ?_ rfl rfl));exact Sub.nil _ _ _ (StSub.refl _) rfl)
  obtain ⟨i,hi,hI⟩:=i
  dsimp only
  by_cases hend:k≤i
  have ha:((t.cols.take k).any fun x=>decide (x.name=t.cols[k].name))=false:=by
    rw [←Bool.not_eq_true,List.any_eq_true]
    rintro ⟨x,hx,hxe⟩
    obtain ⟨j,hj,rfl⟩:=List.getElem_of_mem hx
    rw [List.length_take] at hj
    rw [List.getElem_take,decide_eq_true_eq] at hxe
    exact hI j (by omega) (by omega) hxe
  rw [ha]
  rotate_left
  have hil:i<t.cols.length:=by omega
  by_cases hq:t.cols[i].name=t.cols[k].name
  have ha:((t.cols.take k).any fun x=>decide (x.name=t.cols[k].name))=true:=List.any_eq_true.2 ⟨t.cols[i],List.mem_iff_getElem.2 ⟨i,by rw [List.length_take];omega,by rw [List.getElem_take]⟩,by rw [decide_eq_true_eq];exact hq⟩
  rw [ha]
  rotate_left
  have hup:∀j (h:j<t.cols.length),j<i+1→t.cols[j].name≠t.cols[k].name:=fun j hj hji=>by
    rcases Nat.lt_succ_iff_lt_or_eq.1 hji with w|w
    · exact hI j hj w
    · subst w;exact hq
  rotate_left
  all_goals ((try (apply wO pk;exact rfl));(repeat' (first|(show All _;constructor)|(show Imp _ _;constructor)|(show ImpX _ _ _ _;constructor)|(apply wC pk;(iterate 2 exact rfl))|(apply wE pk;(iterate 2 exact rfl))|(apply wX pk;exact rfl)|(apply wN pk;exact rfl)|(apply wD pk [] [];kernel_rfl;exact rfl;exact rfl)|(apply aB;simp only [zqt,zqf])|(refine aD rfl (fun h=> ?_) (fun h=> ?_)<;>(try simp at h)<;>try (exfalso;omega))|(refine aF ?_;refine ⟨_,_,_,rfl,Wk.refl _,StSub.refl _, ?_,rfl⟩;try first|rfl|((congr 2;grind);done))|(apply aW pk;(iterate 6 exact rfl);rotate_left;exact rfl;(intro hw;exact rfl);(intro hw;apply aI<;>omega);(intro _;exact rfl);exact rfl)|(refine ⟨⟨i+1,by omega,hup⟩, ?_,by simp only;omega⟩;((repeat (first|refine Sub.pv ?_ rfl|refine Sub.var ?_ rfl rfl));exact Sub.nil _ _ _ (StSub.refl _) rfl))|(intros;(try simp only [zql]);omega)|((exfalso;grind)))))
theorem mT (t:Tb) (i:Int):PF Tryz.prog 203 [.agg t.cells,(PV.val (Value.int .i64 (i)))] (.tup [(PV.val (Value.bool (fD t i))),(PV.val (Value.bool (fD t i&&fA (eM t i))))]):=by
  cases hh:fD t i with
  |false=>
    unfold fD at hh
    simp only [Bool.and_eq_false_iff,decide_eq_false_iff_not] at hh
    refine aL aH Tryz.func203 (by kernel_rfl) rfl rfl rfl rfl (fun st=> ?_)
    (try (apply wO pk;exact rfl));(repeat' (first|(show All _;constructor)|(show Imp _ _;constructor)|(show ImpX _ _ _ _;constructor)|(apply wC pk;(iterate 2 exact rfl))|(apply wE pk;(iterate 2 exact rfl))|(apply wX pk;exact rfl)|(apply wN pk;exact rfl)|(apply wD pk [] [];kernel_rfl;exact rfl;exact rfl)|(apply aB;simp only [zqt,zqf])|(refine aD rfl (fun h=> ?_) (fun h=> ?_)<;>(try simp at h)<;>try (exfalso;omega))|(refine aF ?_;refine ⟨_,_,_,rfl,Wk.refl _,StSub.refl _, ?_,rfl⟩;try rfl)|(intros;(try simp only [zql]);omega)|((exfalso;omega))))
  |true=>
    obtain ⟨j,rfl,hj,e⟩:=mL hh
    rw [e]
    have hj1:1≤j:=by unfold fD at hh;simp at hh;omega
    refine aL aH Tryz.func203 (by kernel_rfl) rfl rfl rfl rfl (fun st=> ?_)
    (try (apply wO pk;exact rfl));(repeat' (first|(show All _;constructor)|(show Imp _ _;constructor)|(show ImpX _ _ _ _;constructor)|(apply wC pk;(iterate 2 exact rfl))|(apply wE pk;(iterate 2 exact rfl))|(apply wX pk;exact rfl)|(apply wN pk;exact rfl)|(apply wD pk [] [];kernel_rfl;exact rfl;exact rfl)|(apply aB;simp only [zqt,zqf])|(refine aD rfl (fun h=> ?_) (fun h=> ?_)<;>(try simp at h)<;>try (exfalso;omega))|(refine aF ?_;refine ⟨_,_,_,rfl,Wk.refl _,StSub.refl _, ?_,rfl⟩;try first|rfl|((unfold fA;simp;done);done))|(apply aW pk;(iterate 6 exact rfl);rotate_left;exact rfl;(intro hw;exact rfl);(intro hw;apply aI<;>omega);(intro _;exact rfl);exact rfl)|(intros;(try simp only [zql]);omega)|((exfalso;omega))))
theorem aiR (t:Tb) (k:Nat) (hl:t.cols.length<200000000000000) (hu:t.unique.length<200000000000000) (hk:k<t.unique.length):PF Tryz.prog 180 [.agg t.cells,(PV.val (Value.int .i64 ((k:Nat))))] (PV.val (Value.int .i64 (oN t k))):=by
  have hh:=mT t t.unique[k]
  have e:oN t k=abP (fD t t.unique[k]) (decide (0<k)&&decide (t.unique[k]≤t.unique[k-1]'(by omega))) (fA (eM t t.unique[k])):=by
    unfold oN;rw [getElem!_pos t.unique k hk,getElem!_pos t.unique (k-1) (by omega)]
  rw [e]
  unfold abP
  generalize fD t t.unique[k]=H at*
  generalize fA (eM t t.unique[k])=N at*
  rcases Nat.eq_zero_or_pos k with rfl|hk0
  refine aL aH Tryz.func180 (by kernel_rfl) rfl rfl rfl rfl (fun st=> ?_)
  rotate_left
  refine aL aH Tryz.func180 (by kernel_rfl) rfl rfl rfl rfl (fun st=> ?_)
  rotate_left
  all_goals ((try (apply wO pk;exact rfl));(repeat' (first|(show All _;constructor)|(show Imp _ _;constructor)|(show ImpX _ _ _ _;constructor)|(apply wC pk;(iterate 2 exact rfl))|(apply wE pk;(iterate 2 exact rfl))|(apply wX pk;exact rfl)|(apply wN pk;exact rfl)|(apply wD pk [] [];kernel_rfl;exact rfl;exact rfl)|(apply aB;simp only [zqt,zqf])|(refine aD rfl (fun h=> ?_) (fun h=> ?_)<;>(try simp at h)<;>try (exfalso;omega))|(refine aF ?_;refine ⟨_,_,_,rfl,Wk.refl _,StSub.refl _, ?_,rfl⟩;try first|rfl|((congr 2;grind);done))|(apply aN;(iterate 3 exact rfl);(intro _;apply hh<;>first|assumption|omega);rotate_left;(iterate 2 exact rfl))|(apply aW pk;(iterate 6 exact rfl);rotate_left;exact rfl;(first|((intro hw;exact (show _=((0:Nat):Int) from by exact (fZ hw).elim));(intro hw;apply aI<;>omega);(intro _;exact rfl))|((intro hw;exact rfl);(intro hw;apply aI<;>omega);(intro _;exact rfl))|((intro hw;exact (show _=(((k-1:Nat)):Int) from by omega));(intro hw;apply aI<;>omega);(intro _;exact rfl)));exact rfl)|(intros;(try simp only [zql]);omega))))
theorem ajI (s:Sc) (t:Tb) (k:Nat) (hu:t.foreign.length<200000000000000) (hk:k<t.foreign.length):PF Tryz.prog 181 [.agg (scC s), .agg t.cells,(PV.val (Value.int .i64 ((k:Nat))))] (PV.val (Value.int .i64 (nZ s.length t k))):=by
  have hh:=mT t t.foreign[k].col
  have e:nZ s.length t k=uH (fD t t.foreign[k].col) (decide (t.foreign[k].table<0)||decide (t.foreign[k].table≥s.length)) (decide (0<k)&&decide (t.foreign[k].col≤(t.foreign[k-1]'(by omega)).col)) (decide (t.foreign[k].act<0)||decide (t.foreign[k].act>2)) (fA (eM t t.foreign[k].col)) (decide (t.foreign[k].act=2)&& !(eM t t.foreign[k].col).null):=by
    unfold nZ;rw [getElem!_pos t.foreign k hk,getElem!_pos t.foreign (k-1) (by omega)]
  rw [e]
  unfold uH
  cases hc:fD t t.foreign[k].col with
  |false=>
    rw [hc] at hh
    refine aL aH Tryz.func181 (by kernel_rfl) rfl rfl rfl rfl (fun st=> ?_)
    (try (apply wO pk;exact rfl));(repeat' (first|(show All _;constructor)|(show Imp _ _;constructor)|(show ImpX _ _ _ _;constructor)|(apply wC pk;(iterate 2 exact rfl))|(apply wE pk;(iterate 2 exact rfl))|(apply wX pk;exact rfl)|(apply wN pk;exact rfl)|(apply wD pk [] [];kernel_rfl;exact rfl;exact rfl)|(apply aB;simp only [zqt,zqf])|(refine aD rfl (fun h=> ?_) (fun h=> ?_)<;>(try simp at h)<;>try (exfalso;omega))|(refine aF ?_;refine ⟨_,_,_,rfl,Wk.refl _,StSub.refl _, ?_,rfl⟩;try first|rfl|((rw [if_pos (by grind)]);done))|(apply aN;(iterate 3 exact rfl);(intro _;apply hh<;>first|assumption|omega);rotate_left;(iterate 2 exact rfl))|(apply aW pk;(iterate 6 exact rfl);rotate_left;exact rfl;(intro hw;exact rfl);(intro hw;apply aI<;>omega);(intro _;exact rfl);exact rfl)|(intros;(try simp only [zql]);omega)|((exfalso;grind))))
  |true=>
  obtain ⟨j,hj1,hj,ec⟩:=mL hc
  rw [hc,ec] at hh
  rw [ec]
  generalize fA t.cols[j]=N at*
  rcases Nat.eq_zero_or_pos k with rfl|hk0
  refine aL aH Tryz.func181 (by kernel_rfl) rfl rfl rfl rfl (fun st=> ?_)
  rotate_left
  refine aL aH Tryz.func181 (by kernel_rfl) rfl rfl rfl rfl (fun st=> ?_)
  rotate_left
  all_goals ((try (apply wO pk;exact rfl));(repeat' (first|(show All _;constructor)|(show Imp _ _;constructor)|(show ImpX _ _ _ _;constructor)|(apply wC pk;(iterate 2 exact rfl))|(apply wE pk;(iterate 2 exact rfl))|(apply wX pk;exact rfl)|(apply wN pk;exact rfl)|(apply wD pk [] [];kernel_rfl;exact rfl;exact rfl)|(apply aB;simp only [zqt,zqf])|(refine aD rfl (fun h=> ?_) (fun h=> ?_)<;>(try simp at h)<;>try (exfalso;omega))|(refine aF ?_;refine ⟨_,_,_,rfl,Wk.refl _,StSub.refl _, ?_,rfl⟩;try first|rfl|((congr 2;grind);done))|(apply aN;(iterate 3 exact rfl);(intro _;apply hh<;>first|assumption|omega);rotate_left;(iterate 2 exact rfl))|(apply aW pk;(iterate 6 exact rfl);rotate_left;exact rfl;(first|((intro hw;exact (show _=((0:Nat):Int) from by exact (fZ hw).elim));(intro hw;apply aI<;>omega);(intro _;exact rfl))|((intro hw;exact rfl);(intro hw;apply aI<;>omega);(intro _;exact rfl))|((intro hw;exact (show _=((j:Nat):Int) from by omega));(intro hw;apply aI<;>omega);(intro _;exact rfl))|((intro hw;exact (show _=(((k-1:Nat)):Int) from by omega));(intro hw;apply aI<;>omega);(intro _;exact rfl)));exact rfl)|(intros;(try simp only [zql]);omega))))
theorem ahF (t:Tb) (k:Nat) (hu:t.sums.length<200000000000000) (hk:k<t.sums.length):PF Tryz.prog 182 [.agg t.cells,(PV.val (Value.int .i64 ((k:Nat))))] (PV.val (Value.int .i64 (oX t k))):=by
  have h1:=mT t t.sums[k].col
  have h2:=mT t t.sums[k].by_
  have e:oX t k=acH (fD t t.sums[k].col&&fD t t.sums[k].by_) ((decide (t.sums[k].col=t.sums[k].by_)||decide (t.sums[k].max<0))||decide (t.sums[k].max>1099511627776)) (fA (eM t t.sums[k].col)&&fA (eM t t.sums[k].by_)) ((t.sums.take k).any fun y=>decide (y.col=t.sums[k].col)&&decide (y.by_=t.sums[k].by_)):=by
    unfold oX;rw [getElem!_pos t.sums k hk]
  rw [e]
  unfold acH
  generalize fD t t.sums[k].col=H at*
  generalize fD t t.sums[k].by_=I at*
  generalize fA (eM t t.sums[k].col)=N at*
  generalize fA (eM t t.sums[k].by_)=M at*
  refine aL aH Tryz.func182 (by kernel_rfl) rfl rfl rfl rfl (fun st=> ?_)
  focus ((try (apply wO pk;exact rfl));(repeat' (first|(show All _;constructor)|(show Imp _ _;constructor)|(show ImpX _ _ _ _;constructor)|(apply wC pk;(iterate 2 exact rfl))|(apply wE pk;(iterate 2 exact rfl))|(apply wX pk;exact rfl)|(apply wN pk;exact rfl)|(apply wD pk [] [];kernel_rfl;exact rfl;exact rfl)|(apply aB;simp only [zqt,zqf])|(refine aD rfl (fun h=> ?_) (fun h=> ?_)<;>(try simp at h)<;>try (exfalso;omega))|(refine aF ?_;refine ⟨_,_,_,rfl,Wk.refl _,StSub.refl _, ?_,rfl⟩;try first|rfl|((congr 2;grind);done))|(apply aN;(iterate 3 exact rfl);(intro _;(first|apply h1|apply h2)<;>first|assumption|omega);rotate_left;(iterate 2 exact rfl))|(apply aW pk;(iterate 6 exact rfl);rotate_left;exact rfl;(intro hw;exact rfl);(intro hw;apply aI<;>omega);(intro _;exact rfl);exact rfl)|(intros;(try simp only [zql]);omega))))
  refine aO (X:={x:Nat//x≤k∧∀j (h:j<t.sums.length),j<x→¬(t.sums[j].col=t.sums[k].col∧t.sums[j].by_=t.sums[k].by_)}) (fun i=>(((((St.nil 82 st).pv 1 ((PV.val (Value.int .i64 ((k:Nat)))))).var 2 52 (t.cells)).var 5 164 (t.sums[k].cells)).pv 10 ((PV.val (Value.int .i64 ((i.1:Nat))))))) (fun i=>k-i.1) ⟨0,by omega,by omega⟩ ?_ (fun i=> ?_)
  · ((repeat (first|refine Sub.pv ?_ rfl|refine Sub.var ?_ rfl rfl));exact Sub.nil _ _ _ (StSub.refl _) rfl)
  obtain ⟨i,hi,hI⟩:=i
  dsimp only
  by_cases hend:k≤i
  have ha:((t.sums.take k).any fun y=>decide (y.col=t.sums[k].col)&&decide (y.by_=t.sums[k].by_))=false:=by
    rw [←Bool.not_eq_true,List.any_eq_true]
    rintro ⟨x,hx,hxe⟩
    obtain ⟨j,hj,rfl⟩:=List.getElem_of_mem hx
    rw [List.length_take] at hj
    rw [List.getElem_take,Bool.and_eq_true,decide_eq_true_eq,decide_eq_true_eq] at hxe
    exact hI j (by omega) (by omega) hxe
  rw [ha]
  rotate_left
  have hil:i<t.sums.length:=by omega
  by_cases hq:t.sums[i].col=t.sums[k].col∧t.sums[i].by_=t.sums[k].by_
  have ha:((t.sums.take k).any fun y=>decide (y.col=t.sums[k].col)&&decide (y.by_=t.sums[k].by_))=true:=List.any_eq_true.2 ⟨t.sums[i],List.mem_iff_getElem.2 ⟨i,by rw [List.length_take];omega,by rw [List.getElem_take]⟩,by rw [Bool.and_eq_true,decide_eq_true_eq,decide_eq_true_eq];exact hq⟩
  rw [ha]
  rotate_left
  have hup:∀j (h:j<t.sums.length),j<i+1→¬(t.sums[j].col=t.sums[k].col∧t.sums[j].by_=t.sums[k].by_):=fun j hj hji=>by
    rcases Nat.lt_succ_iff_lt_or_eq.1 hji with w|w
    · exact hI j hj w
    · subst w;exact hq
  rotate_left
  all_goals ((try (apply wO pk;exact rfl));(repeat' (first|(show All _;constructor)|(show Imp _ _;constructor)|(show ImpX _ _ _ _;constructor)|(apply wC pk;(iterate 2 exact rfl))|(apply wE pk;(iterate 2 exact rfl))|(apply wX pk;exact rfl)|(apply wN pk;exact rfl)|(apply wD pk [] [];kernel_rfl;exact rfl;exact rfl)|(apply aB;simp only [zqt,zqf])|(refine aD rfl (fun h=> ?_) (fun h=> ?_)<;>(try simp at h)<;>try (exfalso;omega))|(refine aF ?_;refine ⟨_,_,_,rfl,Wk.refl _,StSub.refl _, ?_,rfl⟩;try first|rfl|((congr 2;grind);done))|(apply aW pk;(iterate 6 exact rfl);rotate_left;exact rfl;(intro hw;exact rfl);(intro hw;apply aI<;>omega);(intro _;exact rfl);exact rfl)|(refine ⟨⟨i+1,by omega,hup⟩, ?_,by simp only;omega⟩;((repeat (first|refine Sub.pv ?_ rfl|refine Sub.var ?_ rfl rfl));exact Sub.nil _ _ _ (StSub.refl _) rfl))|(intros;(try simp only [zql]);omega)|((exfalso;grind)))))
theorem lE {a:Int} {l:List Int} (h:a≠0):orI (a::l)=a:=by rw [orI,if_neg h]
theorem oC {a:Int} {l:List Int} (h:a=0):orI (a::l)=orI l:=by rw [orI,if_pos h]
theorem up0 {f:Nat→Int} {i:Nat} (hI:∀j<i,f j=0) (h:f i=0):∀j<i+1,f j=0:=fun j hj=>by
  rcases Nat.lt_succ_iff_lt_or_eq.1 hj with q|q
  · exact hI j q
  · subst q;exact h
def akW (m:Nat) (t:Tb):Int:=orI [lk2 t,lk3 t,lk4 t,lk5 m t,lk6 t]
theorem acL (s:Sc) (t:Tb) (hB:TbB t) (hc:0<t.cols.length):PF Tryz.prog 142 [.agg (scC s), .agg t.cells] (PV.val (Value.int .i64 (akW s.length t))):=by
  have b1:=hB.c
  have b2:=hB.u
  have b3:=hB.f
  have b4:=hB.s
  unfold akW
  refine aL aH Tryz.func142 (by kernel_rfl) rfl rfl rfl rfl (fun st=> ?_)
  focus ((try (apply wO pk;exact rfl));(repeat' (first|(show All _;constructor)|(show Imp _ _;constructor)|(show ImpX _ _ _ _;constructor)|(apply wC pk;(iterate 2 exact rfl))|(apply wE pk;(iterate 2 exact rfl))|(apply wX pk;exact rfl)|(apply wN pk;exact rfl)|(apply wD pk [] [];kernel_rfl;exact rfl;exact rfl)|(apply aB;simp only [zqt,zqf])|(refine aD rfl (fun h=> ?_) (fun h=> ?_)<;>(try simp at h)<;>try (exfalso;omega))|(refine aF ?_;refine ⟨_,_,_,rfl,Wk.refl _,StSub.refl _, ?_,rfl⟩;try rfl)|(intros;(try simp only [zql]);omega))))
  refine aO (X:={x:Nat//x≤t.cols.length∧∀j<x,pC t j=0}) (fun i=>((((St.nil 87 st).var 2 24 ((scC s))).var 3 52 (t.cells)).pv 5 ((PV.val (Value.int .i64 ((i.1:Nat))))))) (fun i=>t.cols.length-i.1) ⟨0,by omega,by omega⟩ ?_ (fun i=> ?_)
  · ((repeat (first|refine Sub.pv ?_ rfl|refine Sub.var ?_ rfl rfl));exact Sub.nil _ _ _ (StSub.refl _) rfl)
  obtain ⟨i,hi,hI⟩:=i
  dsimp only
  by_cases hil:i<t.cols.length
  have hs:=ajY t i b1 hil
  have hF:pC t i≠0→orI [lk2 t,lk3 t,lk4 t,lk5 s.length t,lk6 t]=pC t i:=fun h=>by
    have e:lk2 t=pC t i:=gV hil h hI
    rw [lE (by rw [e];exact h),e]
  have hU:=fun h=>up0 hI h
  generalize pC t i=E at*
  rotate_left
  have z2:lk2 t=0:=gW fun j hj=>hI j (by omega)
  rw [oC z2]
  have h3:lk3 t=if fA t.cols[0]=false∨t.cols[0].null=true then 6 else 0:=by unfold lk3;rw [getElem!_pos t.cols 0 hc]
  by_cases hk:fA t.cols[0]=false∨t.cols[0].null=true
  rw [if_pos hk] at h3
  rw [lE (by rw [h3];decide),h3]
  unfold fA at hk
  simp only [Bool.and_eq_false_iff,decide_eq_false_iff_not] at hk
  rotate_left
  rw [if_neg hk] at h3
  rw [oC h3]
  unfold fA at hk
  simp only [Bool.and_eq_false_iff,decide_eq_false_iff_not] at hk
  focus ((try (apply wO pk;exact rfl));(repeat' (first|(show All _;constructor)|(show Imp _ _;constructor)|(show ImpX _ _ _ _;constructor)|(apply wC pk;(iterate 2 exact rfl))|(apply wE pk;(iterate 2 exact rfl))|(apply wX pk;exact rfl)|(apply wN pk;exact rfl)|(apply wD pk [] [];kernel_rfl;exact rfl;exact rfl)|(apply aB;simp only [zqt,zqf])|(refine aD rfl (fun h=> ?_) (fun h=> ?_)<;>(try simp at h)<;>try (exfalso;omega))|(refine aF ?_;refine ⟨_,_,_,rfl,Wk.refl _,StSub.refl _, ?_,rfl⟩;try rfl)|(apply aW pk;(iterate 6 exact rfl);rotate_left;exact rfl;(intro hw;exact rfl);(intro hw;apply aI<;>omega);(intro _;exact rfl);exact rfl)|(intros;(try simp only [zql]);omega)|((exfalso;grind)))))
  refine aO (X:={x:Nat//x≤t.unique.length∧∀j<x,oN t j=0}) (fun y=>((((St.nil 87 st).var 2 24 ((scC s))).var 3 52 (t.cells)).pv 7 ((PV.val (Value.int .i64 ((y.1:Nat))))))) (fun y=>t.unique.length-y.1) ⟨0,by omega,by omega⟩ ?_ (fun y=> ?_)
  · ((repeat (first|refine Sub.pv ?_ rfl|refine Sub.var ?_ rfl rfl));exact Sub.nil _ _ _ (StSub.refl _) rfl)
  obtain ⟨y,hy,hyI⟩:=y
  dsimp only
  by_cases hyl:y<t.unique.length
  have hs:=aiR t y b1 b2 hyl
  have hF:oN t y≠0→orI [lk4 t,lk5 s.length t,lk6 t]=oN t y:=fun h=>by
    have e:lk4 t=oN t y:=gV hyl h hyI
    rw [lE (by rw [e];exact h),e]
  have hU2:=fun h=>up0 hyI h
  generalize oN t y=E at*
  rotate_left
  rw [oC (show lk4 t=0 from gW fun j hj=>hyI j (by omega))]
  focus ((try (apply wO pk;exact rfl));(repeat' (first|(show All _;constructor)|(show Imp _ _;constructor)|(show ImpX _ _ _ _;constructor)|(apply wC pk;(iterate 2 exact rfl))|(apply wE pk;(iterate 2 exact rfl))|(apply wX pk;exact rfl)|(apply wN pk;exact rfl)|(apply wD pk [] [];kernel_rfl;exact rfl;exact rfl)|(apply aB;simp only [zqt,zqf])|(refine aD rfl (fun h=> ?_) (fun h=> ?_)<;>(try simp at h)<;>try (exfalso;omega))|(refine aF ?_;refine ⟨_,_,_,rfl,Wk.refl _,StSub.refl _, ?_,rfl⟩;try rfl)|(intros;(try simp only [zql]);omega))))
  refine aO (X:={x:Nat//x≤t.foreign.length∧∀j<x,nZ s.length t j=0}) (fun z=>((((St.nil 87 st).var 2 24 ((scC s))).var 3 52 (t.cells)).pv 9 ((PV.val (Value.int .i64 ((z.1:Nat))))))) (fun z=>t.foreign.length-z.1) ⟨0,by omega,by omega⟩ ?_ (fun z=> ?_)
  · ((repeat (first|refine Sub.pv ?_ rfl|refine Sub.var ?_ rfl rfl));exact Sub.nil _ _ _ (StSub.refl _) rfl)
  obtain ⟨z,hz,hzI⟩:=z
  dsimp only
  by_cases hzl:z<t.foreign.length
  have hs:=ajI s t z b3 hzl
  have hF:nZ s.length t z≠0→orI [lk5 s.length t,lk6 t]=nZ s.length t z:=fun h=>by
    have e:lk5 s.length t=nZ s.length t z:=gV hzl h hzI
    rw [lE (by rw [e];exact h),e]
  have hU3:=fun h=>up0 hzI h
  generalize nZ s.length t z=E at*
  rotate_left
  rw [oC (show lk5 s.length t=0 from gW fun j hj=>hzI j (by omega))]
  focus ((try (apply wO pk;exact rfl));(repeat' (first|(show All _;constructor)|(show Imp _ _;constructor)|(show ImpX _ _ _ _;constructor)|(apply wC pk;(iterate 2 exact rfl))|(apply wE pk;(iterate 2 exact rfl))|(apply wX pk;exact rfl)|(apply wN pk;exact rfl)|(apply wD pk [] [];kernel_rfl;exact rfl;exact rfl)|(apply aB;simp only [zqt,zqf])|(refine aD rfl (fun h=> ?_) (fun h=> ?_)<;>(try simp at h)<;>try (exfalso;omega))|(refine aF ?_;refine ⟨_,_,_,rfl,Wk.refl _,StSub.refl _, ?_,rfl⟩;try rfl)|(intros;(try simp only [zql]);omega))))
  refine aO (X:={x:Nat//x≤t.sums.length∧∀j<x,oX t j=0}) (fun w=>(((St.nil 87 st).var 3 52 (t.cells)).pv 11 ((PV.val (Value.int .i64 ((w.1:Nat))))))) (fun w=>t.sums.length-w.1) ⟨0,by omega,by omega⟩ ?_ (fun w=> ?_)
  · ((repeat (first|refine Sub.pv ?_ rfl|refine Sub.var ?_ rfl rfl));exact Sub.nil _ _ _ (StSub.refl _) rfl)
  obtain ⟨w,hw,hwI⟩:=w
  dsimp only
  by_cases hwl:w<t.sums.length
  have hs:=ahF t w b4 hwl
  have hF:oX t w≠0→orI [lk6 t]=oX t w:=fun h=>by
    have e:lk6 t=oX t w:=gV hwl h hwI
    rw [lE (by rw [e];exact h),e]
  have hU4:=fun h=>up0 hwI h
  generalize oX t w=E at*
  rotate_left
  rw [oC (show lk6 t=0 from gW fun j hj=>hwI j (by omega))]
  rotate_left
  all_goals ((try (apply wO pk;exact rfl));(repeat' (first|(show All _;constructor)|(show Imp _ _;constructor)|(show ImpX _ _ _ _;constructor)|(apply wC pk;(iterate 2 exact rfl))|(apply wE pk;(iterate 2 exact rfl))|(apply wX pk;exact rfl)|(apply wN pk;exact rfl)|(apply wD pk [] [];kernel_rfl;exact rfl;exact rfl)|(apply aB;simp only [zqt,zqf])|(refine aD rfl (fun h=> ?_) (fun h=> ?_)<;>(try simp at h)<;>try (exfalso;omega))|(refine aF ?_;refine ⟨_,_,_,rfl,Wk.refl _,StSub.refl _, ?_,rfl⟩;try first|rfl|((first|((rw [hF (by assumption)]);done)|((first|rfl|(exfalso;omega));done));done))|(apply aN;(iterate 3 exact rfl);(intro _;apply hs<;>first|assumption|omega);rotate_left;(iterate 2 exact rfl))|(apply aW pk;(iterate 6 exact rfl);rotate_left;exact rfl;(intro hw;exact rfl);(intro hw;apply aI<;>omega);(intro _;exact rfl);exact rfl)|((first|refine ⟨⟨i+1,by omega,hU (by assumption)⟩, ?_,by simp only;omega⟩|refine ⟨⟨y+1,by omega,hU2 (by assumption)⟩, ?_,by simp only;omega⟩|refine ⟨⟨z+1,by omega,hU3 (by assumption)⟩, ?_,by simp only;omega⟩|refine ⟨⟨w+1,by omega,hU4 (by assumption)⟩, ?_,by simp only;omega⟩);((repeat (first|refine Sub.pv ?_ rfl|refine Sub.var ?_ rfl rfl));exact Sub.nil _ _ _ (StSub.refl _) rfl))|(intros;(try simp only [zql]);omega)|((exfalso;grind)))))
theorem aaQ (s:Sc) (k:Nat) (hl:s.length<200000000000000) (hk:k<s.length) (hB:TbB s[k]):PF Tryz.prog 98 [.agg (scC s),(PV.val (Value.int .i64 ((k:Nat))))] (PV.val (Value.int .i64 (nC s k))):=by
  have b1:=hB.c
  have b2:=hB.u
  have b3:=hB.f
  have b4:=hB.s
  have b5:=hB.k
  have hn:=uD s[k].name
  have hp:=acL s s[k] hB
  have e:nC s k=orI [lk0 s k,lk1 s[k],lk2 s[k],lk3 s[k],lk4 s[k],lk5 s.length s[k],lk6 s[k]]:=by unfold nC lks;rw [getElem!_pos s k hk]
  rw [e]
  have h0:lk0 s k=if kP s[k].name=false then 1 else if adE s k=true then 5 else 0:=by unfold lk0;rw [getElem!_pos s k hk]
  have hdup:adE s k=(s.take k).any fun t=>decide (t.name=s[k].name):=by unfold adE;rw [getElem!_pos s k hk]
  cases hN:kP s[k].name with
  |false=>
    rw [hN,if_pos rfl] at h0
    rw [hN] at hn
    rw [lE (by rw [h0];decide),h0]
    refine aL aH Tryz.func98 (by kernel_rfl) rfl rfl rfl rfl (fun st=> ?_)
    (try (apply wO pk;exact rfl));(repeat' (first|(show All _;constructor)|(show Imp _ _;constructor)|(show ImpX _ _ _ _;constructor)|(apply wC pk;(iterate 2 exact rfl))|(apply wE pk;(iterate 2 exact rfl))|(apply wX pk;exact rfl)|(apply wN pk;exact rfl)|(apply wD pk [] [];kernel_rfl;exact rfl;exact rfl)|(apply aB;simp only [zqt,zqf])|(refine aD rfl (fun h=> ?_) (fun h=> ?_)<;>(try simp at h)<;>try (exfalso;omega))|(refine aF ?_;refine ⟨_,_,_,rfl,Wk.refl _,StSub.refl _, ?_,rfl⟩;try rfl)|(apply aN;(iterate 3 exact rfl);(intro _;apply hn<;>first|assumption|omega);rotate_left;(iterate 2 exact rfl))|(apply aW pk;(iterate 6 exact rfl);rotate_left;exact rfl;(intro hw;exact rfl);(intro hw;apply aI<;>omega);(intro _;exact rfl);exact rfl)|(intros;(try simp only [zql]);omega)))
  |true=>
  rw [hN,if_neg (by simp)] at h0
  rw [hN] at hn
  refine aL aH Tryz.func98 (by kernel_rfl) rfl rfl rfl rfl (fun st=> ?_)
  focus ((try (apply wO pk;exact rfl));(repeat' (first|(show All _;constructor)|(show Imp _ _;constructor)|(show ImpX _ _ _ _;constructor)|(apply wC pk;(iterate 2 exact rfl))|(apply wE pk;(iterate 2 exact rfl))|(apply wX pk;exact rfl)|(apply wN pk;exact rfl)|(apply wD pk [] [];kernel_rfl;exact rfl;exact rfl)|(apply aB;simp only [zqt,zqf])|(refine aD rfl (fun h=> ?_) (fun h=> ?_)<;>(try simp at h)<;>try (exfalso;omega))|(refine aF ?_;refine ⟨_,_,_,rfl,Wk.refl _,StSub.refl _, ?_,rfl⟩;try rfl)|(apply aN;(iterate 3 exact rfl);(intro _;apply hn<;>first|assumption|omega);rotate_left;(iterate 2 exact rfl))|(apply aW pk;(iterate 6 exact rfl);rotate_left;exact rfl;(intro hw;exact rfl);(intro hw;apply aI<;>omega);(intro _;exact rfl);exact rfl)|(intros;(try simp only [zql]);omega))))
  refine aO (X:={x:Nat//x≤k∧∀j (h:j<s.length),j<x→s[j].name≠s[k].name}) (fun i=>(((((St.nil 67 st).pv 1 ((PV.val (Value.int .i64 ((k:Nat)))))).var 2 24 ((scC s))).var 5 52 (s[k].cells)).pv 6 ((PV.val (Value.int .i64 ((i.1:Nat))))))) (fun i=>k-i.1) ⟨0,by omega,by omega⟩ ?_ (fun i=> ?_)
  · ((repeat (first|refine Sub.pv ?_ rfl|refine Sub.var ?_ rfl rfl));exact Sub.nil _ _ _ (StSub.refl _) rfl)
  obtain ⟨i,hi,hI⟩:=i
  dsimp only
  by_cases hend:¬k≤i
  have hil:i<s.length:=by omega
  by_cases hq:s[i].name=s[k].name
  have ha:adE s k=true:=by rw [hdup];exact List.any_eq_true.2 ⟨s[i],List.mem_iff_getElem.2 ⟨i,by rw [List.length_take];omega,by rw [List.getElem_take]⟩,by rw [decide_eq_true_eq];exact hq⟩
  rw [if_pos ha] at h0
  rw [lE (by rw [h0];decide),h0]
  rotate_left
  have hup:∀j (h:j<s.length),j<i+1→s[j].name≠s[k].name:=fun j hj hji=>by
    rcases Nat.lt_succ_iff_lt_or_eq.1 hji with w|w
    · exact hI j hj w
    · subst w;exact hq
  rotate_left
  have ha:adE s k=false:=by
    rw [hdup,←Bool.not_eq_true,List.any_eq_true]
    rintro ⟨x,hx,hxe⟩
    obtain ⟨j,hj,rfl⟩:=List.getElem_of_mem hx
    rw [List.length_take] at hj
    rw [List.getElem_take,decide_eq_true_eq] at hxe
    exact hI j (by omega) (by omega) hxe
  rw [if_neg (by rw [ha];simp)] at h0
  rw [oC h0]
  by_cases h1:s[k].cols.length<1∨s[k].cols.length>16∨s[k].checks.length>16∨s[k].unique.length>16∨s[k].foreign.length>16∨s[k].sums.length>16
  have e1:lk1 s[k]=2:=by unfold lk1;rw [if_pos h1]
  rw [lE (by rw [e1];decide),e1]
  rotate_left
  have e1:lk1 s[k]=0:=by unfold lk1;rw [if_neg h1]
  rw [oC e1]
  have hp2:=hp (by omega)
  rotate_left
  all_goals ((try (apply wO pk;exact rfl));(repeat' (first|(show All _;constructor)|(show Imp _ _;constructor)|(show ImpX _ _ _ _;constructor)|(apply wC pk;(iterate 2 exact rfl))|(apply wE pk;(iterate 2 exact rfl))|(apply wX pk;exact rfl)|(apply wN pk;exact rfl)|(apply wD pk [] [];kernel_rfl;exact rfl;exact rfl)|(apply aB;simp only [zqt,zqf])|(refine aD rfl (fun h=> ?_) (fun h=> ?_)<;>(try simp at h)<;>try (exfalso;omega))|(refine aF ?_;refine ⟨_,_,_,rfl,Wk.refl _,StSub.refl _, ?_,rfl⟩;try rfl)|(apply aN;(iterate 3 exact rfl);(intro _;apply hp2<;>first|assumption|omega);rotate_left;(iterate 2 exact rfl))|(apply aW pk;(iterate 6 exact rfl);rotate_left;exact rfl;(intro hw;exact rfl);(intro hw;apply aI<;>omega);(intro _;exact rfl);exact rfl)|(refine ⟨⟨i+1,by omega,hup⟩, ?_,by simp only;omega⟩;((repeat (first|refine Sub.pv ?_ rfl|refine Sub.var ?_ rfl rfl));exact Sub.nil _ _ _ (StSub.refl _) rfl))|(intros;(try simp only [zql]);omega)|((exfalso;grind))|((exfalso;simp at*;omega)))))
theorem yQ (s:Sc) (hl:s.length<200000000000000) (hB:∀t∈s,TbB t):PF Tryz.prog 61 [.agg (scC s)] (PV.val (Value.int .i64 (dF s))):=by
  unfold dF
  by_cases h16:s.length<1∨s.length>16
  · rw [if_pos h16]
    refine aL aH Tryz.func61 (by kernel_rfl) rfl rfl rfl rfl (fun st=> ?_)
    (try (apply wO pk;exact rfl));(repeat' (first|(show All _;constructor)|(show Imp _ _;constructor)|(show ImpX _ _ _ _;constructor)|(apply wC pk;(iterate 2 exact rfl))|(apply wE pk;(iterate 2 exact rfl))|(apply wX pk;exact rfl)|(apply wN pk;exact rfl)|(apply wD pk [] [];kernel_rfl;exact rfl;exact rfl)|(apply aB;simp only [zqt,zqf])|(refine aD rfl (fun h=> ?_) (fun h=> ?_)<;>(try simp at h)<;>try (exfalso;omega))|(refine aF ?_;refine ⟨_,_,_,rfl,Wk.refl _,StSub.refl _, ?_,rfl⟩;try rfl)|(intros;(try simp only [zql]);omega)|((exfalso;simp at*;omega))))
  rw [if_neg h16]
  refine aL aH Tryz.func61 (by kernel_rfl) rfl rfl rfl rfl (fun st=> ?_)
  focus ((try (apply wO pk;exact rfl));(repeat' (first|(show All _;constructor)|(show Imp _ _;constructor)|(show ImpX _ _ _ _;constructor)|(apply wC pk;(iterate 2 exact rfl))|(apply wE pk;(iterate 2 exact rfl))|(apply wX pk;exact rfl)|(apply wN pk;exact rfl)|(apply wD pk [] [];kernel_rfl;exact rfl;exact rfl)|(apply aB;simp only [zqt,zqf])|(refine aD rfl (fun h=> ?_) (fun h=> ?_)<;>(try simp at h)<;>try (exfalso;omega))|(refine aF ?_;refine ⟨_,_,_,rfl,Wk.refl _,StSub.refl _, ?_,rfl⟩;try rfl)|(intros;(try simp only [zql]);omega)|((exfalso;simp at*;omega)))))
  refine aO (X:={x:Nat//x≤s.length∧∀j<x,nC s j=0}) (fun i=>(((St.nil 28 st).var 1 24 ((scC s))).pv 3 ((PV.val (Value.int .i64 ((i.1:Nat))))))) (fun i=>s.length-i.1) ⟨0,by omega,by omega⟩ ?_ (fun i=> ?_)
  · ((repeat (first|refine Sub.pv ?_ rfl|refine Sub.var ?_ rfl rfl));exact Sub.nil _ _ _ (StSub.refl _) rfl)
  obtain ⟨i,hi,hI⟩:=i
  dsimp only
  by_cases hil:i<s.length
  have hs:=aaQ s i hl hil (hB _ (List.getElem_mem hil))
  have hF:nC s i≠0→dB (nC s) s.length=nC s i:=fun h=>gV hil h hI
  have hU:=fun h=>up0 hI h
  generalize nC s i=E at*
  rotate_left
  have e:dB (nC s) s.length=0:=gW fun j hj=>hI j (by omega)
  rotate_left
  all_goals ((try (apply wO pk;exact rfl));(repeat' (first|(show All _;constructor)|(show Imp _ _;constructor)|(show ImpX _ _ _ _;constructor)|(apply wC pk;(iterate 2 exact rfl))|(apply wE pk;(iterate 2 exact rfl))|(apply wX pk;exact rfl)|(apply wN pk;exact rfl)|(apply wD pk [] [];kernel_rfl;exact rfl;exact rfl)|(apply aB;simp only [zqt,zqf])|(refine aD rfl (fun h=> ?_) (fun h=> ?_)<;>(try simp at h)<;>try (exfalso;omega))|(refine aF ?_;refine ⟨_,_,_,rfl,Wk.refl _,StSub.refl _, ?_,rfl⟩;try first|rfl|((first|((rw [hF (by assumption)]);done)|((rw [e]);done));done))|(apply aN;(iterate 3 exact rfl);(intro _;apply hs<;>first|assumption|omega);rotate_left;(iterate 2 exact rfl))|(refine ⟨⟨i+1,by omega,hU (by assumption)⟩, ?_,by simp only;omega⟩;((repeat (first|refine Sub.pv ?_ rfl|refine Sub.var ?_ rfl rfl));exact Sub.nil _ _ _ (StSub.refl _) rfl))|(intros;(try simp only [zql]);omega))))
end Go.Proofs.YtddmbnddgiebgaaGreatDoor
