import Derived.Test.YtcglimangneafaaGreatDoorCkTot
import Derived.Test.YtcglimangneafaaGreatDoorBsRefS
set_option linter.unusedSimpArgs false
set_option linter.unusedVariables false
namespace Go.Proofs.YtcglimangneafaaGreatDoor
open Go Go.Abs
attribute [local irreducible] Ev PWp
set_option maxRecDepth 10000
set_option maxHeartbeats 4000000
def atY (t:Tb):Nat:=t.cols.length+t.unique.length+t.checks.length+t.foreign.length+t.sums.length
def aaI (s:Sc):Nat:=(s.map atY).sum
def wF (s:Sc):Bool:=decide (s.length≤20)&&decide (aaI s≤400)
theorem ayK {s:Sc} {i:Nat} (h:i<s.length):aaI (s.take (i+1))=aaI (s.take i)+atY s[i]:=by
  unfold aaI
  rw [List.take_succ_eq_append_getElem h,List.map_append,List.sum_append];simp
theorem avL {s:Sc} {t:Tb} (h:t∈s):atY t≤aaI s:=by
  unfold aaI
  induction s with
  |nil=>cases h
  |cons a s ih=>
    rw [List.map_cons,List.sum_cons]
    rcases List.mem_cons.1 h with rfl|h
    · omega
    · have:=ih h;omega
theorem apR (s:Sc) (hl:s.length<200000000000000) (h20:¬s.length≤20):PF Tryz.prog 58 [.agg (scC s)] (PV.val (Value.bool (false))):=by
  refine aH aD Tryz.func58 (by kernel_rfl) rfl rfl rfl rfl (fun st=> ?_)
  focus ((try (apply wO pk;exact rfl));(repeat' ((show All _;constructor))))
  refine aJ (X:={x:Nat×Int//x.1≤s.length}) (fun i=>((((St.nil 47 st).var 1 24 ((scC s))).pv 3 ((PV.val (Value.int .i64 (i.1.2))))).pv 4 ((PV.val (Value.int .i64 ((i.1.1:Nat))))))) (fun i=>s.length-i.1.1) ⟨(0,0),by simp⟩ ?_ (fun i=> ?_)
  · ((repeat (first|refine Sub.pv ?_ rfl|refine Sub.var ?_ rfl rfl));exact Sub.nil _ _ _ (StSub.refl _) rfl)
  obtain ⟨⟨i,n⟩,hi⟩:=i
  simp only at hi
  dsimp only
  by_cases hend:s.length≤i
  · (try (apply wO pk;exact rfl));(repeat' (first|(show All _;constructor)|(show Imp _ _;constructor)|(show ImpX _ _ _ _;constructor)|(apply wC pk;(iterate 2 exact rfl))|(refine aA rfl (fun h=> ?_) (fun h=> ?_)<;>(try simp at h)<;>try (exfalso;omega))|(refine aB ?_;refine ⟨_,_,_,rfl,Wk.refl _,StSub.refl _, ?_,rfl⟩;try first|rfl|((rw [zql,decide_eq_false (by omega)];rfl);done))))
  have hil:i<s.length:=by omega
  focus ((try (apply wO pk;exact rfl));(repeat' (first|(show All _;constructor)|(apply wC pk;(iterate 2 exact rfl))|(refine aA rfl (fun h=> ?_) (fun h=> ?_)<;>(try simp at h)<;>try (exfalso;omega)))))
  (apply aM pk;(iterate 6 exact rfl);rotate_left;exact rfl;(intro hw;exact rfl);(intro hw;apply aF<;>omega);(intro _;exact rfl);exact rfl)
  · (repeat (first|(apply gI aD;iterate 4 exact rfl)|(apply afF aD;iterate 4 exact rfl)|(apply adP aD;iterate 5 exact rfl)))
    refine nA ?_
    refine fC ?_
    (repeat (first|(apply aAn;(iterate 5 exact rfl);intro n')|(apply gI aD;iterate 4 exact rfl)|(apply arV aD;exact rfl;exact rfl;exact fun _=>rfl;exact rfl;exact rfl)|(apply alD aD;exact rfl;exact rfl;exact rfl;exact rfl;exact fun _=>rfl;exact rfl;exact rfl)))
    (try (apply wO pk;exact rfl));(repeat' (first|(show All _;constructor)|(apply wE pk;(iterate 2 exact rfl))|(refine ⟨⟨(i+1,n'),by simp only;omega⟩, ?_,by simp only;omega⟩;((repeat (first|refine Sub.pv ?_ rfl|refine Sub.var ?_ rfl rfl));exact Sub.nil _ _ _ (StSub.refl _) rfl))|(intros;(try simp only [zql]);omega)))
  · (try (apply wO pk;exact rfl));(repeat' (first|(show All _;constructor)|(show Imp _ _;constructor)))
theorem ahP (s:Sc) (hl:s.length<200000000000000) (hB:ScB s):PF Tryz.prog 58 [.agg (scC s)] (PV.val (Value.bool (wF s))):=by
  by_cases h20:¬s.length≤20
  · have hF:wF s=false:=by unfold wF;rw [decide_eq_false h20];rfl
    rw [hF]
    exact apR s hl h20
  replace h20:=Decidable.of_not_not h20
  refine aH aD Tryz.func58 (by kernel_rfl) rfl rfl rfl rfl (fun st=> ?_)
  focus ((try (apply wO pk;exact rfl));(repeat' ((show All _;constructor))))
  refine aJ (X:={x:Nat×Int//x.1≤s.length∧x.2=((aaI (s.take x.1):Nat):Int)∧x.2≤x.1*1000000000000000}) (fun i=>((((St.nil 47 st).var 1 24 ((scC s))).pv 3 ((PV.val (Value.int .i64 (i.1.2))))).pv 4 ((PV.val (Value.int .i64 ((i.1.1:Nat))))))) (fun i=>s.length-i.1.1) ⟨(0,0),by simp,rfl,by simp⟩ ?_ (fun i=> ?_)
  · ((repeat (first|refine Sub.pv ?_ rfl|refine Sub.var ?_ rfl rfl));exact Sub.nil _ _ _ (StSub.refl _) rfl)
  obtain ⟨⟨i,n⟩,hi,hn,hb2⟩:=i
  simp only at hi hn hb2
  dsimp only
  by_cases hend:s.length≤i
  · rw [List.take_of_length_le hend] at hn
    subst hn
    have e:wF s=(decide ((s.length:Int)≤20)&&decide ((aaI s:Int)≤400)):=by unfold wF;rw [Bool.eq_iff_iff];simp;omega
    rw [e]
    (try (apply wO pk;exact rfl));(repeat' (first|(show All _;constructor)|(show Imp _ _;constructor)|(show ImpX _ _ _ _;constructor)|(apply wC pk;(iterate 2 exact rfl))|(refine aA rfl (fun h=> ?_) (fun h=> ?_)<;>(try simp at h)<;>try (exfalso;omega))|(refine aB ?_;refine ⟨_,_,_,rfl,Wk.refl _,StSub.refl _, ?_,rfl⟩;try first|rfl|((rw [zql]);done))))
  have hil:i<s.length:=by omega
  have hu:=ayK hil
  have hT:=hB _ (List.getElem_mem hil)
  obtain ⟨c1,c2,c3,c4,c5⟩:=hT
  have hs:atY s[i]=s[i].cols.length+s[i].unique.length+s[i].checks.length+s[i].foreign.length+s[i].sums.length:=rfl
  have l1:(s[i].cols.map Co.cells).length=s[i].cols.length:=zql _
  have l2:(s[i].unique.map I1).length=s[i].unique.length:=zql _
  have l3:(s[i].foreign.map Fr.cells).length=s[i].foreign.length:=zql _
  have l4:(s[i].sums.map Su.cells).length=s[i].sums.length:=zql _
  have w1:n+((s[i].cols.map Co.cells).length:Int)+((s[i].unique.map I1).length:Int)+(s[i].checks.length:Int)+((s[i].foreign.map Fr.cells).length:Int)+((s[i].sums.map Su.cells).length:Int)=((aaI (s.take (i+1)):Nat):Int):=by omega
  have w2:n+((s[i].cols.map Co.cells).length:Int)+((s[i].unique.map I1).length:Int)+(s[i].checks.length:Int)+((s[i].foreign.map Fr.cells).length:Int)+((s[i].sums.map Su.cells).length:Int)≤((i+1:Nat):Int)*1000000000000000:=by omega
  have n0:0≤n:=by omega
  (try (apply wO pk;exact rfl));(repeat' (first|(show All _;constructor)|(show Imp _ _;constructor)|(apply wC pk;(iterate 2 exact rfl))|(apply wE pk;(iterate 2 exact rfl))|(refine aA rfl (fun h=> ?_) (fun h=> ?_)<;>(try simp at h)<;>try (exfalso;omega))|(apply aM pk;(iterate 6 exact rfl);rotate_left;exact rfl;(intro hw;exact rfl);(intro hw;apply aF<;>omega);(intro _;exact rfl);exact rfl)|(refine ⟨⟨(i+1,n+((s[i].cols.map Co.cells).length:Int)+((s[i].unique.map I1).length:Int)+(s[i].checks.length:Int)+((s[i].foreign.map Fr.cells).length:Int)+((s[i].sums.map Su.cells).length:Int)),by simp only;omega,w1,w2⟩, ?_,by simp only;omega⟩;((repeat (first|refine Sub.pv ?_ rfl|refine Sub.var ?_ rfl rfl));exact Sub.nil _ _ _ (StSub.refl _) rfl))|(intros;(try simp only [zql]);omega)))
noncomputable def fewX (s:Sc):Bool:=s.all fun t=>t.checks.all fun c=>decide (X.nodesR 25 (exOf c) 60≤60)
noncomputable def fewC (s:Sc) (b:Bs):Bool:=(wF s&&tZ b)&&fewX s
theorem amY (s:Sc) (b:Bs) (hl:s.length<200000000000000) (hB:ScB s) (hK:∀t∈s,mB t) (hb:BsB b):PF Tryz.prog 30 [.agg (scC s), .agg (bsC b)] (PV.val (Value.bool (fewC s b))):=by
  have h1:=ahP s hl hB
  have h2:=apI b hb.1 hb.2
  unfold fewC
  by_cases hg:¬(wF s&&tZ b)=true
  · have hg:(wF s&&tZ b)=false:=by simpa using hg
    rw [hg]
    generalize wF s=A at*
    generalize tZ b=B at*
    refine aH aD Tryz.func30 (by kernel_rfl) rfl rfl rfl rfl (fun st=> ?_)
    (try (apply wO pk;exact rfl));(repeat' (first|(show All _;constructor)|(show Imp _ _;constructor)|(show ImpX _ _ _ _;constructor)|(apply wC pk;(iterate 2 exact rfl))|(apply wE pk;(iterate 2 exact rfl))|(refine aA rfl (fun h=> ?_) (fun h=> ?_)<;>(try simp at h)<;>try (exfalso;omega))|(refine aB ?_;refine ⟨_,_,_,rfl,Wk.refl _,StSub.refl _, ?_,rfl⟩;try first|rfl|((fail);done))|(apply aI;(iterate 3 exact rfl);(intro _;(first|apply h1|apply h2)<;>first|assumption|omega);rotate_left;(iterate 2 exact rfl))|((exfalso;simp_all;done))))
  replace hg:=Decidable.of_not_not hg
  rw [hg]
  rw [Bool.and_eq_true] at hg
  rw [hg.1] at h1
  rw [hg.2] at h2
  have hl20:s.length≤20:=by have:=hg.1;unfold wF at this;simp at this;exact this.1
  have hyes:(∀j (h:j<s.length),(s[j].checks.all fun c=>decide (X.nodesR 25 (exOf c) 60≤60))=true)→fewX s=true:=fun h=>by
    unfold fewX
    rw [List.all_eq_true]
    intro t ht
    obtain ⟨j,hj,rfl⟩:=List.getElem_of_mem ht
    exact h j hj
  have hno:∀j (h:j<s.length),∀y (hy:y<s[j].checks.length),decide (X.nodesR 25 (exOf s[j].checks[y]) 60≤60)=false→fewX s=false:=fun j hj y hy h=>by
    unfold fewX
    rw [←Bool.not_eq_true,List.all_eq_true]
    intro q
    have:=List.all_eq_true.1 (q _ (List.getElem_mem hj)) _ (List.getElem_mem hy)
    rw [h] at this;cases this
  generalize fewX s=W at*
  refine aH aD Tryz.func30 (by kernel_rfl) rfl rfl rfl rfl (fun st=> ?_)
  focus ((try (apply wO pk;exact rfl));(repeat' (first|(show All _;constructor)|(show Imp _ _;constructor)|(show ImpX _ _ _ _;constructor)|(apply wC pk;(iterate 2 exact rfl))|(apply wE pk;(iterate 2 exact rfl))|(refine aA rfl (fun h=> ?_) (fun h=> ?_)<;>(try simp at h)<;>try (exfalso;omega))|(apply aI;(iterate 3 exact rfl);(intro _;(first|apply h1|apply h2)<;>first|assumption|omega);rotate_left;(iterate 2 exact rfl)))))
  refine aJ (X:={x:Nat//x≤s.length∧∀j (h:j<s.length),j<x→(s[j].checks.all fun c=>decide (X.nodesR 25 (exOf c) 60≤60))=true}) (fun i=>(((St.nil 50 st).var 2 24 ((scC s))).pv 7 ((PV.val (Value.int .i64 ((i.1:Nat))))))) (fun i=>s.length-i.1) ⟨0,by omega,by omega⟩ ?_ (fun i=> ?_)
  · ((repeat (first|refine Sub.pv ?_ rfl|refine Sub.var ?_ rfl rfl));exact Sub.nil _ _ _ (StSub.refl _) rfl)
  obtain ⟨i,hi,hI⟩:=i
  dsimp only
  by_cases hend:s.length≤i
  · have e:W=true:=hyes fun j hj=>hI j hj (by omega)
    (try (apply wO pk;exact rfl));(repeat' (first|(show All _;constructor)|(apply wC pk;(iterate 2 exact rfl))|(refine aA rfl (fun h=> ?_) (fun h=> ?_)<;>(try simp at h)<;>try (exfalso;omega))|(refine aB ?_;refine ⟨_,_,_,rfl,Wk.refl _,StSub.refl _, ?_,rfl⟩;try first|rfl|((rw [e];rfl);done))))
  have hil:i<s.length:=by omega
  have hup:(s[i].checks.all fun c=>decide (X.nodesR 25 (exOf c) 60≤60))=true→∀j (h:j<s.length),j<i+1→(s[j].checks.all fun c=>decide (X.nodesR 25 (exOf c) 60≤60))=true:=fun h j hj hji=>by
    rcases Nat.lt_succ_iff_lt_or_eq.1 hji with q|q
    · exact hI j hj q
    · subst q;exact h
  have hchk:=hK _ (List.getElem_mem hil)
  have hckl:=(hB _ (List.getElem_mem hil)).k
  have hno:=hno i hil
  focus ((try (apply wO pk;exact rfl));(repeat' (first|(show All _;constructor)|(apply wC pk;(iterate 2 exact rfl))|(refine aA rfl (fun h=> ?_) (fun h=> ?_)<;>(try simp at h)<;>try (exfalso;omega)))))
  refine aJ (X:={x:Nat//x≤s[i].checks.length∧∀j (h:j<s[i].checks.length),j<x→decide (X.nodesR 25 (exOf s[i].checks[j]) 60≤60)=true}) (fun y=>((((St.nil 50 st).var 2 24 ((scC s))).pv 7 ((PV.val (Value.int .i64 ((i:Nat)))))).pv 8 ((PV.val (Value.int .i64 ((y.1:Nat))))))) (fun y=>s[i].checks.length-y.1) ⟨0,by omega,by omega⟩ ?_ (fun y=> ?_)
  · ((repeat (first|refine Sub.pv ?_ rfl|refine Sub.var ?_ rfl rfl));exact Sub.nil _ _ _ (StSub.refl _) rfl)
  obtain ⟨y,hy,hyI⟩:=y
  dsimp only
  by_cases hend2:s[i].checks.length≤y
  · have hw:=hup (by
      rw [List.all_eq_true]
      intro c hc
      obtain ⟨j,hj,rfl⟩:=List.getElem_of_mem hc
      exact hyI j hj (by omega))
    (try (apply wO pk;exact rfl));(repeat' (first|(show All _;constructor)|(show Imp _ _;constructor)|(apply wC pk;(iterate 2 exact rfl))|(apply wE pk;(iterate 2 exact rfl))|(refine aA rfl (fun h=> ?_) (fun h=> ?_)<;>(try simp at h)<;>try (exfalso;omega))|(apply aM pk;(iterate 6 exact rfl);rotate_left;exact rfl;(intro hw;exact rfl);(intro hw;apply aF<;>omega);(intro _;exact rfl);exact rfl)|(refine ⟨⟨i+1,by omega,hw⟩, ?_,by simp only;omega⟩;((repeat (first|refine Sub.pv ?_ rfl|refine Sub.var ?_ rfl rfl));exact Sub.nil _ _ _ (StSub.refl _) rfl))|(intros;(try simp only [zql]);omega)))
  have hyl:y<s[i].checks.length:=by omega
  obtain ⟨hok,hcc⟩:=nN (hchk _ (List.getElem_mem hyl))
  have hF:=X.Few_spec hok
  have hno:=hno y hyl
  have hyu:decide (X.nodesR 25 (exOf s[i].checks[y]) 60≤60)=true→∀j (h:j<s[i].checks.length),j<y+1→decide (X.nodesR 25 (exOf s[i].checks[j]) 60≤60)=true:=fun h j hj hji=>by
    rcases Nat.lt_succ_iff_lt_or_eq.1 hji with q|q
    · exact hyI j hj q
    · subst q;exact h
  have hget:s[i].checks[y]?=some (exOf s[i].checks[y]).cells:=by rw [hcc,List.getElem?_eq_getElem hyl]
  generalize decide (X.nodesR 25 (exOf s[i].checks[y]) 60≤60)=D at*
  generalize exOf s[i].checks[y]=x at*
  obtain ⟨xk,xn,xv,xo⟩:=x
  cases D with
  |true=>
    (try (apply wO pk;exact rfl));(repeat' (first|(show All _;constructor)|(show Imp _ _;constructor)|(apply wC pk;(iterate 2 exact rfl))|(apply wE pk;(iterate 2 exact rfl))|(refine aA rfl (fun h=> ?_) (fun h=> ?_)<;>(try simp at h)<;>try (exfalso;omega))|(apply aI;(iterate 3 exact rfl);(intro _;apply hF<;>first|assumption|omega);rotate_left;(iterate 2 exact rfl))|(apply aM pk;(iterate 6 exact rfl);rotate_left;exact rfl;(first|((intro hw;exact rfl);(intro hw;apply aF<;>omega);(intro _;exact rfl))|((intro hw;exact rfl);(intro hw;apply hget<;>omega);(intro _;exact rfl)));exact rfl)|(refine ⟨⟨y+1,by omega,hyu rfl⟩, ?_,by simp only;omega⟩;((repeat (first|refine Sub.pv ?_ rfl|refine Sub.var ?_ rfl rfl));exact Sub.nil _ _ _ (StSub.refl _) rfl))|(intros;(try simp only [zql]);omega)))
  |false=>
    have e:=hno rfl
    (try (apply wO pk;exact rfl));(repeat' (first|(show All _;constructor)|(show Imp _ _;constructor)|(apply wC pk;(iterate 2 exact rfl))|(apply wE pk;(iterate 2 exact rfl))|(refine aA rfl (fun h=> ?_) (fun h=> ?_)<;>(try simp at h)<;>try (exfalso;omega))|(refine aB ?_;refine ⟨_,_,_,rfl,Wk.refl _,StSub.refl _, ?_,rfl⟩;try first|rfl|((rw [e];rfl);done))|(apply aI;(iterate 3 exact rfl);(intro _;apply hF<;>first|assumption|omega);rotate_left;(iterate 2 exact rfl))|(apply aM pk;(iterate 6 exact rfl);rotate_left;exact rfl;(first|((intro hw;exact rfl);(intro hw;apply aF<;>omega);(intro _;exact rfl))|((intro hw;exact rfl);(intro hw;apply hget<;>omega);(intro _;exact rfl)));exact rfl)))
theorem ahG (s:Sc) (b:Bs) (hl:s.length<200000000000000) (hB:ScB s) (hK:∀t∈s,mB t) (hb:BsB b):PF Tryz.prog 10 [.agg (scC s), .agg (bsC b)] (PV.val (Value.bool (fewC s b))):=by
  have h:=amY s b hl hB hK hb
  generalize fewC s b=F at*
  refine aH aD Tryz.func10 (by kernel_rfl) rfl rfl rfl rfl (fun st=> ?_)
  (try (apply wO pk;exact rfl));(repeat' (first|(show All _;constructor)|(show Imp _ _;constructor)|(apply wE pk;(iterate 2 exact rfl))|(refine aB ?_;refine ⟨_,_,_,rfl,Wk.refl _,StSub.refl _, ?_,rfl⟩;try rfl)|(apply aI;(iterate 3 exact rfl);(intro _;apply h<;>first|assumption|omega);rotate_left;(iterate 2 exact rfl))))
theorem CkB.of {s:Sc} {b:Bs} (h:fewC s b=true) (hB:ScB s) (hK:∀t∈s,mB t):CkB 100 s b:=by
  unfold fewC wF at h
  simp only [Bool.and_eq_true,decide_eq_true_eq] at h
  obtain ⟨⟨⟨h1,h2⟩,h3⟩,h4⟩:=h
  exact ⟨hB,h1,fun t ht=>by have:=avL ht;unfold atY at this;omega,hK,azY h3,by omega⟩
end Go.Proofs.YtcglimangneafaaGreatDoor
