import Derived.Test.YtcglimangneafaaGreatDoorTyC
set_option linter.unusedSimpArgs false
set_option linter.unusedVariables false
namespace Go.Proofs.YtcglimangneafaaGreatDoor.T
open Go Go.Abs
attribute [local irreducible] Ev PWp
set_option maxRecDepth 10000
set_option maxHeartbeats 1000000
theorem axD (p:Pt) (d:Dt) (n:Int):aO p=⟨d,n⟩↔((aO p).dot.dev=d.dev∧(aO p).dot.seq=d.seq)∧(aO p).at_=n:=by
  rw [Nm.ext_iff,Dt.ext_iff]
theorem jO (p:Pt):PF Tryz.prog 237 [.agg p.cells] (.agg (bC p).cells):=by
  refine aH aD Tryz.func237 (by kernel_rfl) rfl rfl rfl rfl (fun st=> ?_)
  (try (apply wO pk;exact rfl));(repeat' (first|(show All _;constructor)|(refine aB ?_;refine ⟨_,_,_,rfl,Wk.refl _,StSub.refl _, ?_,rfl⟩;try rfl)))
theorem yP (d:Dt) (n:Int):PF Tryz.prog 264 [.agg d.cells,(PV.val (Value.int .i64 (n)))] (PV.val (Value.bool (vP ⟨d,n⟩))):=by
  refine aH aD Tryz.func264 (by kernel_rfl) rfl rfl rfl rfl (fun st=> ?_)
  (try (apply wO pk;exact rfl));(repeat' (first|(show All _;constructor)|(show Imp _ _;constructor)|(show ImpX _ _ _ _;constructor)|(refine aB ?_;refine ⟨_,_,_,rfl,Wk.refl _,StSub.refl _, ?_,rfl⟩;try first|rfl|((simp only [vP,eR,Bool.and_assoc]);done))))
theorem kX (a b:Sp):PF Tryz.prog 238 [.agg a.cells, .agg b.cells] (PV.val (Value.bool (iT a b))):=by
  refine aH aD Tryz.func238 (by kernel_rfl) rfl rfl rfl rfl (fun st=> ?_)
  (try (apply wO pk;exact rfl));(repeat' (first|(show All _;constructor)|(apply wC pk;(iterate 2 exact rfl))|(refine aA rfl (fun h=> ?_) (fun h=> ?_)<;>(try simp at h)<;>try (exfalso;omega))|(refine aB ?_;refine ⟨_,_,_,rfl,Wk.refl _,StSub.refl _, ?_,rfl⟩;try first|rfl|((simp only [iT];grind);done))))
theorem iE (p:Pt):PF Tryz.prog 235 [.agg p.cells] (PV.val (Value.bool (bR p))):=by
  have hz:aN p=Nm.zero↔(p.after.dev=0∧p.after.seq=0)∧p.afterAt=0:=by rw [Nm.ext_iff,Dt.ext_iff];rfl
  refine aH aD Tryz.func235 (by kernel_rfl) rfl rfl rfl rfl (fun st=> ?_)
  (try (apply wO pk;exact rfl));(repeat' (first|(show All _;constructor)|(show Imp _ _;constructor)|(show ImpX _ _ _ _;constructor)|(apply wC pk;(iterate 2 exact rfl))|(apply wE pk;(iterate 2 exact rfl))|(refine aA rfl (fun h=> ?_) (fun h=> ?_)<;>(try simp at h)<;>try (exfalso;omega))|(refine aB ?_;refine ⟨_,_,_,rfl,Wk.refl _,StSub.refl _, ?_,rfl⟩;try first|rfl|((first|(have e:bR p=false:=(by simp only [bR,eR,e0];grind);rw [e];done)|(have e:bR p=(vP (aO p)&&(vP (aN p)||decide (aN p=Nm.zero))):=(by simp only [bR,eR,e0];grind);rw [e];congr 2;rw [Bool.eq_iff_iff];simp only [Bool.or_eq_true,Bool.and_eq_true,decide_eq_true_eq,hz];rfl));done))|(apply aI;(iterate 3 exact rfl);(intro _;(first|apply (yP p.dot p.at_)|apply (yP p.after p.afterAt))<;>first|assumption|omega);rotate_left;(iterate 2 exact rfl))))
def atP (l:List Pt) (k:Nm):Int:=match l.findIdx? (fun p=>decide (aO p=k)) with|some j=>((j:Nat):Int)|none=> -1
theorem pN (l:List Pt) (d:Dt) (n:Int) (hl:l.length<1000000000000):PF Tryz.prog 236 [.seq (l.map Pt.cells), .agg d.cells,(PV.val (Value.int .i64 (n)))] (PV.val (Value.int .i64 (atP l ⟨d,n⟩))):=by
  refine aH aD Tryz.func236 (by kernel_rfl) rfl rfl rfl rfl (fun st=> ?_)
  (try (apply wO pk;exact rfl));(repeat' ((show All _;constructor)))
  refine aJ (X:={x:Nat//x≤l.length∧∀j (h:j<x) (h2:j<l.length),decide (aO l[j]=⟨d,n⟩)=false}) (fun i=>(((((St.nil 31 st).pv 0 (.seq (l.map Pt.cells))).pv 2 ((PV.val (Value.int .i64 (n))))).var 4 138 (d.cells)).pv 7 ((PV.val (Value.int .i64 ((i.1:Nat))))))) (fun i=>l.length-i.1) ⟨0,by omega,by omega⟩ ?_ (fun i=> ?_)
  · ((repeat (first|refine Sub.pv ?_ rfl|refine Sub.var ?_ rfl rfl));exact Sub.nil _ _ _ (StSub.refl _) rfl)
  obtain ⟨i,hi,hinv⟩:=i
  dsimp only
  have hd:=fun h:i<l.length=>axD (l[i]'h) d n
  by_cases him:i<l.length
  · have hd:aO l[i]=⟨d,n⟩↔(l[i].dot.dev=d.dev∧l[i].dot.seq=d.seq)∧l[i].at_=n:=hd him
    (try (apply wO pk;exact rfl));(repeat' (first|(show All _;constructor)|(show Imp _ _;constructor)|(show ImpX _ _ _ _;constructor)|(apply wC pk;(iterate 2 exact rfl))|(apply wE pk;(iterate 2 exact rfl))|(apply wD pk [] [];kernel_rfl;exact rfl;exact rfl)|(refine aA rfl (fun h=> ?_) (fun h=> ?_)<;>(try simp at h)<;>try (exfalso;omega))|(refine aB ?_;refine ⟨_,_,_,rfl,Wk.refl _,StSub.refl _, ?_,rfl⟩;try first|rfl|((rw [atP,rI him (decide_eq_true (hd.2 (by grind))) hinv]);done))|(apply aM pk;(iterate 6 exact rfl);rotate_left;exact rfl;(intro hw;exact rfl);(intro hw;apply aF<;>omega);(intro _;exact rfl);exact rfl)|(refine ⟨⟨i+1,by omega,fun j h1 h2=>by rcases Nat.lt_succ_iff_lt_or_eq.1 h1 with q|q;exact hinv j q h2;subst q;rw [decide_eq_false_iff_not,hd];grind⟩, ?_,by simp only;omega⟩;((repeat (first|refine Sub.pv ?_ rfl|refine Sub.var ?_ rfl rfl));exact Sub.nil _ _ _ (StSub.refl _) rfl))|(intros;(try simp only [zql]);omega)))
  · (try (apply wO pk;exact rfl));(repeat' (first|(show All _;constructor)|(apply wC pk;(iterate 2 exact rfl))|(refine aA rfl (fun h=> ?_) (fun h=> ?_)<;>(try simp at h)<;>try (exfalso;omega))|(refine aB ?_;refine ⟨_,_,_,rfl,Wk.refl _,StSub.refl _, ?_,rfl⟩;try first|rfl|((rw [atP,uP (by omega) hinv]);done))))
end Go.Proofs.YtcglimangneafaaGreatDoor.T
namespace Go.Proofs.YtcglimangneafaaGreatDoor.T
open Go Go.Abs
attribute [local irreducible] Ev PWp
set_option maxRecDepth 10000
set_option maxHeartbeats 4000000
def aqU (l:List Pt) (i:Nat) (h:i<l.length):Prop:=
  bR l[i]=true∧atP l (aO l[i])=i∧(∀k (hk:k<i),(l[k]'(by omega)).dot=l[i].dot→(l[k]'(by omega)).time=l[i].time)∧
    (l[i].after=Dt.zero∨∃u,∃hu:u<l.length,l.findIdx? (fun p=>decide (aO p=aN l[i]))=some u∧dG l[u] l[i]=true)
theorem fA {l:List Pt} (hn:(l.map aO).Nodup) {i:Nat} (h:i<l.length):atP l (aO l[i])=i:=by
  have:l.findIdx? (fun p=>decide (aO p=aO l[i]))=some i:=rI h (by simp) fun j hj h2=>by
    rw [decide_eq_false_iff_not]
    intro e
    have:=(List.pairwise_iff_getElem.1 hn) j i (by simpa using h2) (by simpa using h) hj
    simp only [List.getElem_map] at this
    exact this e
  rw [atP,this]
theorem vT {p:Pt} (h:bR p=true):p.after=Dt.zero↔aN p=Nm.zero:=by
  have h1:aN p=Nm.zero∨vP (aN p)=true:=by
    simp only [bR,Bool.and_eq_true,Bool.or_eq_true,decide_eq_true_eq] at h;exact h.2
  constructor
  · intro e
    rcases h1 with h1|h1
    · exact h1
    · simp only [vP,eR,Bool.and_eq_true,decide_eq_true_eq] at h1
      have:=h1.1.1.1
      rw [show (aN p).dot=p.after from rfl,e] at this
      have h2:(1:Int)≤0:=this
      omega
  · intro e;exact congrArg Nm.dot e
theorem wR {l:List Pt}:Whole l↔∀i (h:i<l.length),aqU l i h:=by
  constructor
  · intro hW i h
    refine ⟨hW.formed _ (List.getElem_mem h),fA hW.nodup h,fun k hk e=>hW.times _ (List.getElem_mem _) _ (List.getElem_mem h) e, ?_⟩
    rcases hW.up _ (List.getElem_mem h) with e|⟨u,hu,e,ha⟩
    · exact .inl ((vT (hW.formed _ (List.getElem_mem h))).2 e)
    · right
      obtain ⟨j,hj,rfl⟩:=List.getElem_of_mem hu
      refine ⟨j,hj, ?_,ha⟩
      have:=fA hW.nodup hj
      rw [atP,e] at this
      split at this
      · rename_i j' hj';rw [hj'];congr 1;omega
      · omega
  · intro H
    have hnd:(l.map aO).Nodup:=by
      rw [List.Nodup,List.pairwise_iff_getElem]
      intro i j hi hj hij
      simp only [zql] at hi hj
      simp only [List.getElem_map]
      intro e
      have h1:=(H j hj).2.1
      rw [atP,←e] at h1
      split at h1
      · rename_i k hk
        have hk':k=j:=by omega
        subst hk'
        have:=(List.findIdx?_eq_some_iff_getElem.1 hk).2.2 i hij
        simp at this
      · omega
    refine ⟨⟨fun p hp=> ?_,hnd,fun p hp q hq e=> ?_⟩,fun p hp=> ?_⟩
    · obtain ⟨i,hi,rfl⟩:=List.getElem_of_mem hp;exact (H i hi).1
    · obtain ⟨i,hi,rfl⟩:=List.getElem_of_mem hp
      obtain ⟨j,hj,rfl⟩:=List.getElem_of_mem hq
      rcases Nat.lt_trichotomy i j with h|h|h
      · exact (H j hj).2.2.1 i h e
      · subst h;rfl
      · exact ((H i hi).2.2.1 j h e.symm).symm
    · obtain ⟨i,hi,rfl⟩:=List.getElem_of_mem hp
      rcases (H i hi).2.2.2 with e|⟨u,hu,h1,h2⟩
      · exact .inl ((vT (H i hi).1).1 e)
      · right
        obtain ⟨hu',h3,_⟩:=List.findIdx?_eq_some_iff_getElem.1 h1
        exact ⟨l[u],List.getElem_mem hu,by simpa using h3,h2⟩
theorem asD {l:List Pt} {i:Nat} (h:i<l.length) (hn:¬aqU l i h):dU l=false:=by
  rw [←Bool.not_eq_true,dK,wR];exact fun H=>hn (H i h)
theorem mZ (l:List Pt) (hl:l.length<1000000000000):PF Tryz.prog 207 [.seq (l.map Pt.cells)] (PV.val (Value.bool (dU l))):=by
  refine aH aD Tryz.func207 (by kernel_rfl) rfl rfl rfl rfl (fun st=> ?_)
  (try (apply wO pk;exact rfl));(repeat' ((show All _;constructor)))
  refine aJ (X:={x:Nat//x≤l.length∧∀j (h:j<x) (h2:j<l.length),aqU l j h2}) (fun i=>(((St.nil 122 st).pv 0 (.seq (l.map Pt.cells))).pv 3 ((PV.val (Value.int .i64 ((i.1:Nat))))))) (fun i=>l.length-i.1) ⟨0,by omega,by omega⟩ ?_ (fun i=> ?_)
  · ((repeat (refine Sub.pv ?_ rfl));exact Sub.nil _ _ _ (StSub.refl _) rfl)
  obtain ⟨i,hi,hinv⟩:=i
  dsimp only
  by_cases him:i<l.length
  · have hn:=fun h=>asD him h
    have hz:(l[i]'him).after=Dt.zero↔(l[i]'him).after.dev=0∧(l[i]'him).after.seq=0:=Dt.ext_iff _ _
    have hsucc:aqU l i him→∀j (h:j<i+1) (h2:j<l.length),aqU l j h2:=fun ho j h1 h2=>by
      rcases Nat.lt_succ_iff_lt_or_eq.1 h1 with q|q
      · exact hinv j q h2
      · subst q;exact ho
    have hat:=pN l (l[i]'him).dot (l[i]'him).at_ hl
    have hup:=pN l (l[i]'him).after (l[i]'him).afterAt hl
    (try (apply wO pk;exact rfl));(repeat' (first|(show All _;constructor)|(show Imp _ _;constructor)|(show ImpX _ _ _ _;constructor)|(apply wC pk;(iterate 2 exact rfl))|(apply wE pk;(iterate 2 exact rfl))|(apply wD pk [] [];kernel_rfl;exact rfl;exact rfl)|(refine aA rfl (fun h=> ?_) (fun h=> ?_)<;>(try simp at h)<;>try (exfalso;omega))|(refine aB ?_;refine ⟨_,_,_,rfl,Wk.refl _,StSub.refl _, ?_,rfl⟩;try first|rfl|(((rw [hn (fun q=>by have h1:=q.1;have h2:atP l ⟨l[i].dot,l[i].at_⟩=i:=q.2.1;grind)];done));done))|(apply aI;(iterate 3 exact rfl);(intro _;(first|apply (iE (l[i]'him))|apply hat)<;>first|assumption|omega);rotate_left;(iterate 2 exact rfl))|(apply aM pk;(iterate 6 exact rfl);rotate_left;exact rfl;(intro hw;exact rfl);(intro hw;apply aF<;>omega);(intro _;exact rfl);exact rfl)))
    have hf:bR (l[i]'him)=true∧atP l (aO (l[i]'him))=i:=h
    refine aJ (X:={k:Nat//k≤i∧∀m (hm:m<k) (hml:m<l.length),(l[m]'hml).dot=(l[i]'him).dot→(l[m]'hml).time=(l[i]'him).time}) (fun y=>((((St.nil 122 st).pv 0 (.seq (l.map Pt.cells))).pv 3 ((PV.val (Value.int .i64 ((i:Nat)))))).pv 5 ((PV.val (Value.int .i64 ((y.1:Nat))))))) (fun y=>i-y.1) ⟨0,by omega,by omega⟩ ?_ (fun y=> ?_)
    · ((repeat (refine Sub.pv ?_ rfl));exact Sub.nil _ _ _ (StSub.refl _) rfl)
    obtain ⟨k,hk,hkinv⟩:=y
    dsimp only
    have hkl:k<l.length∨¬k<i:=by omega
    by_cases hki:k<i
    · have hkl:k<l.length:=by omega
      have hd:=Dt.ext_iff (l[k]'hkl).dot (l[i]'him).dot
      (try (apply wO pk;exact rfl));(repeat' (first|(show All _;constructor)|(show Imp _ _;constructor)|(show ImpX _ _ _ _;constructor)|(apply wC pk;(iterate 2 exact rfl))|(apply wE pk;(iterate 2 exact rfl))|(apply wD pk [] [];kernel_rfl;exact rfl;exact rfl)|(refine aA rfl (fun h=> ?_) (fun h=> ?_)<;>(try simp at h)<;>try (exfalso;omega))|(refine aB ?_;refine ⟨_,_,_,rfl,Wk.refl _,StSub.refl _, ?_,rfl⟩;try first|rfl|(((rw [hn (fun q=>by have h1:=q.2.2.1 k hki;grind)];done));done))|(apply aM pk;(iterate 6 exact rfl);rotate_left;exact rfl;(intro hw;exact rfl);(intro hw;apply aF<;>omega);(intro _;exact rfl);exact rfl)|(refine ⟨⟨k+1,by omega,fun m h1 h2=>by rcases Nat.lt_succ_iff_lt_or_eq.1 h1 with q|q;exact hkinv m q h2;subst q;grind⟩, ?_,by simp only;omega⟩;((repeat (refine Sub.pv ?_ rfl));exact Sub.nil _ _ _ (StSub.refl _) rfl))|(intros;(try simp only [zql]);omega)))
    · have ht:∀m (hm:m<i),(l[m]'(by omega)).dot=(l[i]'him).dot→(l[m]'(by omega)).time=(l[i]'him).time:=fun m hm=>hkinv m (by omega) (by omega)
      cases hI:l.findIdx? (fun p=>decide (aO p=aN (l[i]'him))) with
      |none=>
        have e:atP l ⟨(l[i]'him).after,(l[i]'him).afterAt⟩= -1:=by rw [atP,show (⟨(l[i]'him).after,(l[i]'him).afterAt⟩:Nm)=aN (l[i]'him) from rfl,hI]
        rw [e] at hup
        (try (apply wO pk;exact rfl));(repeat' (first|(show All _;constructor)|(show Imp _ _;constructor)|(apply wC pk;(iterate 2 exact rfl))|(apply wE pk;(iterate 2 exact rfl))|(apply wD pk [] [];kernel_rfl;exact rfl;exact rfl)|(refine aA rfl (fun h=> ?_) (fun h=> ?_)<;>(try simp at h)<;>try (exfalso;omega))|(refine aB ?_;refine ⟨_,_,_,rfl,Wk.refl _,StSub.refl _, ?_,rfl⟩;try first|rfl|(((rw [hn (fun q=>by rcases q.2.2.2 with q|⟨u,hu,q,_⟩;(rw [hz] at q;grind);(rw [hI] at q;cases q))];done));done))|(apply aI;(iterate 3 exact rfl);(intro _;apply hup<;>first|assumption|omega);rotate_left;(iterate 2 exact rfl))|(apply aM pk;(iterate 6 exact rfl);rotate_left;exact rfl;(intro hw;exact rfl);(intro hw;apply aF<;>omega);(intro _;exact rfl);exact rfl)|(refine ⟨⟨i+1,by omega,hsucc ⟨hf.1,hf.2,ht, .inl (hz.2 (by grind))⟩⟩, ?_,by simp only;omega⟩;((repeat (refine Sub.pv ?_ rfl));exact Sub.nil _ _ _ (StSub.refl _) rfl))|(intros;(try simp only [zql]);omega)))
      |some u=>
        have e:atP l ⟨(l[i]'him).after,(l[i]'him).afterAt⟩=(u:Int):=by rw [atP,show (⟨(l[i]'him).after,(l[i]'him).afterAt⟩:Nm)=aN (l[i]'him) from rfl,hI]
        rw [e] at hup
        obtain ⟨hul,_,_⟩:=List.findIdx?_eq_some_iff_getElem.1 hI
        have hS:=Sp.ext_iff (bC (l[u]'hul)) (bC (l[i]'him))
        have ha:dG (l[u]'hul) (l[i]'him)=(iT (bC (l[u]'hul)) (bC (l[i]'him))||(decide (bC (l[u]'hul)=bC (l[i]'him))&&decide ((l[u]'hul).at_<(l[i]'him).at_))):=rfl
        (try (apply wO pk;exact rfl));(repeat' (first|(show All _;constructor)|(show Imp _ _;constructor)|(show ImpX _ _ _ _;constructor)|(apply wC pk;(iterate 2 exact rfl))|(apply wE pk;(iterate 2 exact rfl))|(apply wD pk [] [];kernel_rfl;exact rfl;exact rfl)|(refine aA rfl (fun h=> ?_) (fun h=> ?_)<;>(try simp at h)<;>try (exfalso;omega))|(refine aB ?_;refine ⟨_,_,_,rfl,Wk.refl _,StSub.refl _, ?_,rfl⟩;try first|rfl|(((rw [hn (fun q=>by rcases q.2.2.2 with q|⟨u',hu',q,q2⟩;(rw [hz] at q;grind);(rw [hI] at q;injection q with q;subst q;rw [ha] at q2;grind))];done));done))|(apply aI;(iterate 3 exact rfl);(intro _;(first|apply hup|apply (jO (l[u]'hul))|apply (jO (l[i]'him))|apply (kX (bC (l[u]'hul)) (bC (l[i]'him))))<;>first|assumption|omega);rotate_left;(iterate 2 exact rfl))|(apply aM pk;(iterate 6 exact rfl);rotate_left;exact rfl;(intro hw;exact rfl);(intro hw;apply aF<;>omega);(intro _;exact rfl);exact rfl)|((first|refine ⟨⟨i+1,by omega,hsucc ⟨hf.1,hf.2,ht, .inl (hz.2 (by grind))⟩⟩, ?_,by simp only;omega⟩|refine ⟨⟨i+1,by omega,hsucc ⟨hf.1,hf.2,ht, .inr ⟨u,hul,hI,by rw [ha];grind⟩⟩⟩, ?_,by simp only;omega⟩);((repeat (refine Sub.pv ?_ rfl));exact Sub.nil _ _ _ (StSub.refl _) rfl))|(intros;(try simp only [zql]);omega)))
  · (try (apply wO pk;exact rfl));(repeat' (first|(show All _;constructor)|(apply wC pk;(iterate 2 exact rfl))|(refine aA rfl (fun h=> ?_) (fun h=> ?_)<;>(try simp at h)<;>try (exfalso;omega))|(refine aB ?_;refine ⟨_,_,_,rfl,Wk.refl _,StSub.refl _, ?_,rfl⟩;try first|rfl|((rw [(dK l).2 (wR.2 fun j h=>hinv j (by omega) h)]);done))))
theorem Anc.pre {l:List Pt} {p:Pt} {s:List Pt} (h:Anc l p s):∀(c:Nat) (hc:c<s.length),Anc l s[c] (s.take (c+1)):=by
  induction h with
  |root hp h0=>
    intro c hc
    have:c=0:=by simpa using hc
    subst this;exact .root hp h0
  | @step p u r hp hu e h0 h ih=>
    intro c hc
    by_cases h1:c<r.length
    · have:=ih c h1
      rw [List.getElem_append_left h1,List.take_append_of_le_length (by omega)];exact this
    · have:c=r.length:=by simp at hc;omega
      subst this
      rw [List.take_of_length_le (by simp)]
      simp only [List.getElem_append_right (Nat.le_refl _),Nat.sub_self,List.getElem_singleton]
      exact .step hp hu e h0 h
theorem Anc.par {l:List Pt} {p:Pt} {s:List Pt} (h:Anc l p s):∀(c:Nat) (hc:c<s.length),(c=0→aN s[c]=Nm.zero)∧∀(h0:0<c),aN s[c]=aO (s[c-1]'(by omega))∧aN s[c]≠Nm.zero:=by
  intro c hc
  have hA:=h.pre c hc
  generalize he:s.take (c+1)=t at hA
  have hlen:t.length=c+1:=by rw [←he,List.length_take];omega
  have hq:s[c]=s[c]:=rfl
  cases hA with
  |root _ h0=>exact ⟨fun _=>h0,fun h1=>by simp at hlen;omega⟩
  | @step _ u r hp hu e h0 h'=>
    simp only [List.length_append,List.length_singleton] at hlen
    refine ⟨fun h1=> ?_,fun h1=>⟨?_,h0⟩⟩
    · subst h1
      obtain ⟨q,hq⟩:=h'.last
      rw [hq] at hlen;simp at hlen
    · rw [←e]
      obtain ⟨q,hq⟩:=h'.last
      have h2:r[c-1]?=some u:=by rw [hq,List.getElem?_append_right (by rw [hq] at hlen;simp at hlen;omega)];rw [hq] at hlen;simp at hlen;simp [show c-1-q.length=0 by omega]
      have h3:(s.take (c+1))[c-1]?=some u:=by rw [he,List.getElem?_append_left (by omega)];exact h2
      rw [List.getElem?_take,if_pos (by omega),List.getElem?_eq_getElem (by omega)] at h3
      injection h3 with h3
      rw [h3]
theorem aqI :∀{s t:List Pt} (c:Nat) (hs:c<s.length) (ht:c<t.length),s.take c=t.take c→s[c]≠t[c]→(fM s t↔dQ s[c] t[c])
  |[],_,_,hs,_,_,_=>by simp at hs
  |_::_,[],_,_,ht,_,_=>by simp at ht
  |a::s,b::t,0,_,_,_,h=>by
    simp only [List.getElem_cons_zero] at h⊢
    simp only [fM];constructor
    · rintro (⟨e,_⟩|e)
      · exact absurd e h
      · exact e
    · exact .inr
  |a::s,b::t,c+1,hs,ht,he,h=>by
    simp only [List.take_succ_cons,List.cons.injEq] at he
    simp only [List.getElem_cons_succ] at h⊢
    have:=aqI c (by simpa using hs) (by simpa using ht) he.2 h
    simp only [fM]
    rw [←this,he.1]
    constructor
    · rintro (⟨_,k⟩|k)
      · exact k
      · exact absurd k (rJ b)
    · exact fun k=> .inl ⟨rfl,k⟩
theorem ajI :∀{s t:List Pt},(∃m,s.take m=t.take m∧(m=s.length∧m≤t.length∨m=t.length∧m≤s.length))→(fM s t↔s.length<t.length)
  |[],[],_=>by simp [fM]
  |[],b::t,_=>by simp [fM]
  |a::s,[],_=>by simp [fM]
  |a::s,b::t,⟨m,he,hm⟩=>by
    cases m with
    |zero=>simp at hm
    |succ m=>
      simp only [List.take_succ_cons,List.cons.injEq] at he
      simp only [List.length_cons] at hm⊢
      have:=ajI (s:=s) (t:=t) ⟨m,he.2,by omega⟩
      simp only [fM,he.1]
      constructor
      · rintro (⟨_,k⟩|k)
        · have:=this.1 k;omega
        · exact absurd k (rJ b)
      · intro k;exact .inl ⟨trivial,this.2 (by omega)⟩
theorem adI {l:List Pt} (hn:(l.map aO).Nodup) {i j:Nat} (hi:i<l.length) (hj:j<l.length) (e:l[i]=l[j]):i=j:=by
  have h1:=fA hn hi
  have h2:=fA hn hj
  rw [e,h2] at h1
  omega
theorem Anc.len {l:List Pt} (hW:Whole l) {p:Pt} {s:List Pt} (h:Anc l p s):s.length≤(l.filter fun q=>dG q p).length+1:=by
  induction h with
  |root=>simp
  | @step p u r hp hu e h0 h ih=>
    rw [List.length_append,List.length_singleton]
    obtain ⟨v,hv,e2,ha⟩:=(hW.up p hp).resolve_left h0
    have:u=v:=hW.named u hu v hv (by rw [e,e2])
    subst this
    have:=nH (f:=fun q=>dG q u) (g:=fun q=>dG q p) (a:=u) hu ha (by rw [←Bool.not_eq_true,gD];omega) fun q _ hq=>by
      rw [gD] at ha hq⊢;omega
    omega
theorem Anc.le {l:List Pt} (hW:Whole l) {p:Pt} {s:List Pt} (h:Anc l p s):s.length≤l.length+1:=by
  have:=h.len hW
  have:=List.length_filter_le (fun q=>dG q p) l
  omega
theorem tJ {l:List Pt} (hW:Whole l) (hl:l.length<1000000000000) {i:Nat} (hi:i<l.length) {s:List Pt} (hs:Anc l (l[i]'hi) s):PF Tryz.prog 265 [.seq (l.map Pt.cells),(PV.val (Value.int .i64 ((i:Nat))))] (PV.val (Value.int .i64 ((s.length:Int)-1))):=by
  have hsl:=hs.le hW
  refine aH aD Tryz.func265 (by kernel_rfl) rfl rfl rfl rfl (fun st=> ?_)
  (try (apply wO pk;exact rfl));(repeat' ((show All _;constructor)))
  refine aJ (X:={x:Nat×List Pt×Nat//(∃h:x.1<l.length,Anc l l[x.1] x.2.1)∧x.2.1.length+x.2.2=s.length}) (fun i=>((((St.nil 28 st).pv 0 (.seq (l.map Pt.cells))).pv 1 ((PV.val (Value.int .i64 ((i.1.1:Nat)))))).pv 5 ((PV.val (Value.int .i64 ((i.1.2.2:Nat))))))) (fun i=>s.length-i.1.2.2) ⟨(i,s,0),⟨hi,hs⟩,by simp⟩ ?_ (fun i=> ?_)
  · ((repeat (refine Sub.pv ?_ rfl));exact Sub.nil _ _ _ (StSub.refl _) rfl)
  obtain ⟨⟨j,t,n⟩,⟨hj,hA⟩,hlen⟩:=i
  simp only at hj hA hlen
  dsimp only
  have hz:(l[j]'hj).after=Dt.zero↔(l[j]'hj).after.dev=0∧(l[j]'hj).after.seq=0:=Dt.ext_iff _ _
  have hr:=vT (hW.formed _ (List.getElem_mem hj))
  have hup:=pN l (l[j]'hj).after (l[j]'hj).afterAt hl
  generalize hq:l[j]'hj=q at hA
  cases hA with
  |root hp h0=>
    obtain ⟨h1,h2⟩:=hz.1 (hr.2 (by rw [hq];exact h0))
    simp only [List.length_singleton] at hlen
    have hlen2:(n:Int)=(s.length:Int)-1:=by omega
    (try (apply wO pk;exact rfl));(repeat' (first|(show All _;constructor)|(show Imp _ _;constructor)|(apply wC pk;(iterate 2 exact rfl))|(apply wE pk;(iterate 2 exact rfl))|(refine aA rfl (fun h=> ?_) (fun h=> ?_)<;>(try simp at h)<;>try (exfalso;omega))|(refine aB ?_;refine ⟨_,_,_,rfl,Wk.refl _,StSub.refl _, ?_,rfl⟩;try first|rfl|((rw [hlen2]);done))|(apply aM pk;(iterate 6 exact rfl);rotate_left;exact rfl;(intro hw;exact rfl);(intro hw;apply aF<;>omega);(intro _;exact rfl);exact rfl)))
  | @step _ u r hp hu e h0 h=>
    obtain ⟨k,hk,rfl⟩:=List.getElem_of_mem hu
    have hat:=fA hW.nodup hk
    have hne:(l[j]'hj).after.dev≠0∨(l[j]'hj).after.seq≠0:=by
      have:¬(l[j]'hj).after=Dt.zero:=by rw [hr,hq];exact h0
      rw [hz] at this
      omega
    rw [show (⟨(l[j]'hj).after,(l[j]'hj).afterAt⟩:Nm)=aN (l[j]'hj) from rfl,hq,←e,hat,←hq] at hup
    simp only [List.length_append,List.length_singleton] at hlen
    have hH:=h
    (try (apply wO pk;exact rfl));(repeat' (first|(show All _;constructor)|(show Imp _ _;constructor)|(apply wC pk;(iterate 2 exact rfl))|(apply wE pk;(iterate 2 exact rfl))|(apply wD pk [] [];kernel_rfl;exact rfl;exact rfl)|(refine aA rfl (fun h=> ?_) (fun h=> ?_)<;>(try simp at h)<;>try (exfalso;omega))|(apply aI;(iterate 3 exact rfl);(intro _;apply hup<;>first|assumption|omega);rotate_left;(iterate 2 exact rfl))|(apply aM pk;(iterate 6 exact rfl);rotate_left;exact rfl;(intro hw;exact rfl);(intro hw;apply aF<;>omega);(intro _;exact rfl);exact rfl)|(refine ⟨⟨(k,r,n+1),⟨hk,hH⟩,by simp only;omega⟩, ?_,by simp only;omega⟩;((repeat (refine Sub.pv ?_ rfl));exact Sub.nil _ _ _ (StSub.refl _) rfl))|(intros;(try simp only [zql]);omega)))
theorem atO {l:List Pt} (hW:Whole l) (hl:l.length<1000000000000) {i:Nat} (hi:i<l.length) {s:List Pt} (hs:Anc l (l[i]'hi) s) (m:Nat) (hm:m<s.length) (j:Nat) (hj:j<l.length) (e:s[s.length-1-m]'(by omega)=l[j]):PF Tryz.prog 266 [.seq (l.map Pt.cells),(PV.val (Value.int .i64 ((i:Nat)))),(PV.val (Value.int .i64 ((m:Nat))))] (PV.val (Value.int .i64 ((j:Nat)))):=by
  have hsl:=hs.le hW
  refine aH aD Tryz.func266 (by kernel_rfl) rfl rfl rfl rfl (fun st=> ?_)
  (try (apply wO pk;exact rfl));(repeat' ((show All _;constructor)))
  refine aJ (X:={x:Nat×Nat//(∃h:x.1<l.length,l[x.1]=s[s.length-1-x.2]'(by omega))∧x.2≤m}) (fun i=>(((((St.nil 26 st).pv 0 (.seq (l.map Pt.cells))).pv 1 ((PV.val (Value.int .i64 ((i.1.1:Nat)))))).pv 2 ((PV.val (Value.int .i64 ((m:Nat)))))).pv 7 ((PV.val (Value.int .i64 ((i.1.2:Nat))))))) (fun i=>m-i.1.2) ⟨(i,0),⟨hi,by obtain ⟨r,hr⟩:=hs.last;simp [hr]⟩,by simp⟩ ?_ (fun i=> ?_)
  · ((repeat (refine Sub.pv ?_ rfl));exact Sub.nil _ _ _ (StSub.refl _) rfl)
  obtain ⟨⟨k,n⟩,⟨hk,hA⟩,hn⟩:=i
  simp only at hk hA hn
  dsimp only
  have hup:=pN l (l[k]'hk).after (l[k]'hk).afterAt hl
  by_cases hnm:n<m
  · obtain ⟨h1,h2⟩:=(hs.par (s.length-1-n) (by omega)).2 (by omega)
    have hmem:=hs.all _ (List.getElem_mem (show s.length-1-n-1<s.length by omega))
    obtain ⟨k2,hk2,hk2e⟩:=List.getElem_of_mem hmem
    have hat:=fA hW.nodup hk2
    rw [show (⟨(l[k]'hk).after,(l[k]'hk).afterAt⟩:Nm)=aN (l[k]'hk) from rfl,hA,h1,←hk2e,hat] at hup
    rw [←hA] at hup
    (try (apply wO pk;exact rfl));(repeat' (first|(show All _;constructor)|(show Imp _ _;constructor)|(apply wC pk;(iterate 2 exact rfl))|(apply wE pk;(iterate 2 exact rfl))|(apply wD pk [] [];kernel_rfl;exact rfl;exact rfl)|(refine aA rfl (fun h=> ?_) (fun h=> ?_)<;>(try simp at h)<;>try (exfalso;omega))|(apply aI;(iterate 3 exact rfl);(intro _;apply hup<;>first|assumption|omega);rotate_left;(iterate 2 exact rfl))|(apply aM pk;(iterate 6 exact rfl);rotate_left;exact rfl;(intro hw;exact rfl);(intro hw;apply aF<;>omega);(intro _;exact rfl);exact rfl)|(refine ⟨⟨(k2,n+1),⟨hk2,by simp only [hk2e];congr 1⟩,by simp only;omega⟩, ?_,by simp only;omega⟩;((repeat (refine Sub.pv ?_ rfl));exact Sub.nil _ _ _ (StSub.refl _) rfl))|(intros;(try simp only [zql]);omega)))
  · have:n=m:=by omega
    subst this
    obtain rfl:k=j:=adI hW.nodup hk hj (by rw [hA,e])
    (try (apply wO pk;exact rfl));(repeat' (first|(show All _;constructor)|(apply wC pk;(iterate 2 exact rfl))|(refine aA rfl (fun h=> ?_) (fun h=> ?_)<;>(try simp at h)<;>try (exfalso;omega))|(refine aB ?_;refine ⟨_,_,_,rfl,Wk.refl _,StSub.refl _, ?_,rfl⟩;try rfl)))
end Go.Proofs.YtcglimangneafaaGreatDoor.T
