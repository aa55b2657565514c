import Derived.Test.YtcglimangneafaaGreatDoorCkMax
import Derived.Test.YtcglimangneafaaGreatDoorTzB
import Derived.Test.YtcglimangneafaaGreatDoorBsRSch
import Derived.Test.YtcglimangneafaaGreatDoorCkTot
import Derived.Test.YtcglimangneafaaGreatDoorXr
set_option linter.unusedSimpArgs false
set_option linter.unusedVariables false
namespace Go.Proofs.YtcglimangneafaaGreatDoor
open Go Go.Abs
attribute [local irreducible] Ev PWp
set_option maxRecDepth 10000
set_option maxHeartbeats 4000000
theorem BsS.dar {n:Nat} {b:Bs} (h:BsS n b) (hn:n≤1000):∀d∈b,axN d:=fun d hd=>by
  obtain ⟨h1,h2⟩:=h.2 d hd
  refine ⟨by omega,fun l hl=> ?_⟩
  obtain ⟨q1,q2,q3⟩:=h2 l hl
  exact ⟨⟨by omega,by omega⟩,fun c hc=>by have:=q3 c hc;omega⟩
theorem qR {n:Nat} {b:Bs} (h:BsS n b) (hn:n≤1000) {s:Sc} (hs:ScB s) (hl:s.length≤20):PF Tryz.prog 40 [.agg (scC s), .agg (bsC b)] (PV.val (Value.bool (eG T.rightP s b))):=
  adC s b (by omega) hs (by have:=h.1;omega) (h.dar hn)
theorem afP (c:Cl) (hl:c.parts.length<1000000000000):PF Tryz.prog 159 [.agg c.cells] (.agg (vA c).cells):=by
  rw [amG]
  refine aH aD Tryz.func159 (by kernel_rfl) rfl rfl rfl rfl (fun st=> ?_)
  focus ((try (apply wO pk;exact rfl));(repeat' ((show All _;constructor))))
  refine aJ (X:={x:Nat//x≤c.parts.length}) (fun i=>(((((St.nil 32 st).var 1 112 (c.cells)).var 2 47 ([(PV.val (Value.int .i64 (0))),(PV.val (Value.int .i64 (0))),(PV.val (Value.string (e0)))])).var 3 47 ((tQ c.parts i.1).cells)).pv 4 ((PV.val (Value.int .i64 ((i.1:Nat))))))) (fun i=>c.parts.length-i.1) ⟨0,by omega⟩ ?_ (fun i=> ?_)
  · ((repeat (first|refine Sub.pv ?_ rfl|refine Sub.var ?_ rfl rfl));exact Sub.nil _ _ _ (StSub.refl _) rfl)
  obtain ⟨i,hi⟩:=i
  dsimp only
  by_cases hend:c.parts.length≤i
  · obtain rfl:i=c.parts.length:=by omega
    (try (apply wO pk;exact rfl));(repeat' (first|(show All _;constructor)|(apply wC pk;(iterate 2 exact rfl))|(refine aA rfl (fun h=> ?_) (fun h=> ?_)<;>(try simp at h)<;>try (exfalso;omega))|(refine aB ?_;refine ⟨_,_,_,rfl,Wk.refl _,StSub.refl _, ?_,rfl⟩;try rfl)))
  have hil:i<c.parts.length:=by omega
  have hx:tQ c.parts (i+1)=if i=0∨cA (tQ c.parts i) c.parts[i].val=true then c.parts[i].val else tQ c.parts i:=by
    show (if _ then _ else _)=_
    rw [getElem!_pos c.parts i hil]
  have hle:=kX (tQ c.parts i) c.parts[i].val
  generalize tQ c.parts i=M at*
  generalize cA M c.parts[i].val=B at*
  by_cases h0:i=0
  · rw [if_pos (.inl h0)] at hx
    (try (apply wO pk;exact rfl));(repeat' (first|(show All _;constructor)|(show Imp _ _;constructor)|(show ImpX _ _ _ _;constructor)|(apply wC pk;(iterate 2 exact rfl))|(apply wE pk;(iterate 2 exact rfl))|(apply wD pk [] [];kernel_rfl;exact rfl;exact rfl)|(refine aA rfl (fun h=> ?_) (fun h=> ?_)<;>(try simp at h)<;>try (exfalso;omega))|(apply aI;(iterate 3 exact rfl);(intro _;apply hle<;>first|assumption|omega);rotate_left;(iterate 2 exact rfl))|(apply aM pk;(iterate 6 exact rfl);rotate_left;exact rfl;(intro hw;exact rfl);(intro hw;apply aF<;>omega);(intro _;exact rfl);exact rfl)|(refine ⟨⟨i+1,by omega⟩, ?_,by simp only;omega⟩;((dsimp only;rw [hx]));((repeat (first|refine Sub.pv ?_ rfl|refine Sub.var ?_ rfl rfl));exact Sub.nil _ _ _ (StSub.refl _) rfl))|(intros;(try simp only [zql]);omega)))
  cases B with
  |true=>
    rw [if_pos (.inr rfl)] at hx
    (try (apply wO pk;exact rfl));(repeat' (first|(show All _;constructor)|(show Imp _ _;constructor)|(show ImpX _ _ _ _;constructor)|(apply wC pk;(iterate 2 exact rfl))|(apply wE pk;(iterate 2 exact rfl))|(apply wD pk [] [];kernel_rfl;exact rfl;exact rfl)|(refine aA rfl (fun h=> ?_) (fun h=> ?_)<;>(try simp at h)<;>try (exfalso;omega))|(apply aI;(iterate 3 exact rfl);(intro _;apply hle<;>first|assumption|omega);rotate_left;(iterate 2 exact rfl))|(apply aM pk;(iterate 6 exact rfl);rotate_left;exact rfl;(intro hw;exact rfl);(intro hw;apply aF<;>omega);(intro _;exact rfl);exact rfl)|(refine ⟨⟨i+1,by omega⟩, ?_,by simp only;omega⟩;((dsimp only;rw [hx]));((repeat (first|refine Sub.pv ?_ rfl|refine Sub.var ?_ rfl rfl));exact Sub.nil _ _ _ (StSub.refl _) rfl))|(intros;(try simp only [zql]);omega)))
  |false=>
    rw [if_neg (by simp [h0])] at hx
    (try (apply wO pk;exact rfl));(repeat' (first|(show All _;constructor)|(show Imp _ _;constructor)|(show ImpX _ _ _ _;constructor)|(apply wC pk;(iterate 2 exact rfl))|(apply wE pk;(iterate 2 exact rfl))|(apply wD pk [] [];kernel_rfl;exact rfl;exact rfl)|(refine aA rfl (fun h=> ?_) (fun h=> ?_)<;>(try simp at h)<;>try (exfalso;omega))|(apply aI;(iterate 3 exact rfl);(intro _;apply hle<;>first|assumption|omega);rotate_left;(iterate 2 exact rfl))|(apply aM pk;(iterate 6 exact rfl);rotate_left;exact rfl;(intro hw;exact rfl);(intro hw;apply aF<;>omega);(intro _;exact rfl);exact rfl)|(refine ⟨⟨i+1,by omega⟩, ?_,by simp only;omega⟩;((dsimp only;rw [hx]));((repeat (first|refine Sub.pv ?_ rfl|refine Sub.var ?_ rfl rfl));exact Sub.nil _ _ _ (StSub.refl _) rfl))|(intros;(try simp only [zql]);omega)))
theorem aqK (c:Cl) (hl:c.parts.length<1000000000) (st:aL):PC Tryz.prog 211 [.agg c.cells] st fun r S=>∃id,r= .vec id 1 0 (tV (eO c).toArray)∧st id=none∧∃o,S=upd st id (some o):=by
  refine eH aD Tryz.func211 (by kernel_rfl) rfl rfl rfl rfl ?_
  focus ((try (apply wO pk;exact rfl));(repeat' ((show All _;constructor))))
  refine jH 3 3 1 rfl rfl rfl (fun id hid=> ?_)
  refine aJ (X:={x:Nat×List Int×Nat//Found (eO c).toArray c.parts.length x.1 x.2.1∧st x.2.2=none}) (fun i=>(((St.nil 59 (upd st i.1.2.2 (some (.arr 3 (i.1.2.1.map I1))))).var 1 112 (c.cells)).pv 3 (.vec i.1.2.2 1 0 i.1.2.1.length))) (fun i=>c.parts.length-i.1.1) ⟨(0,[],id),Found.zero,hid⟩ ?_ (fun i=> ?_)
  · dsimp only
    (((repeat (first|refine Sub.pv ?_ rfl|refine Sub.var ?_ rfl rfl));(exact Sub.nil _ _ _ (StSub.refl _) rfl)))
  obtain ⟨⟨p,out,id⟩,hF,hid⟩:=i
  simp only at hF hid
  dsimp only
  have hsh:=hF.short
  have hgo:=hF.go
  focus ((try (apply wO pk;exact rfl));(repeat' (first|(show All _;constructor)|(apply wC pk;(iterate 2 exact rfl))|(refine aA rfl (fun h=> ?_) (fun h=> ?_)<;>(try simp at h)<;>try (exfalso;omega)))))
  refine aJ (X:={x:Nat//x≤c.parts.length}) (fun y=>((((((St.nil 59 (upd st id (some (.arr 3 (out.map I1))))).var 1 112 (c.cells)).pv 3 (.vec id 1 0 out.length)).pv 4 ((PV.val (Value.bool ((mnI out c.parts y.1).1))))).pv 5 ((PV.val (Value.int .i64 ((mnI out c.parts y.1).2))))).pv 6 ((PV.val (Value.int .i64 ((y.1:Nat))))))) (fun y=>c.parts.length-y.1) ⟨0,by omega⟩ ?_ (fun y=> ?_)
  · dsimp only
    (((repeat (first|refine Sub.pv ?_ rfl|refine Sub.var ?_ rfl rfl));(exact Sub.nil _ _ _ (StSub.refl _) rfl)))
  obtain ⟨y,hy⟩:=y
  dsimp only
  by_cases hend:c.parts.length≤y
  · obtain rfl:y=c.parts.length:=by omega
    generalize mnI out c.parts c.parts.length=M at*
    obtain ⟨m,l⟩:=M
    dsimp only at*
    cases m with
    |false=>
      have e:=hgo.1 rfl
      (try (apply wO pk;exact rfl));(repeat' (first|(show All _;constructor)|(apply wC pk;(iterate 2 exact rfl))|(refine aA rfl (fun h=> ?_) (fun h=> ?_)<;>(try simp at h)<;>try (exfalso;omega))|((try refine aB ?_);((refine ⟨_,_,_,rfl,Wk.refl _,StSub.refl _, ?_⟩;(exact ⟨id,by rw [e],hid,_,rfl⟩);done)))))
    |true=>
      obtain ⟨q,hq,hFq⟩:=hgo.2 rfl
      have hle:=hF.le
      have hle2:=hFq.le
      have e:(out++[l]).length=out.length+1:=by simp
      (try (apply wO pk;exact rfl));(repeat' (first|(show All _;constructor)|(apply wC pk;(iterate 2 exact rfl))|(apply wE pk;(iterate 2 exact rfl))|(refine aA rfl (fun h=> ?_) (fun h=> ?_)<;>(try simp at h)<;>try (exfalso;omega))|(apply apV pk (f:=I1) [l] 8;(iterate 9 exact rfl);(exact aC _ _ _);(omega);exact fun _=>rfl;exact fun _=>rfl;exact mR;((focus (simp;omega)));((focus (simp;omega)));exact rfl;intro id' hid')|(refine ⟨⟨(q,out++[l],id'),hFq,gJ hid'⟩, ?_,by simp only;omega⟩;((dsimp only;try rw [e]));(((repeat (first|refine Sub.pv ?_ rfl|refine Sub.var ?_ rfl rfl));(exact Sub.nil _ _ _ (cE (by assumption)) rfl))))))
  have hyl:y<c.parts.length:=by omega
  have hx:mnI out c.parts (y+1)=if (oL out c.parts[y].val.n&&(!(mnI out c.parts y).1||decide (c.parts[y].val.n<(mnI out c.parts y).2)))=true then (true,c.parts[y].val.n) else mnI out c.parts y:=by
    show (if _ then _ else _)=_
    rw [getElem!_pos c.parts y hyl]
  unfold oL at hx
  generalize mnI out c.parts y=M at*
  obtain ⟨m,l⟩:=M
  dsimp only at hx
  clear hgo
  by_cases h0:out.length=0
  · simp only [h0,decide_true,Bool.true_or,Bool.true_and] at hx
    obtain rfl:out=[]:=List.eq_nil_of_length_eq_zero h0
    cases m with
    |false=>
      rw [if_pos (by simp)] at hx
      (try (apply wO pk;exact rfl));(repeat' (first|(show All _;constructor)|(show Imp _ _;constructor)|(show ImpX _ _ _ _;constructor)|(apply wC pk;(iterate 2 exact rfl))|(apply wE pk;(iterate 2 exact rfl))|(refine aA rfl (fun h=> ?_) (fun h=> ?_)<;>(try simp at h)<;>try (exfalso;omega))|(apply aM pk;(iterate 6 exact rfl);rotate_left;exact rfl;(intro hw;exact rfl);(intro hw;apply aF<;>omega);(intro _;exact rfl);exact rfl)|(apply ldA pk I1.elem;exact rfl;exact rfl;rotate_left;exact rfl;(exact aC _ _ _);(intro hw;((focus (simp [gw] at hw;done))));exact rfl)|(apply ixA pk (j:=0) (j':=0);(iterate 5 exact rfl);rotate_left;exact rfl;(intro hw;exact absurd hw (by simp [gw]));(intro hw;exact absurd hw (by simp [gw]));exact rfl;exact rfl)|(refine ⟨⟨y+1,by omega⟩, ?_,by simp only;omega⟩;((dsimp only;rw [hx]));(((repeat (first|refine Sub.pv ?_ rfl|refine Sub.var ?_ rfl rfl));(exact Sub.nil _ _ _ (StSub.refl _) rfl))))|(intros;(try simp only [zql]);omega)))
    |true=>
      by_cases h1:c.parts[y].val.n<l
      · rw [if_pos (by simp [h1])] at hx
        (try (apply wO pk;exact rfl));(repeat' (first|(show All _;constructor)|(show Imp _ _;constructor)|(show ImpX _ _ _ _;constructor)|(apply wC pk;(iterate 2 exact rfl))|(apply wE pk;(iterate 2 exact rfl))|(refine aA rfl (fun h=> ?_) (fun h=> ?_)<;>(try simp at h)<;>try (exfalso;omega))|(apply aM pk;(iterate 6 exact rfl);rotate_left;exact rfl;(intro hw;exact rfl);(intro hw;apply aF<;>omega);(intro _;exact rfl);exact rfl)|(apply ldA pk I1.elem;exact rfl;exact rfl;rotate_left;exact rfl;(exact aC _ _ _);(intro hw;((focus (simp [gw] at hw;done))));exact rfl)|(apply ixA pk (j:=0) (j':=0);(iterate 5 exact rfl);rotate_left;exact rfl;(intro hw;exact absurd hw (by simp [gw]));(intro hw;exact absurd hw (by simp [gw]));exact rfl;exact rfl)|(refine ⟨⟨y+1,by omega⟩, ?_,by simp only;omega⟩;((dsimp only;rw [hx]));(((repeat (first|refine Sub.pv ?_ rfl|refine Sub.var ?_ rfl rfl));(exact Sub.nil _ _ _ (StSub.refl _) rfl))))|(intros;(try simp only [zql]);omega)))
      · rw [if_neg (by simp [h1])] at hx
        (try (apply wO pk;exact rfl));(repeat' (first|(show All _;constructor)|(show Imp _ _;constructor)|(show ImpX _ _ _ _;constructor)|(apply wC pk;(iterate 2 exact rfl))|(apply wE pk;(iterate 2 exact rfl))|(refine aA rfl (fun h=> ?_) (fun h=> ?_)<;>(try simp at h)<;>try (exfalso;omega))|(apply aM pk;(iterate 6 exact rfl);rotate_left;exact rfl;(intro hw;exact rfl);(intro hw;apply aF<;>omega);(intro _;exact rfl);exact rfl)|(apply ldA pk I1.elem;exact rfl;exact rfl;rotate_left;exact rfl;(exact aC _ _ _);(intro hw;((focus (simp [gw] at hw;done))));exact rfl)|(apply ixA pk (j:=0) (j':=0);(iterate 5 exact rfl);rotate_left;exact rfl;(intro hw;exact absurd hw (by simp [gw]));(intro hw;exact absurd hw (by simp [gw]));exact rfl;exact rfl)|(refine ⟨⟨y+1,by omega⟩, ?_,by simp only;omega⟩;((dsimp only;rw [hx]));(((repeat (first|refine Sub.pv ?_ rfl|refine Sub.var ?_ rfl rfl));(exact Sub.nil _ _ _ (StSub.refl _) rfl))))|(intros;(try simp only [zql]);omega)))
  · have hlt:out.length-1<out.length:=by omega
    have hidx:((out.length:Nat):Int)-1=((out.length-1:Nat):Int):=by omega
    have hgd:out[out.length-1]?.getD 0=out[out.length-1]:=by rw [List.getElem?_eq_getElem hlt];rfl
    have hne:out≠[]:=fun q=>h0 (by rw [q];rfl)
    rw [decide_eq_false h0,Bool.false_or,getElem!_pos out (out.length-1) hlt] at hx
    by_cases h2:c.parts[y].val.n>out[out.length-1]
    · rw [decide_eq_true h2,Bool.true_and] at hx
      cases m with
      |false=>
        rw [if_pos (by simp)] at hx
        (try (apply wO pk;exact rfl));(repeat' (first|(show All _;constructor)|(show Imp _ _;constructor)|(show ImpX _ _ _ _;constructor)|(apply wC pk;(iterate 2 exact rfl))|(apply wE pk;(iterate 2 exact rfl))|(refine aA rfl (fun h=> ?_) (fun h=> ?_)<;>(try simp at h)<;>try (exfalso;omega))|(apply aM pk;(iterate 6 exact rfl);rotate_left;exact rfl;(intro hw;exact rfl);(intro hw;apply aF<;>omega);(intro _;exact rfl);exact rfl)|(apply ixA pk;(iterate 5 exact rfl);rotate_left;exact rfl;(intro hw;(exact (show _=((out.length-1:Nat):Int) from by omega)));(intro hw;(omega));exact rfl;(exact Nat.zero_add _))|(apply ldA pk I1.elem;exact rfl;exact rfl;rotate_left;exact rfl;(exact aC _ _ _);(intro hw;(omega));exact rfl)|(refine ⟨⟨y+1,by omega⟩, ?_,by simp only;omega⟩;((dsimp only;rw [hx]));(((repeat (first|refine Sub.pv ?_ rfl|refine Sub.var ?_ rfl rfl));(exact Sub.nil _ _ _ (StSub.refl _) rfl))))|(intros;(try simp only [zql]);omega)))
      |true=>
        by_cases h1:c.parts[y].val.n<l
        · rw [if_pos (by simp [h1])] at hx
          (try (apply wO pk;exact rfl));(repeat' (first|(show All _;constructor)|(show Imp _ _;constructor)|(show ImpX _ _ _ _;constructor)|(apply wC pk;(iterate 2 exact rfl))|(apply wE pk;(iterate 2 exact rfl))|(refine aA rfl (fun h=> ?_) (fun h=> ?_)<;>(try simp at h)<;>try (exfalso;omega))|(apply aM pk;(iterate 6 exact rfl);rotate_left;exact rfl;(intro hw;exact rfl);(intro hw;apply aF<;>omega);(intro _;exact rfl);exact rfl)|(apply ixA pk;(iterate 5 exact rfl);rotate_left;exact rfl;(intro hw;(exact (show _=((out.length-1:Nat):Int) from by omega)));(intro hw;(omega));exact rfl;(exact Nat.zero_add _))|(apply ldA pk I1.elem;exact rfl;exact rfl;rotate_left;exact rfl;(exact aC _ _ _);(intro hw;(omega));exact rfl)|(refine ⟨⟨y+1,by omega⟩, ?_,by simp only;omega⟩;((dsimp only;rw [hx]));(((repeat (first|refine Sub.pv ?_ rfl|refine Sub.var ?_ rfl rfl));(exact Sub.nil _ _ _ (StSub.refl _) rfl))))|(intros;(try simp only [zql]);omega)))
        · rw [if_neg (by simp [h1])] at hx
          (try (apply wO pk;exact rfl));(repeat' (first|(show All _;constructor)|(show Imp _ _;constructor)|(show ImpX _ _ _ _;constructor)|(apply wC pk;(iterate 2 exact rfl))|(apply wE pk;(iterate 2 exact rfl))|(refine aA rfl (fun h=> ?_) (fun h=> ?_)<;>(try simp at h)<;>try (exfalso;omega))|(apply aM pk;(iterate 6 exact rfl);rotate_left;exact rfl;(intro hw;exact rfl);(intro hw;apply aF<;>omega);(intro _;exact rfl);exact rfl)|(apply ixA pk;(iterate 5 exact rfl);rotate_left;exact rfl;(intro hw;(exact (show _=((out.length-1:Nat):Int) from by omega)));(intro hw;(omega));exact rfl;(exact Nat.zero_add _))|(apply ldA pk I1.elem;exact rfl;exact rfl;rotate_left;exact rfl;(exact aC _ _ _);(intro hw;(omega));exact rfl)|(refine ⟨⟨y+1,by omega⟩, ?_,by simp only;omega⟩;((dsimp only;rw [hx]));(((repeat (first|refine Sub.pv ?_ rfl|refine Sub.var ?_ rfl rfl));(exact Sub.nil _ _ _ (StSub.refl _) rfl))))|(intros;(try simp only [zql]);omega)))
    · rw [decide_eq_false h2,Bool.false_and,if_neg (by simp)] at hx
      (try (apply wO pk;exact rfl));(repeat' (first|(show All _;constructor)|(show Imp _ _;constructor)|(show ImpX _ _ _ _;constructor)|(apply wC pk;(iterate 2 exact rfl))|(apply wE pk;(iterate 2 exact rfl))|(refine aA rfl (fun h=> ?_) (fun h=> ?_)<;>(try simp at h)<;>try (exfalso;omega))|(apply aM pk;(iterate 6 exact rfl);rotate_left;exact rfl;(intro hw;exact rfl);(intro hw;apply aF<;>omega);(intro _;exact rfl);exact rfl)|(apply ixA pk;(iterate 5 exact rfl);rotate_left;exact rfl;(intro hw;(exact (show _=((out.length-1:Nat):Int) from by omega)));(intro hw;(omega));exact rfl;(exact Nat.zero_add _))|(apply ldA pk I1.elem;exact rfl;exact rfl;rotate_left;exact rfl;(exact aC _ _ _);(intro hw;(omega));exact rfl)|(refine ⟨⟨y+1,by omega⟩, ?_,by simp only;omega⟩;((dsimp only;rw [hx]));(((repeat (first|refine Sub.pv ?_ rfl|refine Sub.var ?_ rfl rfl));(exact Sub.nil _ _ _ (StSub.refl _) rfl))))|(intros;(try simp only [zql]);omega)|((exfalso;rcases h.1 with q|q;exact hne q;rw [hgd] at q;omega))))
theorem acP (c:Cl) (hl:c.parts.length<1000000000):PF Tryz.prog 161 [.agg c.cells] (.agg (abX c).cells):=by
  intro st
  have hn:=aqK c hl st
  refine eH aD Tryz.func161 (by kernel_rfl) rfl rfl rfl rfl ?_
  (try (apply wO pk;exact rfl));(repeat' (first|((refine aB ?_;exact ⟨_,_,st,rfl,Wk.refl _,eK (StSub.refl _) hid,rfl,rfl⟩))|(show All _;constructor)|(apply wE pk;(iterate 2 exact rfl))|(apply iS;exact rfl;exact rfl;(apply hn<;>first|exact aC _ _ _|assumption|omega|(fail));(iterate 3 exact rfl);intro _ st' hR;obtain ⟨id,rfl,hid,o,rfl⟩:=hR)))
theorem abE (c:Cl) (hl:c.parts.length≤1000):PF Tryz.prog 113 [.agg c.cells] (.agg (aZ c).cells):=by
  have h1:=afP c (by omega)
  have h2:=aeU c
  have h3:=acP c (by omega)
  have h4:=T.rshow_spec c (by omega)
  unfold aZ
  generalize vA c=A at*
  generalize vX c=B at*
  generalize abX c=C at*
  generalize T.showP c=D at*
  refine aH aD Tryz.func113 (by kernel_rfl) rfl rfl rfl rfl (fun st=> ?_)
  (try (apply wO pk;exact rfl));(repeat' (first|(show All _;constructor)|(show Imp _ _;constructor)|(apply wC pk;(iterate 2 exact rfl))|(apply wE pk;(iterate 2 exact rfl))|(refine aA rfl (fun h=> ?_) (fun h=> ?_)<;>(try simp at h)<;>try (exfalso;omega))|(refine aB ?_;refine ⟨_,_,_,rfl,Wk.refl _,StSub.refl _, ?_,rfl⟩;try first|rfl|(((repeat first|rw [if_pos (by assumption)]|rw [if_neg (by assumption)]);exact rfl);done))|(apply aI;(iterate 3 exact rfl);(intro _;(first|apply h1|apply h2|apply h3|apply h4)<;>first|assumption|omega);rotate_left;(iterate 2 exact rfl))))
theorem auV (l:Ln) (hl:l.cells_.length<1000000000000) (hs:∀c∈l.cells_,c.parts.length≤1000) (st:aL):PC Tryz.prog 70 [.agg l.cells] st fun r S=>∃id,r= .vec id 3 0 l.cells_.length∧st id=none∧S=upd st id (some (.arr 47 ((l.cells_.map aZ).map Vl.cells))):=by
  refine eH aD Tryz.func70 (by kernel_rfl) rfl rfl rfl rfl ?_
  (try (apply wO pk;exact rfl));(repeat' ((show All _;constructor)))
  refine jH 3 47 3 rfl rfl rfl (fun id hid=> ?_)
  refine aJ (X:={x:Nat×Nat//x.1≤l.cells_.length∧st x.2=none}) (fun i=>((((St.nil 22 (upd st i.1.2 (some (.arr 47 (((l.cells_.map aZ).take i.1.1).map Vl.cells))))).var 1 53 (l.cells)).pv 3 (.vec i.1.2 3 0 i.1.1)).pv 4 ((PV.val (Value.int .i64 ((i.1.1:Nat))))))) (fun i=>l.cells_.length-i.1.1) ⟨(0,id),by simp,hid⟩ ?_ (fun i=> ?_)
  · dsimp only
    (((repeat (first|refine Sub.pv ?_ rfl|refine Sub.var ?_ rfl rfl));(exact Sub.nil _ _ _ (StSub.refl _) rfl)))
  obtain ⟨⟨i,id⟩,hi,hid⟩:=i
  simp only at hi hid
  dsimp only
  by_cases hend:l.cells_.length≤i
  · have e:(l.cells_.map aZ).take i=l.cells_.map aZ:=List.take_of_length_le (by simp;omega)
    obtain rfl:i=l.cells_.length:=by omega
    (try (apply wO pk;exact rfl));(repeat' (first|(show All _;constructor)|(apply wC pk;(iterate 2 exact rfl))|(refine aA rfl (fun h=> ?_) (fun h=> ?_)<;>(try simp at h)<;>try (exfalso;omega))|((try refine aB ?_);((refine ⟨_,_,_,rfl,Wk.refl _,StSub.refl _, ?_⟩;(exact ⟨id,rfl,hid,by rw [e];rfl⟩);done)))))
  have h1:i<l.cells_.length:=by omega
  have hc:=abE l.cells_[i] (hs _ (List.getElem_mem h1))
  have e:(l.cells_.map aZ).take (i+1)=(l.cells_.map aZ).take i++[aZ l.cells_[i]]:=by rw [List.take_succ_eq_append_getElem (by simpa using h1)];simp
  generalize aZ l.cells_[i]=V at*
  (try (apply wO pk;exact rfl));(repeat' (first|(show All _;constructor)|(show Imp _ _;constructor)|(apply wC pk;(iterate 2 exact rfl))|(apply wE pk;(iterate 2 exact rfl))|(refine aA rfl (fun h=> ?_) (fun h=> ?_)<;>(try simp at h)<;>try (exfalso;omega))|(apply aI;(iterate 3 exact rfl);(intro _;apply hc<;>first|assumption|omega);rotate_left;(iterate 2 exact rfl))|(apply aM pk;(iterate 6 exact rfl);rotate_left;exact rfl;(intro hw;exact rfl);(intro hw;apply aF<;>omega);(intro _;exact rfl);exact rfl)|(apply apV pk (f:=Vl.cells) [V] 32;(iterate 9 exact rfl);(exact aC _ _ _);((focus (simp;omega)));exact fun _=>rfl;exact fun _=>rfl;exact abU;((focus (simp;omega)));((focus (simp;omega)));exact rfl;intro id' hid')|(refine ⟨⟨(i+1,id'),by simp only;omega,gJ hid'⟩, ?_,by simp only;omega⟩;((dsimp only;try rw [e]));(((repeat (first|refine Sub.pv ?_ rfl|refine Sub.var ?_ rfl rfl));(exact Sub.nil _ _ _ (cE (by assumption)) rfl))))|(intros;(try simp only [zql]);omega)))
theorem afM (l:Ln) (hl:l.cells_.length<1000000000000) (hs:∀c∈l.cells_,c.parts.length≤1000):PF Tryz.prog 70 [.agg l.cells] (.seq ((l.cells_.map aZ).map Vl.cells)):=fun st=>
  wG (sz:=3) (auV l hl hs st) fun p st' h=>by
    obtain ⟨id,rfl,h3,rfl⟩:=h
    exact .inl ⟨id,47,(l.cells_.map aZ).map Vl.cells,_,st,aC _ _ _,nP,uC (by simp),kE h3,rfl,rfl⟩
theorem aoI (b:Bs) (k:Int) (hl:(aV b k).length<1000000000000) (hs:∀l∈aV b k,l.cells_.length<1000000000000∧∀c∈l.cells_,c.parts.length≤1000) (st:aL):PC Tryz.prog 41 [.agg (bsC b),(PV.val (Value.int .i64 (k)))] st fun r S=>∃id,r= .vec id 1 0 (aV b k).length∧st id=none∧S=upd st id (some (.arr 45 ((bQ aZ b k).map roC))):=by
  have ho:=xC b k
  unfold bQ
  generalize aV b k=L at*
  refine eH aD Tryz.func41 (by kernel_rfl) rfl rfl rfl rfl ?_
  focus ((try (apply wO pk;exact rfl));(repeat' (first|(show All _;constructor)|(show Imp _ _;constructor)|(apply wE pk;(iterate 2 exact rfl))|(apply aI;(iterate 3 exact rfl);(intro _;apply ho<;>first|assumption|omega);rotate_left;(iterate 2 exact rfl)))))
  refine jH 5 45 1 rfl rfl rfl (fun id hid=> ?_)
  refine aJ (X:={x:Nat×Nat//x.1≤L.length∧st x.2=none}) (fun i=>((((St.nil 26 (upd st i.1.2 (some (.arr 45 (((L.map (abQ aZ)).take i.1.1).map roC))))).pv 5 (.vec i.1.2 1 0 i.1.1)).pv 6 (.seq (L.map Ln.cells))).pv 7 ((PV.val (Value.int .i64 ((i.1.1:Nat))))))) (fun i=>L.length-i.1.1) ⟨(0,id),by simp,hid⟩ ?_ (fun i=> ?_)
  · dsimp only
    (((repeat (refine Sub.pv ?_ rfl));(exact Sub.nil _ _ _ (StSub.refl _) rfl)))
  obtain ⟨⟨i,id⟩,hi,hid⟩:=i
  simp only at hi hid
  dsimp only
  by_cases hend:L.length≤i
  · have e:(L.map (abQ aZ)).take i=L.map (abQ aZ):=List.take_of_length_le (by simp;omega)
    obtain rfl:i=L.length:=by omega
    (try (apply wO pk;exact rfl));(repeat' (first|(show All _;constructor)|(apply wC pk;(iterate 2 exact rfl))|(refine aA rfl (fun h=> ?_) (fun h=> ?_)<;>(try simp at h)<;>try (exfalso;omega))|((try refine aB ?_);((refine ⟨_,_,_,rfl,Wk.refl _,StSub.refl _, ?_⟩;(exact ⟨id,rfl,hid,by rw [e];rfl⟩);done)))))
  have h1:i<L.length:=by omega
  have hc:=afM L[i] (hs _ (List.getElem_mem h1)).1 (hs _ (List.getElem_mem h1)).2
  have e:(L.map (abQ aZ)).take (i+1)=(L.map (abQ aZ)).take i++[L[i].cells_.map aZ]:=by rw [List.take_succ_eq_append_getElem (by simpa using h1)];simp [abQ]
  (try (apply wO pk;exact rfl));(repeat' (first|(show All _;constructor)|(show Imp _ _;constructor)|(apply wC pk;(iterate 2 exact rfl))|(apply wE pk;(iterate 2 exact rfl))|(refine aA rfl (fun h=> ?_) (fun h=> ?_)<;>(try simp at h)<;>try (exfalso;omega))|(apply aI;(iterate 3 exact rfl);(intro _;apply hc<;>first|assumption|omega);rotate_left;(iterate 2 exact rfl))|(apply aM pk;(iterate 6 exact rfl);rotate_left;exact rfl;(intro hw;exact rfl);(intro hw;apply aF<;>omega);(intro _;exact rfl);exact rfl)|(apply apV pk (f:=roC) [L[i].cells_.map aZ] 24;(iterate 9 exact rfl);(exact aC _ _ _);((focus (simp;omega)));exact fun _=>rfl;exact fun _=>rfl;exact ajG;((focus (simp;omega)));((focus (simp;omega)));exact rfl;intro id' hid')|(refine ⟨⟨(i+1,id'),by simp only;omega,gJ hid'⟩, ?_,by simp only;omega⟩;((dsimp only;try rw [e]));(((repeat (refine Sub.pv ?_ rfl));(exact Sub.nil _ _ _ (cE (by assumption)) rfl))))|(intros;(try simp only [zql]);omega)))
theorem oC {n:Nat} {b:Bs} (hb:BsS n b) (hn:n≤1000) (k:Int):PF Tryz.prog 41 [.agg (bsC b),(PV.val (Value.int .i64 (k)))] (.seq ((bQ aZ b k).map roC)):=fun st=>
  wG (sz:=1) (aoI b k (by have:=(hb.lines k).1;omega) (fun l hl=>by
    have:=(hb.lines k).2 l hl
    exact ⟨by have:=this.2.1;omega,this.2.2⟩) st) fun p st' h=>by
    obtain ⟨id,rfl,h3,rfl⟩:=h
    exact .inl ⟨id,45,(bQ aZ b k).map roC,_,st,aC _ _ _,acD,uC (by simp [bQ]),kE h3,rfl,rfl⟩
end Go.Proofs.YtcglimangneafaaGreatDoor
namespace Go.Proofs.YtcglimangneafaaGreatDoor
open Go Go.Abs
theorem avG {u k:Nat} {rows:List (List Vl)} (h:k<rows.length) (hp:pwU u (rows.take k)) (hn:∀n (_:n<k),¬(rows[k][u]!.kind=1∧(rows[n]'(by omega))[u]!.kind=1∧rows[k][u]!.n=(rows[n]'(by omega))[u]!.n)):pwU u (rows.take (k+1)):=(asE h).2 ⟨hp,fun hk=>by
  rw [List.any_eq_false]
  intro x hx q
  obtain ⟨n,hn',rfl⟩:=List.getElem_of_mem hx
  rw [List.length_take] at hn'
  simp only [List.getElem_take,Bool.and_eq_true,decide_eq_true_eq] at q
  exact hn n (by omega) ⟨hk,q.1,q.2.symm⟩⟩
theorem azH {u k n:Nat} {rows:List (List Vl)} (h:k<rows.length) (hn:n<k) (e1:rows[k][u]!.kind=1) (e2:(rows[n]'(by omega))[u]!.kind=1) (e3:rows[k][u]!.n=(rows[n]'(by omega))[u]!.n):¬pwU u (rows.take (k+1)):=fun q=>by
  have:=((asE h).1 q).2 e1
  rw [List.any_eq_false] at this
  refine this (rows[n]'(by omega)) ?_ (by rw [Bool.and_eq_true,decide_eq_true_eq,decide_eq_true_eq];exact ⟨e2,e3.symm⟩)
  exact List.mem_iff_getElem.2 ⟨n,by simp;omega,by simp⟩
theorem avY {m:Su} {g:Int} {rows:List (List Vl)} {i:Nat} (h:i<rows.length):dI m g (rows.take (i+1))=dI m g (rows.take i)+tP m g rows[i]:=by
  unfold dI
  rw [List.take_succ_eq_append_getElem h,List.map_append,List.sum_append];simp
theorem aqH {l:List Ln} {k:Int} {n:Nat} (h:n<l.length) (e:l[n].key=k):(dH l k).isSome=true:=by
  unfold dH
  rw [List.find?_isSome]
  exact ⟨_,List.getElem_mem h,by simpa using e⟩
theorem avO {l:List Ln} {k:Int} (hn:∀n (h:n<l.length),l[n].key≠k):(dH l k).isSome=false:=by
  rw [←Bool.not_eq_true]
  unfold dH
  rw [List.find?_isSome]
  rintro ⟨x,hx,q⟩
  obtain ⟨n,hn',rfl⟩:=List.getElem_of_mem hx
  exact hn n hn' (by simpa using q)
theorem acA {t:Tb} {r:List Vl} (h:dE t r=0):∀v∈r,X.rightV v=true:=fun v hv=>by
  obtain ⟨j,hj,rfl⟩:=List.getElem_of_mem hv
  unfold dE at h
  split at h
  · have:=iM.1 h j (List.mem_range.2 hj)
    rw [getElem!_pos r j hj] at this
    unfold lW at this
    split at this
    · cases this
    · rename_i q
      have q:eD r[j]=true:=by simpa using q
      exact q
  · cases h
theorem amC {v:Vl} {e:Int} (hv:X.rightV v=true):chE (v,e)=if e=0 then (if v.kind=1∧v.n=0 then 9 else 0) else e:=by
  unfold chE
  by_cases he:e=0
  · rw [if_pos he,if_pos he]
    by_cases h:v.kind=1∧v.n=0
    · rw [if_pos h,if_pos]
      rcases X.right_cases hv with ⟨h1,_,_⟩|⟨h1,h2,_⟩|⟨h1,_⟩
      · omega
      · show v=_
        rw [Vl.ext_iff]
        exact ⟨h.1,h.2,h2⟩
      · omega
    · rw [if_neg h,if_neg]
      rintro (q:v=_)
      rw [q] at h
      exact h ⟨rfl,rfl⟩
  · rw [if_neg he,if_neg he]
end Go.Proofs.YtcglimangneafaaGreatDoor
