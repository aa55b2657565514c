import Derived.Test.YtkaliolnijkadaaGreatDoorBsRLine
set_option linter.unusedSimpArgs false
set_option linter.unusedVariables false
namespace Go.Proofs.YtkaliolnijkadaaGreatDoor
open Go Go.Abs
attribute [local irreducible] Ev PWp
set_option maxRecDepth 10000
set_option maxHeartbeats 4000000
theorem BsS.dar {n:Nat} {b:Bs} (h:BsS n b) (hn:n≤1000):∀d∈b,akE d:=fun d hd=>by
  obtain ⟨h1,h2⟩:=h.2 d hd
  refine ⟨by omega,fun l hl=> ?_⟩
  obtain ⟨q1,q2,q3⟩:=h2 l hl
  exact ⟨⟨by omega,by omega⟩,fun c hc=>by have:=q3 c hc;omega⟩
theorem mP {n:Nat} {b:Bs} (h:BsS n b) (hn:n≤1000) {s:Sc} (hs:ScB s) (hl:s.length≤20):PF Tryz.prog 13 [.agg (scC s), .agg (bsC b)] (PV.val (Value.bool (gD T.rightP s b))):=
  xG s b (by omega) hs (by have:=h.1;omega) (h.dar hn)
theorem tH (s:Sc) (b:Bs) (hs:ScB s) (hb:BsB b):PF Tryz.prog 3 [.agg (scC s), .agg (bsC b)] (PV.val (Value.bool (true))):=by
  have hA:=zL
  have hf:=afS b hb.1 hb.2
  cases g1:tO b with
  |false=>
    rw [g1] at hf
    refine aJ aG Tryz.func3 (by kernel_rfl) rfl rfl rfl rfl (fun st=> ?_)
    (try (apply wO pk;exact rfl));(repeat' (first|(show All _;constructor)|(show Imp _ _;constructor)|(show ImpX _ _ _ _;constructor)|(apply wC pk;(iterate 2 exact rfl))|(apply wE pk;(iterate 2 exact rfl))|(apply wX pk;exact rfl)|(apply wN pk;exact rfl)|(apply wD pk [] [];kernel_rfl;exact rfl;exact rfl)|(apply aB;simp only [cond_true,cond_false])|(refine aC rfl (fun h=> ?_) (fun h=> ?_)<;>(try simp at h)<;>try (exfalso;omega))|(refine aF ?_;refine ⟨_,_,_,rfl,Wk.refl _,StSub.refl _, ?_,rfl⟩;try rfl)|(apply aL;(iterate 3 exact rfl);(intro _;(first|apply hA|apply hf|apply (noB (by rename_i hh;exact hh)))<;>first|assumption|omega);rotate_left;(iterate 2 exact rfl))|(intros;(try simp only [List.length_map]);omega)))
  |true=>
  rw [g1] at hf
  by_cases g3:¬s.length≤20
  · refine aJ aG Tryz.func3 (by kernel_rfl) rfl rfl rfl rfl (fun st=> ?_)
    (try (apply wO pk;exact rfl));(repeat' (first|(show All _;constructor)|(show Imp _ _;constructor)|(show ImpX _ _ _ _;constructor)|(apply wC pk;(iterate 2 exact rfl))|(apply wE pk;(iterate 2 exact rfl))|(apply wX pk;exact rfl)|(apply wN pk;exact rfl)|(apply wD pk [] [];kernel_rfl;exact rfl;exact rfl)|(apply aB;simp only [cond_true,cond_false])|(refine aC rfl (fun h=> ?_) (fun h=> ?_)<;>(try simp at h)<;>try (exfalso;omega))|(refine aF ?_;refine ⟨_,_,_,rfl,Wk.refl _,StSub.refl _, ?_,rfl⟩;try rfl)|(apply aL;(iterate 3 exact rfl);(intro _;(first|apply hA|apply hf)<;>first|assumption|omega);rotate_left;(iterate 2 exact rfl))|(intros;(try simp only [List.length_map]);omega)|((exfalso;simp at*;omega))))
  replace g3:=Decidable.of_not_not g3
  have hB:=amA g1
  have hN:=BsS.new (s:=s) g3
  have r1:=oG hB (by omega) hs g3
  have r2:=mP hB (by omega) hs g3
  have r3:=oG hN (by omega) hs g3
  have r4:=mP hN (by omega) hs g3
  have n1:=uR s (by omega)
  have n2:=abW s (by omega)
  have s1:=xY hN (by omega) (abN s)
  rw [decide_eq_true rfl] at s1
  generalize gD T.rightP s b=A at*
  generalize gD T.rightP s (abN s)=B at*
  refine aJ aG Tryz.func3 (by kernel_rfl) rfl rfl rfl rfl (fun st=> ?_)
  (try (apply wO pk;exact rfl));(repeat' (first|(show All _;constructor)|(show Imp _ _;constructor)|(show ImpX _ _ _ _;constructor)|(apply wC pk;(iterate 2 exact rfl))|(apply wE pk;(iterate 2 exact rfl))|(apply wX pk;exact rfl)|(apply wN pk;exact rfl)|(apply wD pk [] [];kernel_rfl;exact rfl;exact rfl)|(apply aB;simp only [cond_true,cond_false])|(refine aC rfl (fun h=> ?_) (fun h=> ?_)<;>(try simp at h)<;>try (exfalso;omega))|(refine aF ?_;refine ⟨_,_,_,rfl,Wk.refl _,StSub.refl _, ?_,rfl⟩;try first|rfl|((simp;done);done))|(apply aL;(iterate 3 exact rfl);(intro _;(first|apply hA|apply hf|apply r1|apply r2|apply r3|apply r4|apply n1|apply n2|apply s1)<;>first|assumption|omega);rotate_left;(iterate 2 exact rfl))|(intros;(try simp only [List.length_map]);omega)|((exfalso;simp at*;omega))))
end Go.Proofs.YtkaliolnijkadaaGreatDoor
