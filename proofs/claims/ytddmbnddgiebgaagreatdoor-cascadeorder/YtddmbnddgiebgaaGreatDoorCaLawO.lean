import Derived.Test.YtddmbnddgiebgaaGreatDoorCaLawD
set_option linter.unusedSimpArgs false
set_option linter.unusedVariables false
namespace Go.Proofs.YtddmbnddgiebgaaGreatDoor
open Go Go.Abs
attribute [local irreducible] Ev PWp
set_option maxRecDepth 10000
set_option maxHeartbeats 4000000
theorem yT (s:Sc) (b:Bs) (z:(Int×Int)×(Int×Int)) (who:Dt) (hs:ScB s) (hb:BsB b) (hsl:s.length<200000000000000):PF Tryz.prog 8 [.agg (scC s), .agg (bsC b), .agg [(PV.val (Value.int .i64 (z.1.1))),(PV.val (Value.int .i64 (z.1.2))),(PV.val (Value.int .i64 (z.2.1))),(PV.val (Value.int .i64 (z.2.2)))], .agg who.cells] (PV.val (Value.bool (true))):=by
  have hA:=fC
  have hf:=iZ s b hb
  have hr:=qC s hsl hs
  obtain ⟨⟨z0,z1⟩,z2,z3⟩:=z
  dsimp only
  cases g:kK b&&decide ((s.length:Int)≤20) with
  |false=>
    rw [g] at hf
    generalize dP s=R at*
    refine aL aH Tryz.func8 (by kernel_rfl) rfl rfl rfl rfl (fun st=> ?_)
    (try (apply wO pk;exact rfl));(repeat' (first|(show All _;constructor)|(show Imp _ _;constructor)|(show ImpX _ _ _ _;constructor)|(apply wC pk;(iterate 2 exact rfl))|(apply wE pk;(iterate 2 exact rfl))|(apply wX pk;exact rfl)|(apply wN pk;exact rfl)|(apply wD pk [] [];kernel_rfl;exact rfl;exact rfl)|(apply aC;simp only [zqt,zqf])|(refine aD rfl (fun h=> ?_) (fun h=> ?_)<;>(try simp at h)<;>try (exfalso;omega))|(refine aF ?_;refine ⟨_,_,_,rfl,Wk.refl _,StSub.refl _, ?_,rfl⟩;try rfl)|(apply aK;(iterate 3 exact rfl);(intro _;(first|apply hA|apply hf|apply hr)<;>first|assumption|omega);rotate_left;(iterate 2 exact rfl))|(intros;(try simp only [zql]);omega)|((exfalso;simp_all;done))))
  |true=>
    rw [g] at hf
    obtain ⟨hB,hl⟩:=yR g
    have d0:=fR hB hs hl (z0,z1) who
    have d1:=fR hB hs hl (z2,z3) who
    have hX:=tK (rb:=bK T.rightP s b) (s:=s) (z:=(z0,z1)) (who:=who) (M:=bS s b (z0,z1)) hB (by omega)
    have hY:=tK (rb:=bK T.rightP s b) (s:=s) (z:=(z2,z3)) (who:=who) (M:=bS s b (z2,z3)) hB (by omega)
    have d2:=fR hX hs hl (z2,z3) who
    have d3:=fR hY hs hl (z0,z1) who
    have hX2:=tK (rb:=bK T.rightP s (dQ (bK T.rightP s b) s b (z0,z1) who (bS s b (z0,z1))).1) (s:=s) (z:=(z2,z3)) (who:=who) (M:=bS s (dQ (bK T.rightP s b) s b (z0,z1) who (bS s b (z0,z1))).1 (z2,z3)) hX (by omega)
    have hlaw:(dQ (bK T.rightP s b) s b (z0,z1) who (bS s b (z0,z1))).2=0→(dQ (bK T.rightP s b) s b (z2,z3) who (bS s b (z2,z3))).2=0→(dQ (bK T.rightP s (dQ (bK T.rightP s b) s b (z0,z1) who (bS s b (z0,z1))).1) s (dQ (bK T.rightP s b) s b (z0,z1) who (bS s b (z0,z1))).1 (z2,z3) who (bS s (dQ (bK T.rightP s b) s b (z0,z1) who (bS s b (z0,z1))).1 (z2,z3))).2=0→
        (dQ (bK T.rightP s (dQ (bK T.rightP s b) s b (z2,z3) who (bS s b (z2,z3))).1) s (dQ (bK T.rightP s b) s b (z2,z3) who (bS s b (z2,z3))).1 (z0,z1) who (bS s (dQ (bK T.rightP s b) s b (z2,z3) who (bS s b (z2,z3))).1 (z0,z1))).2=0→
        (dQ (bK T.rightP s (dQ (bK T.rightP s b) s b (z0,z1) who (bS s b (z0,z1))).1) s (dQ (bK T.rightP s b) s b (z0,z1) who (bS s b (z0,z1))).1 (z2,z3) who (bS s (dQ (bK T.rightP s b) s b (z0,z1) who (bS s b (z0,z1))).1 (z2,z3))).1=(dQ (bK T.rightP s (dQ (bK T.rightP s b) s b (z2,z3) who (bS s b (z2,z3))).1) s (dQ (bK T.rightP s b) s b (z2,z3) who (bS s b (z2,z3))).1 (z0,z1) who (bS s (dQ (bK T.rightP s b) s b (z2,z3) who (bS s b (z2,z3))).1 (z0,z1))).1:=fun h0 h1 h2 h3=>by
      obtain ⟨a1,a2,_,a3⟩:=mG h0
      obtain ⟨_,b2,_,b3⟩:=mG h1
      obtain ⟨_,c2,_,c3⟩:=mG h2
      obtain ⟨_,e2,_,e3⟩:=mG h3
      rw [c3,e3]
      exact agG a1 a2 b2 a3 b3 c2 e2
    generalize dQ (bK T.rightP s b) s b (z0,z1) who (bS s b (z0,z1))=o0 at*
    generalize dQ (bK T.rightP s b) s b (z2,z3) who (bS s b (z2,z3))=o1 at*
    generalize dQ (bK T.rightP s o0.1) s o0.1 (z2,z3) who (bS s o0.1 (z2,z3))=o2 at*
    generalize dQ (bK T.rightP s o1.1) s o1.1 (z0,z1) who (bS s o1.1 (z0,z1))=o3 at*
    have hsm:=abP hX2.1 (by omega) o3.1
    generalize dP s=R at*
    by_cases hall:o0.2=0∧o1.2=0∧o2.2=0∧o3.2=0
    · obtain ⟨e0,e1,e2,e3⟩:=hall
      have el:=hlaw e0 e1 e2 e3
      rw [decide_eq_true el] at hsm
      clear hlaw
      refine aL aH Tryz.func8 (by kernel_rfl) rfl rfl rfl rfl (fun st=> ?_)
      (try (apply wO pk;exact rfl));(repeat' (first|(show All _;constructor)|(show Imp _ _;constructor)|(show ImpX _ _ _ _;constructor)|(apply wC pk;(iterate 2 exact rfl))|(apply wE pk;(iterate 2 exact rfl))|(apply wX pk;exact rfl)|(apply wN pk;exact rfl)|(apply wD pk [] [];kernel_rfl;exact rfl;exact rfl)|(apply aC;simp only [zqt,zqf])|(refine aD rfl (fun h=> ?_) (fun h=> ?_)<;>(try simp at h)<;>try (exfalso;omega))|(refine aF ?_;refine ⟨_,_,_,rfl,Wk.refl _,StSub.refl _, ?_,rfl⟩;try first|rfl|((simp;done);done))|(apply aK;(iterate 3 exact rfl);(intro _;(first|apply hA|apply hf|apply hr|apply d0|apply d1|apply d2|apply d3|apply hsm)<;>first|assumption|omega);rotate_left;(iterate 2 exact rfl))|((apply eP pk 0;(iterate 5 exact rfl);(focus repeat' constructor);exact rfl;(intro _;rfl);(intro _;omega);exact rfl))|((apply eP pk 1;(iterate 5 exact rfl);(focus repeat' constructor);exact rfl;(intro _;rfl);(intro _;omega);exact rfl))|(intros;(try simp only [zql]);omega)|((exfalso;simp_all;done))))
    · clear hlaw
      refine aL aH Tryz.func8 (by kernel_rfl) rfl rfl rfl rfl (fun st=> ?_)
      (try (apply wO pk;exact rfl));(repeat' (first|(show All _;constructor)|(show Imp _ _;constructor)|(show ImpX _ _ _ _;constructor)|(apply wC pk;(iterate 2 exact rfl))|(apply wE pk;(iterate 2 exact rfl))|(apply wX pk;exact rfl)|(apply wN pk;exact rfl)|(apply wD pk [] [];kernel_rfl;exact rfl;exact rfl)|(apply aC;simp only [zqt,zqf])|(refine aD rfl (fun h=> ?_) (fun h=> ?_)<;>(try simp at h)<;>try (exfalso;omega))|(refine aF ?_;refine ⟨_,_,_,rfl,Wk.refl _,StSub.refl _, ?_,rfl⟩;try first|rfl|((exfalso;simp_all;done);done))|(apply aK;(iterate 3 exact rfl);(intro _;(first|apply hA|apply hf|apply hr|apply d0|apply d1|apply d2|apply d3|apply hsm)<;>first|assumption|omega);rotate_left;(iterate 2 exact rfl))|((apply eP pk 0;(iterate 5 exact rfl);(focus repeat' constructor);exact rfl;(intro _;rfl);(intro _;omega);exact rfl))|((apply eP pk 1;(iterate 5 exact rfl);(focus repeat' constructor);exact rfl;(intro _;rfl);(intro _;omega);exact rfl))|(intros;(try simp only [zql]);omega)|((exfalso;simp_all;done))))
end Go.Proofs.YtddmbnddgiebgaaGreatDoor
