import Derived.Test.YtkaliolnijkadaaGreatDoorBsPutS
set_option linter.unusedSimpArgs false
set_option linter.unusedVariables false
namespace Go.Proofs.YtkaliolnijkadaaGreatDoor
open Go Go.Abs
attribute [local irreducible] Ev PWp
set_option maxRecDepth 10000
set_option maxHeartbeats 4000000
theorem bdrop_spec (s : Sc) (b : Bs) (z0 z1 z2 : Int) (hs : ScB s) (hb : BsB b) : PF Tryz.prog 6 [.agg (scC s), .agg (bsC b), .agg [(PV.val (Value.int .i64 (z0))), (PV.val (Value.int .i64 (z1))), (PV.val (Value.int .i64 (z2)))]] (PV.val (Value.bool (true))) := by
  have hA := alive_spec
  have hf := few_spec b hb.1 hb.2
  cases g1 : fewP b with
  | false =>
    rw [g1] at hf
    refine pf_of tt_ok Tryz.func6 (by kernel_rfl) rfl rfl rfl rfl (fun st => ?_)
    (try (apply wO pk; exact rfl)); (repeat' (first | (show All _; constructor) | (show Imp _ _; constructor) | (show ImpX _ _ _ _; constructor) | (apply wC pk; (iterate 2 exact rfl)) | (apply wE pk; (iterate 2 exact rfl)) | (apply wX pk; exact rfl) | (apply wN pk; exact rfl) | (apply wD pk [] []; kernel_rfl; exact rfl; exact rfl) | (apply pwp_condC; simp only [cond_true, cond_false]) | (refine pwp_cond rfl (fun h => ?_) (fun h => ?_) <;> (try simp at h) <;> try (exfalso; omega)) | (refine pwp_ret ?_; refine ⟨_, _, _, rfl, Wk.refl _, StSub.refl _, ?_, rfl⟩; try rfl) | (apply callS; (iterate 3 exact rfl); (intro _; (first | apply hA | apply hf | apply (noB (by rename_i hh; exact hh))) <;> first | assumption | omega); rotate_left; (iterate 2 exact rfl)) | (intros; (try simp only [List.length_map]); omega)))
  | true =>
  rw [g1] at hf
  by_cases g3 : ¬ s.length ≤ 20
  · refine pf_of tt_ok Tryz.func6 (by kernel_rfl) rfl rfl rfl rfl (fun st => ?_)
    (try (apply wO pk; exact rfl)); (repeat' (first | (show All _; constructor) | (show Imp _ _; constructor) | (show ImpX _ _ _ _; constructor) | (apply wC pk; (iterate 2 exact rfl)) | (apply wE pk; (iterate 2 exact rfl)) | (apply wX pk; exact rfl) | (apply wN pk; exact rfl) | (apply wD pk [] []; kernel_rfl; exact rfl; exact rfl) | (apply pwp_condC; simp only [cond_true, cond_false]) | (refine pwp_cond rfl (fun h => ?_) (fun h => ?_) <;> (try simp at h) <;> try (exfalso; omega)) | (refine pwp_ret ?_; refine ⟨_, _, _, rfl, Wk.refl _, StSub.refl _, ?_, rfl⟩; try rfl) | (apply callS; (iterate 3 exact rfl); (intro _; (first | apply hA | apply hf | apply (show PF Tryz.prog 12 [_, _] (PV.val (Value.bool (false))) from by rename_i hh; simp [gw] at hh; omega)) <;> first | assumption | omega); rotate_left; (iterate 2 exact rfl)) | (intros; (try simp only [List.length_map]); omega) | ((exfalso; simp at *; omega))))
  replace g3 := Decidable.of_not_not g3
  have hB := few_S g1
  have hr := rightB_spec hB (by omega) hs g3
  cases g4 : baseB T.rightP s b with
  | false =>
    rw [g4] at hr
    refine pf_of tt_ok Tryz.func6 (by kernel_rfl) rfl rfl rfl rfl (fun st => ?_)
    (try (apply wO pk; exact rfl)); (repeat' (first | (show All _; constructor) | (show Imp _ _; constructor) | (show ImpX _ _ _ _; constructor) | (apply wC pk; (iterate 2 exact rfl)) | (apply wE pk; (iterate 2 exact rfl)) | (apply wX pk; exact rfl) | (apply wN pk; exact rfl) | (apply wD pk [] []; kernel_rfl; exact rfl; exact rfl) | (apply pwp_condC; simp only [cond_true, cond_false]) | (refine pwp_cond rfl (fun h => ?_) (fun h => ?_) <;> (try simp at h) <;> try (exfalso; omega)) | (refine pwp_ret ?_; refine ⟨_, _, _, rfl, Wk.refl _, StSub.refl _, ?_, rfl⟩; try rfl) | (apply callS; (iterate 3 exact rfl); (intro _; (first | apply hA | apply hf | apply hr) <;> first | assumption | omega); rotate_left; (iterate 2 exact rfl)) | (intros; (try simp only [List.length_map]); omega) | ((exfalso; simp at *; omega))))
  | true =>
  rw [g4] at hr
  have hK := baseB_lines g4 z0
  have hx := hB.drop z0 z1
  obtain ⟨l1, l2⟩ := hB.l (by omega)
  obtain ⟨x1, x2⟩ := hx.l (by omega)
  have q0 := get_spec2 hB (by omega) z0 z1
  have d1 := drop_spec b z0 z1 l1 l2
  have q1 := get_spec2 hx (by omega) z0 z1
  have q2 := get_spec2 hB (by omega) z0 z2
  have q3 := get_spec2 hx (by omega) z0 z2
  have w1 := sameL_spec (hB.got z0 z2) ((getL (linesP (dropP b z0 z1) z0) z2).getD Ln.zero)
  have hgot := hB.got z0 z1
  cases g5 : okT b z0 with
  | false =>
    have ex : dropP b z0 z1 = b := by rw [dropP_L, set_no g5]
    have s1 := sameB_spec hB (by omega) b
    rw [ex] at d1 q1 q3 w1
    rw [lines_no g5, show ∀ k, getL [] k = none from fun _ => rfl] at q0 q1 q2 q3 w1
    rw [decide_eq_true rfl] at s1 w1
    refine pf_of tt_ok Tryz.func6 (by kernel_rfl) rfl rfl rfl rfl (fun st => ?_)
    (try (apply wO pk; exact rfl)); (repeat' (first | (show All _; constructor) | (show Imp _ _; constructor) | (show ImpX _ _ _ _; constructor) | (apply wC pk; (iterate 2 exact rfl)) | (apply wE pk; (iterate 2 exact rfl)) | (apply wX pk; exact rfl) | (apply wN pk; exact rfl) | (apply wD pk [] []; kernel_rfl; exact rfl; exact rfl) | (apply pwp_condC; simp only [cond_true, cond_false]) | (refine pwp_cond rfl (fun h => ?_) (fun h => ?_) <;> (try simp at h) <;> try (exfalso; omega)) | (refine pwp_ret ?_; refine ⟨_, _, _, rfl, Wk.refl _, StSub.refl _, ?_, rfl⟩; try first | rfl | ((simp; done); done)) | (apply callS; (iterate 3 exact rfl); (intro _; (first | apply hA | apply hf | apply hr | apply q0 | apply d1 | apply q1 | apply q2 | apply q3 | apply w1 | apply s1) <;> first | assumption | omega); rotate_left; (iterate 2 exact rfl)) | ((apply idxL pk 0; (iterate 5 exact rfl); (focus repeat' constructor); exact rfl; (intro _; rfl); (intro _; omega); exact rfl)) | ((apply idxL pk 1; (iterate 5 exact rfl); (focus repeat' constructor); exact rfl; (intro _; rfl); (intro _; omega); exact rfl)) | ((apply idxL pk 2; (iterate 5 exact rfl); (focus repeat' constructor); exact rfl; (intro _; rfl); (intro _; omega); exact rfl)) | (intros; (try simp only [List.length_map]); omega) | ((exfalso; simp at *; omega))))
  | true =>
  have hD := baseB_data g4 g5
  have e0 : linesP (dropP b z0 z1) z0 = dropL (linesP b z0) z1 := by rw [dropP_L, lines_set g5]
  cases g6 : getL (linesP b z0) z1 with
  | none =>
    have ex : dropP b z0 z1 = b := by rw [dropP_L, drop_none g6, set_self]
    have s1 := sameB_spec hB (by omega) b
    rw [ex] at d1 q1 q3 w1
    rw [g6] at q0 q1
    rw [decide_eq_true rfl] at s1 w1
    refine pf_of tt_ok Tryz.func6 (by kernel_rfl) rfl rfl rfl rfl (fun st => ?_)
    (try (apply wO pk; exact rfl)); (repeat' (first | (show All _; constructor) | (show Imp _ _; constructor) | (show ImpX _ _ _ _; constructor) | (apply wC pk; (iterate 2 exact rfl)) | (apply wE pk; (iterate 2 exact rfl)) | (apply wX pk; exact rfl) | (apply wN pk; exact rfl) | (apply wD pk [] []; kernel_rfl; exact rfl; exact rfl) | (apply pwp_condC; simp only [cond_true, cond_false]) | (refine pwp_cond rfl (fun h => ?_) (fun h => ?_) <;> (try simp at h) <;> try (exfalso; omega)) | (refine pwp_ret ?_; refine ⟨_, _, _, rfl, Wk.refl _, StSub.refl _, ?_, rfl⟩; try first | rfl | ((simp; done); done)) | (apply callS; (iterate 3 exact rfl); (intro _; (first | apply hA | apply hf | apply hr | apply q0 | apply d1 | apply q1 | apply q2 | apply q3 | apply w1 | apply s1) <;> first | assumption | omega); rotate_left; (iterate 2 exact rfl)) | ((apply idxL pk 0; (iterate 5 exact rfl); (focus repeat' constructor); exact rfl; (intro _; rfl); (intro _; omega); exact rfl)) | ((apply idxL pk 1; (iterate 5 exact rfl); (focus repeat' constructor); exact rfl; (intro _; rfl); (intro _; omega); exact rfl)) | ((apply idxL pk 2; (iterate 5 exact rfl); (focus repeat' constructor); exact rfl; (intro _; rfl); (intro _; omega); exact rfl)) | (intros; (try simp only [List.length_map]); omega) | ((exfalso; simp at *; omega))))
  | some l =>
    rw [g6] at hgot
    have r1 := rightB_spec hx (by omega) hs g3
    have hm : baseB T.rightP s (dropP b z0 z1) = true := by rw [dropP_L, baseB_set g4 g5, dataB_drop hD]
    rw [hm] at r1
    have d2 := drop_spec (dropP b z0 z1) z0 z1 x1 x2
    have ed : dropP (dropP b z0 z1) z0 z1 = dropP b z0 z1 := by rw [dropP_L (dropP b z0 z1), e0, drop_drop hK, dropP_L, set_set]
    rw [ed] at d2
    have s1 := sameB_spec hx (by omega) (dropP b z0 z1)
    have p1 := put_spec (dropP b z0 z1) z0 l x1 x2
    have ep : putP (dropP b z0 z1) z0 l = b := by rw [putP_set, e0, put_drop hK g6, dropP_L, set_set, set_self]
    rw [ep] at p1
    have s2 := sameB_spec hB (by omega) b
    rw [e0, drop_get hK] at q1
    rw [g6] at q0
    rw [decide_eq_true rfl] at s1 s2
    by_cases hz : z1 = z2
    · subst hz
      rw [e0, drop_get hK] at q3 w1
      rw [g6] at q2 w1
      refine pf_of tt_ok Tryz.func6 (by kernel_rfl) rfl rfl rfl rfl (fun st => ?_)
      (try (apply wO pk; exact rfl)); (repeat' (first | (show All _; constructor) | (show Imp _ _; constructor) | (show ImpX _ _ _ _; constructor) | (apply wC pk; (iterate 2 exact rfl)) | (apply wE pk; (iterate 2 exact rfl)) | (apply wX pk; exact rfl) | (apply wN pk; exact rfl) | (apply wD pk [] []; kernel_rfl; exact rfl; exact rfl) | (apply pwp_condC; simp only [cond_true, cond_false]) | (refine pwp_cond rfl (fun h => ?_) (fun h => ?_) <;> (try simp at h) <;> try (exfalso; omega)) | (refine pwp_ret ?_; refine ⟨_, _, _, rfl, Wk.refl _, StSub.refl _, ?_, rfl⟩; try first | rfl | ((simp; done); done)) | (apply callS; (iterate 3 exact rfl); (intro _; (first | apply hA | apply hf | apply hr | apply q0 | apply d1 | apply q1 | apply q2 | apply q3 | apply w1 | apply r1 | apply d2 | apply s1 | apply p1 | apply s2) <;> first | assumption | omega); rotate_left; (iterate 2 exact rfl)) | ((apply idxL pk 0; (iterate 5 exact rfl); (focus repeat' constructor); exact rfl; (intro _; rfl); (intro _; omega); exact rfl)) | ((apply idxL pk 1; (iterate 5 exact rfl); (focus repeat' constructor); exact rfl; (intro _; rfl); (intro _; omega); exact rfl)) | ((apply idxL pk 2; (iterate 5 exact rfl); (focus repeat' constructor); exact rfl; (intro _; rfl); (intro _; omega); exact rfl)) | (intros; (try simp only [List.length_map]); omega) | ((exfalso; simp at *; omega))))
    · rw [e0, drop_other hK (Ne.symm hz)] at q3 w1
      rw [decide_eq_true rfl] at w1
      refine pf_of tt_ok Tryz.func6 (by kernel_rfl) rfl rfl rfl rfl (fun st => ?_)
      (try (apply wO pk; exact rfl)); (repeat' (first | (show All _; constructor) | (show Imp _ _; constructor) | (show ImpX _ _ _ _; constructor) | (apply wC pk; (iterate 2 exact rfl)) | (apply wE pk; (iterate 2 exact rfl)) | (apply wX pk; exact rfl) | (apply wN pk; exact rfl) | (apply wD pk [] []; kernel_rfl; exact rfl; exact rfl) | (apply pwp_condC; simp only [cond_true, cond_false]) | (refine pwp_cond rfl (fun h => ?_) (fun h => ?_) <;> (try simp at h) <;> try (exfalso; omega)) | (refine pwp_ret ?_; refine ⟨_, _, _, rfl, Wk.refl _, StSub.refl _, ?_, rfl⟩; try first | rfl | ((simp; done); done)) | (apply callS; (iterate 3 exact rfl); (intro _; (first | apply hA | apply hf | apply hr | apply q0 | apply d1 | apply q1 | apply q2 | apply q3 | apply w1 | apply r1 | apply d2 | apply s1 | apply p1 | apply s2) <;> first | assumption | omega); rotate_left; (iterate 2 exact rfl)) | ((apply idxL pk 0; (iterate 5 exact rfl); (focus repeat' constructor); exact rfl; (intro _; rfl); (intro _; omega); exact rfl)) | ((apply idxL pk 1; (iterate 5 exact rfl); (focus repeat' constructor); exact rfl; (intro _; rfl); (intro _; omega); exact rfl)) | ((apply idxL pk 2; (iterate 5 exact rfl); (focus repeat' constructor); exact rfl; (intro _; rfl); (intro _; omega); exact rfl)) | (intros; (try simp only [List.length_map]); omega) | ((exfalso; simp at *; omega))))
end Go.Proofs.YtkaliolnijkadaaGreatDoor
