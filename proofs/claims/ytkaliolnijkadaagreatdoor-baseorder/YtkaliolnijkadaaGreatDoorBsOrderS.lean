import Derived.Test.YtkaliolnijkadaaGreatDoorBsPutS
set_option linter.unusedSimpArgs false
set_option linter.unusedVariables false
namespace Go.Proofs.YtkaliolnijkadaaGreatDoor
open Go Go.Abs
attribute [local irreducible] Ev PWp
set_option maxRecDepth 10000
set_option maxHeartbeats 4000000
theorem border_spec (s : Sc) (b : Bs) (l m : Ln) (z : Int) (hs : ScB s) (hb : BsB b) (hl : l.cells_.length < 4611686018427387904) (hm0 : m.cells_.length < 4611686018427387904) : PF Tryz.prog 7 [.agg (scC s), .agg (bsC b), .agg (l.cells ++ m.cells), (PV.val (Value.int .i64 (z)))] (PV.val (Value.bool (true))) := by
  have hA := alive_spec
  have hf := few_spec b hb.1 hb.2
  have hl1 := Small_spec l hl
  have hm1 := Small_spec m hm0
  cases g1 : fewP b with
  | false =>
    rw [g1] at hf
    refine pf_of tt_ok Tryz.func7 (by kernel_rfl) rfl rfl rfl rfl (fun st => ?_)
    (try (apply wO pk; exact rfl)); (repeat' (first | (show All _; constructor) | (show Imp _ _; constructor) | (show ImpX _ _ _ _; constructor) | (apply wC pk; (iterate 2 exact rfl)) | (apply wE pk; (iterate 2 exact rfl)) | (apply wX pk; exact rfl) | (apply wN pk; exact rfl) | (apply wD pk [] []; kernel_rfl; exact rfl; exact rfl) | (apply pwp_condC; simp only [cond_true, cond_false]) | (refine pwp_cond rfl (fun h => ?_) (fun h => ?_) <;> (try simp at h) <;> try (exfalso; omega)) | (refine pwp_ret ?_; refine ⟨_, _, _, rfl, Wk.refl _, StSub.refl _, ?_, rfl⟩; try rfl) | (apply callS; (iterate 3 exact rfl); (intro _; (first | apply hA | apply hf | apply (noB (by rename_i hh; exact hh))) <;> first | assumption | omega); rotate_left; (iterate 2 exact rfl)) | ((apply idxL pk 0; (iterate 5 exact rfl); (focus repeat' constructor); exact rfl; (intro _; rfl); (intro _; omega); exact rfl)) | ((apply idxL pk 1; (iterate 5 exact rfl); (focus repeat' constructor); exact rfl; (intro _; rfl); (intro _; omega); exact rfl)) | (intros; (try simp only [List.length_map]); omega) | ((exfalso; simp at *; omega))))
  | true =>
  rw [g1] at hf
  cases g2 : smallP l with
  | false =>
    rw [g2] at hl1
    refine pf_of tt_ok Tryz.func7 (by kernel_rfl) rfl rfl rfl rfl (fun st => ?_)
    (try (apply wO pk; exact rfl)); (repeat' (first | (show All _; constructor) | (show Imp _ _; constructor) | (show ImpX _ _ _ _; constructor) | (apply wC pk; (iterate 2 exact rfl)) | (apply wE pk; (iterate 2 exact rfl)) | (apply wX pk; exact rfl) | (apply wN pk; exact rfl) | (apply wD pk [] []; kernel_rfl; exact rfl; exact rfl) | (apply pwp_condC; simp only [cond_true, cond_false]) | (refine pwp_cond rfl (fun h => ?_) (fun h => ?_) <;> (try simp at h) <;> try (exfalso; omega)) | (refine pwp_ret ?_; refine ⟨_, _, _, rfl, Wk.refl _, StSub.refl _, ?_, rfl⟩; try rfl) | (apply callS; (iterate 3 exact rfl); (intro _; (first | apply hA | apply hf | apply hl1 | apply (noB (by rename_i hh; exact hh))) <;> first | assumption | omega); rotate_left; (iterate 2 exact rfl)) | ((apply idxL pk 0; (iterate 5 exact rfl); (focus repeat' constructor); exact rfl; (intro _; rfl); (intro _; omega); exact rfl)) | ((apply idxL pk 1; (iterate 5 exact rfl); (focus repeat' constructor); exact rfl; (intro _; rfl); (intro _; omega); exact rfl)) | (intros; (try simp only [List.length_map]); omega) | ((exfalso; simp at *; omega))))
  | true =>
  rw [g2] at hl1
  cases g2b : smallP m with
  | false =>
    rw [g2b] at hm1
    refine pf_of tt_ok Tryz.func7 (by kernel_rfl) rfl rfl rfl rfl (fun st => ?_)
    (try (apply wO pk; exact rfl)); (repeat' (first | (show All _; constructor) | (show Imp _ _; constructor) | (show ImpX _ _ _ _; constructor) | (apply wC pk; (iterate 2 exact rfl)) | (apply wE pk; (iterate 2 exact rfl)) | (apply wX pk; exact rfl) | (apply wN pk; exact rfl) | (apply wD pk [] []; kernel_rfl; exact rfl; exact rfl) | (apply pwp_condC; simp only [cond_true, cond_false]) | (refine pwp_cond rfl (fun h => ?_) (fun h => ?_) <;> (try simp at h) <;> try (exfalso; omega)) | (refine pwp_ret ?_; refine ⟨_, _, _, rfl, Wk.refl _, StSub.refl _, ?_, rfl⟩; try rfl) | (apply callS; (iterate 3 exact rfl); (intro _; (first | apply hA | apply hf | apply hl1 | apply hm1 | apply (noB (by rename_i hh; exact hh))) <;> first | assumption | omega); rotate_left; (iterate 2 exact rfl)) | ((apply idxL pk 0; (iterate 5 exact rfl); (focus repeat' constructor); exact rfl; (intro _; rfl); (intro _; omega); exact rfl)) | ((apply idxL pk 1; (iterate 5 exact rfl); (focus repeat' constructor); exact rfl; (intro _; rfl); (intro _; omega); exact rfl)) | (intros; (try simp only [List.length_map]); omega) | ((exfalso; simp at *; omega))))
  | true =>
  rw [g2b] at hm1
  by_cases g3 : ¬ s.length ≤ 20
  · refine pf_of tt_ok Tryz.func7 (by kernel_rfl) rfl rfl rfl rfl (fun st => ?_)
    (try (apply wO pk; exact rfl)); (repeat' (first | (show All _; constructor) | (show Imp _ _; constructor) | (show ImpX _ _ _ _; constructor) | (apply wC pk; (iterate 2 exact rfl)) | (apply wE pk; (iterate 2 exact rfl)) | (apply wX pk; exact rfl) | (apply wN pk; exact rfl) | (apply wD pk [] []; kernel_rfl; exact rfl; exact rfl) | (apply pwp_condC; simp only [cond_true, cond_false]) | (refine pwp_cond rfl (fun h => ?_) (fun h => ?_) <;> (try simp at h) <;> try (exfalso; omega)) | (refine pwp_ret ?_; refine ⟨_, _, _, rfl, Wk.refl _, StSub.refl _, ?_, rfl⟩; try rfl) | (apply callS; (iterate 3 exact rfl); (intro _; (first | apply hA | apply hf | apply hl1 | apply hm1 | apply (show PF Tryz.prog 12 [_, _] (PV.val (Value.bool (false))) from by rename_i hh; simp [gw] at hh; omega)) <;> first | assumption | omega); rotate_left; (iterate 2 exact rfl)) | ((apply idxL pk 0; (iterate 5 exact rfl); (focus repeat' constructor); exact rfl; (intro _; rfl); (intro _; omega); exact rfl)) | ((apply idxL pk 1; (iterate 5 exact rfl); (focus repeat' constructor); exact rfl; (intro _; rfl); (intro _; omega); exact rfl)) | (intros; (try simp only [List.length_map]); omega) | ((exfalso; simp at *; omega))))
  replace g3 := Decidable.of_not_not g3
  have hB := few_S g1
  have hL := small_S g2
  have hM := small_S g2b
  have hr := rightB_spec hB (by omega) hs g3
  cases g4 : baseB T.rightP s b with
  | false =>
    rw [g4] at hr
    refine pf_of tt_ok Tryz.func7 (by kernel_rfl) rfl rfl rfl rfl (fun st => ?_)
    (try (apply wO pk; exact rfl)); (repeat' (first | (show All _; constructor) | (show Imp _ _; constructor) | (show ImpX _ _ _ _; constructor) | (apply wC pk; (iterate 2 exact rfl)) | (apply wE pk; (iterate 2 exact rfl)) | (apply wX pk; exact rfl) | (apply wN pk; exact rfl) | (apply wD pk [] []; kernel_rfl; exact rfl; exact rfl) | (apply pwp_condC; simp only [cond_true, cond_false]) | (refine pwp_cond rfl (fun h => ?_) (fun h => ?_) <;> (try simp at h) <;> try (exfalso; omega)) | (refine pwp_ret ?_; refine ⟨_, _, _, rfl, Wk.refl _, StSub.refl _, ?_, rfl⟩; try rfl) | (apply callS; (iterate 3 exact rfl); (intro _; (first | apply hA | apply hf | apply hl1 | apply hm1 | apply hr) <;> first | assumption | omega); rotate_left; (iterate 2 exact rfl)) | ((apply idxL pk 0; (iterate 5 exact rfl); (focus repeat' constructor); exact rfl; (intro _; rfl); (intro _; omega); exact rfl)) | ((apply idxL pk 1; (iterate 5 exact rfl); (focus repeat' constructor); exact rfl; (intro _; rfl); (intro _; omega); exact rfl)) | (intros; (try simp only [List.length_map]); omega) | ((exfalso; simp at *; omega))))
  | true =>
  rw [g4] at hr
  by_cases g5 : l.key = m.key
  · refine pf_of tt_ok Tryz.func7 (by kernel_rfl) rfl rfl rfl rfl (fun st => ?_)
    (try (apply wO pk; exact rfl)); (repeat' (first | (show All _; constructor) | (show Imp _ _; constructor) | (show ImpX _ _ _ _; constructor) | (apply wC pk; (iterate 2 exact rfl)) | (apply wE pk; (iterate 2 exact rfl)) | (apply wX pk; exact rfl) | (apply wN pk; exact rfl) | (apply wD pk [] []; kernel_rfl; exact rfl; exact rfl) | (apply pwp_condC; simp only [cond_true, cond_false]) | (refine pwp_cond rfl (fun h => ?_) (fun h => ?_) <;> (try simp at h) <;> try (exfalso; omega)) | (refine pwp_ret ?_; refine ⟨_, _, _, rfl, Wk.refl _, StSub.refl _, ?_, rfl⟩; try rfl) | (apply callS; (iterate 3 exact rfl); (intro _; (first | apply hA | apply hf | apply hl1 | apply hm1 | apply hr) <;> first | assumption | omega); rotate_left; (iterate 2 exact rfl)) | ((apply idxL pk 0; (iterate 5 exact rfl); (focus repeat' constructor); exact rfl; (intro _; rfl); (intro _; omega); exact rfl)) | ((apply idxL pk 1; (iterate 5 exact rfl); (focus repeat' constructor); exact rfl; (intro _; rfl); (intro _; omega); exact rfl)) | (intros; (try simp only [List.length_map]); omega) | ((exfalso; simp at *; omega))))
  have hK := baseB_lines g4 z
  obtain ⟨b1, b2⟩ := hB.l (by omega)
  have h1 := hB.put z hL
  have h2 := hB.put z hM
  have h3 := hB.drop z m.key
  obtain ⟨c1, c2⟩ := h1.l (by omega)
  obtain ⟨d1, d2⟩ := h2.l (by omega)
  obtain ⟨e1, e2⟩ := h3.l (by omega)
  have p1 := put_spec b z l b1 b2
  have p2 := put_spec b z m b1 b2
  have p3 := put_spec (putP b z l) z m c1 c2
  have p4 := put_spec (putP b z m) z l d1 d2
  have p5 := drop_spec (putP b z l) z m.key c1 c2
  have p6 := drop_spec b z m.key b1 b2
  have p7 := put_spec (dropP b z m.key) z l e1 e2
  have s1 := sameB_spec (h1.put z hM) (by omega) (putP (putP b z m) z l)
  have s2 := sameB_spec (h1.drop z m.key) (by omega) (putP (dropP b z m.key) z l)
  have q1 : putP (putP b z l) z m = putP (putP b z m) z l := by
    cases hz : okT b z with
    | false => simp only [putP_set, set_no hz]
    | true =>
      rw [putP_set (putP b z l), putP_set (putP b z m), putP_set b, putP_set b, lines_set hz, lines_set hz, set_set, set_set, put_comm hK g5]
  have q2 : dropP (putP b z l) z m.key = putP (dropP b z m.key) z l := by
    cases hz : okT b z with
    | false => simp only [putP_set, dropP_L, set_no hz]
    | true =>
      rw [dropP_L (putP b z l), putP_set (dropP b z m.key), dropP_L b, putP_set b, lines_set hz, lines_set hz, set_set, set_set, drop_put hK g5]
  rw [decide_eq_true q1] at s1
  rw [decide_eq_true q2] at s2
  refine pf_of tt_ok Tryz.func7 (by kernel_rfl) rfl rfl rfl rfl (fun st => ?_)
  (try (apply wO pk; exact rfl)); (repeat' (first | (show All _; constructor) | (show Imp _ _; constructor) | (show ImpX _ _ _ _; constructor) | (apply wC pk; (iterate 2 exact rfl)) | (apply wE pk; (iterate 2 exact rfl)) | (apply wX pk; exact rfl) | (apply wN pk; exact rfl) | (apply wD pk [] []; kernel_rfl; exact rfl; exact rfl) | (apply pwp_condC; simp only [cond_true, cond_false]) | (refine pwp_cond rfl (fun h => ?_) (fun h => ?_) <;> (try simp at h) <;> try (exfalso; omega)) | (refine pwp_ret ?_; refine ⟨_, _, _, rfl, Wk.refl _, StSub.refl _, ?_, rfl⟩; try rfl) | (apply callS; (iterate 3 exact rfl); (intro _; (first | apply hA | apply hf | apply hl1 | apply hm1 | apply hr | apply p1 | apply p2 | apply p3 | apply p4 | apply p5 | apply p6 | apply p7 | apply s1 | apply s2) <;> first | assumption | omega); rotate_left; (iterate 2 exact rfl)) | ((apply idxL pk 0; (iterate 5 exact rfl); (focus repeat' constructor); exact rfl; (intro _; rfl); (intro _; omega); exact rfl)) | ((apply idxL pk 1; (iterate 5 exact rfl); (focus repeat' constructor); exact rfl; (intro _; rfl); (intro _; omega); exact rfl)) | (intros; (try simp only [List.length_map]); omega) | ((exfalso; simp at *; omega))))
end Go.Proofs.YtkaliolnijkadaaGreatDoor
