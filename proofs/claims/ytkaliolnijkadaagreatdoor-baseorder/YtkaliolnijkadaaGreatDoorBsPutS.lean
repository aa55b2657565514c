import Derived.Test.YtkaliolnijkadaaGreatDoorBsMap
set_option linter.unusedSimpArgs false
set_option linter.unusedVariables false
namespace Go.Proofs.YtkaliolnijkadaaGreatDoor
open Go Go.Abs
attribute [local irreducible] Ev PWp
set_option maxRecDepth 10000
set_option maxHeartbeats 4000000
theorem noB {P : Program} {f : FuncId} {ps : List PV} (h : false = true) : PF P f ps (PV.val (Value.bool (false))) := by cases h
theorem getR_eq (o : Option Ln) : getR o = .tup [.agg (o.getD Ln.zero).cells, (PV.val (Value.bool (o.isSome)))] := by cases o <;> rfl
def ScB (s : Sc) : Prop := ∀ t ∈ s, TbB t
theorem cl_tx (c : Cl) (h : c.parts.length ≤ 1000) : TxOK T.rightP c := ⟨by omega, fun _ => T.right_spec c (by omega)⟩
theorem BsS.da {n : Nat} {b : Bs} (h : BsS n b) (hn : n ≤ 1000) : ∀ d ∈ b, DaOK T.rightP d := fun d hd => by
  obtain ⟨h1, h2⟩ := h.2 d hd
  refine ⟨by omega, fun l hl => ?_⟩
  obtain ⟨q1, q2, q3⟩ := h2 l hl
  exact ⟨⟨by omega, by omega⟩, fun c hc => cl_tx c (q3 c hc)⟩
theorem rightB_spec {n : Nat} {b : Bs} (h : BsS n b) (hn : n ≤ 1000) {s : Sc} (hs : ScB s) (hl : s.length ≤ 20) : PF Tryz.prog 12 [.agg (scC s), .agg (bsC b)] (PV.val (Value.bool (baseB T.rightP s b))) :=
  baseR_spec T.rightP s b (by omega) hs (by have := h.1; omega) (h.da hn)
theorem get_spec2 {n : Nat} {b : Bs} (h : BsS n b) (hn : n ≤ 1000) (k key : Int) : PF Tryz.prog 25 [.agg (bsC b), (PV.val (Value.int .i64 (k))), (PV.val (Value.int .i64 (key)))] (.tup [.agg ((getL (linesP b k) key).getD Ln.zero).cells, (PV.val (Value.bool ((getL (linesP b k) key).isSome)))]) := getR_eq _ ▸ get_spec b k key (h.l hn).2
theorem LnS.zero : LnS Ln.zero := ⟨by simp [Ln.zero], by simp [Ln.zero], fun c hc => by simp [Ln.zero] at hc⟩
theorem BsS.got {n : Nat} {b : Bs} (h : BsS n b) (k key : Int) : LnS ((getL (linesP b k) key).getD Ln.zero) := by
  cases q : getL (linesP b k) key with
  | none => exact LnS.zero
  | some x => exact (h.lines k).2 x (List.mem_of_find?_eq_some q)
theorem BsS.new {s : Sc} (hl : s.length ≤ 20) : BsS 0 (newP s) := ⟨by simpa [newP] using hl, fun d hd => by
  rw [(List.mem_replicate.1 hd).2]
  exact ⟨Nat.le_refl _, fun l hl => by simp at hl⟩⟩
theorem bput_spec (s : Sc) (b : Bs) (l : Ln) (z0 z1 : Int) (hs : ScB s) (hb : BsB b) (hl : l.cells_.length < 4611686018427387904) : PF Tryz.prog 5 [.agg (scC s), .agg (bsC b), .agg l.cells, .agg [(PV.val (Value.int .i64 (z0))), (PV.val (Value.int .i64 (z1)))]] (PV.val (Value.bool (true))) := by
  have hA := alive_spec
  have hf := few_spec b hb.1 hb.2
  have hm := Small_spec l hl
  cases g1 : fewP b with
  | false =>
    rw [g1] at hf
    refine pf_of tt_ok Tryz.func5 (by kernel_rfl) rfl rfl rfl rfl (fun st => ?_)
    (try (apply wO pk; exact rfl)); (repeat' (first | (show All _; constructor) | (show Imp _ _; constructor) | (show ImpX _ _ _ _; constructor) | (apply wC pk; (iterate 2 exact rfl)) | (apply wE pk; (iterate 2 exact rfl)) | (apply wX pk; exact rfl) | (apply wN pk; exact rfl) | (apply wD pk [] []; kernel_rfl; exact rfl; exact rfl) | (apply pwp_condC; simp only [cond_true, cond_false]) | (refine pwp_cond rfl (fun h => ?_) (fun h => ?_) <;> (try simp at h) <;> try (exfalso; omega)) | (refine pwp_ret ?_; refine ⟨_, _, _, rfl, Wk.refl _, StSub.refl _, ?_, rfl⟩; try rfl) | (apply callS; (iterate 3 exact rfl); (intro _; (first | apply hA | apply hf | apply (noB (by rename_i hh; exact hh))) <;> first | assumption | omega); rotate_left; (iterate 2 exact rfl)) | ((apply idxL pk 0; (iterate 5 exact rfl); (focus repeat' constructor); exact rfl; (intro _; rfl); (intro _; omega); exact rfl)) | (intros; (try simp only [List.length_map]); omega)))
  | true =>
  rw [g1] at hf
  cases g2 : smallP l with
  | false =>
    rw [g2] at hm
    refine pf_of tt_ok Tryz.func5 (by kernel_rfl) rfl rfl rfl rfl (fun st => ?_)
    (try (apply wO pk; exact rfl)); (repeat' (first | (show All _; constructor) | (show Imp _ _; constructor) | (show ImpX _ _ _ _; constructor) | (apply wC pk; (iterate 2 exact rfl)) | (apply wE pk; (iterate 2 exact rfl)) | (apply wX pk; exact rfl) | (apply wN pk; exact rfl) | (apply wD pk [] []; kernel_rfl; exact rfl; exact rfl) | (apply pwp_condC; simp only [cond_true, cond_false]) | (refine pwp_cond rfl (fun h => ?_) (fun h => ?_) <;> (try simp at h) <;> try (exfalso; omega)) | (refine pwp_ret ?_; refine ⟨_, _, _, rfl, Wk.refl _, StSub.refl _, ?_, rfl⟩; try rfl) | (apply callS; (iterate 3 exact rfl); (intro _; (first | apply hA | apply hf | apply hm | apply (noB (by rename_i hh; exact hh))) <;> first | assumption | omega); rotate_left; (iterate 2 exact rfl)) | ((apply idxL pk 0; (iterate 5 exact rfl); (focus repeat' constructor); exact rfl; (intro _; rfl); (intro _; omega); exact rfl)) | (intros; (try simp only [List.length_map]); omega)))
  | true =>
  rw [g2] at hm
  by_cases g3 : ¬ s.length ≤ 20
  · refine pf_of tt_ok Tryz.func5 (by kernel_rfl) rfl rfl rfl rfl (fun st => ?_)
    (try (apply wO pk; exact rfl)); (repeat' (first | (show All _; constructor) | (show Imp _ _; constructor) | (show ImpX _ _ _ _; constructor) | (apply wC pk; (iterate 2 exact rfl)) | (apply wE pk; (iterate 2 exact rfl)) | (apply wX pk; exact rfl) | (apply wN pk; exact rfl) | (apply wD pk [] []; kernel_rfl; exact rfl; exact rfl) | (apply pwp_condC; simp only [cond_true, cond_false]) | (refine pwp_cond rfl (fun h => ?_) (fun h => ?_) <;> (try simp at h) <;> try (exfalso; omega)) | (refine pwp_ret ?_; refine ⟨_, _, _, rfl, Wk.refl _, StSub.refl _, ?_, rfl⟩; try rfl) | (apply callS; (iterate 3 exact rfl); (intro _; (first | apply hA | apply hf | apply hm | apply (show PF Tryz.prog 12 [_, _] (PV.val (Value.bool (false))) from by rename_i hh; simp [gw] at hh; omega)) <;> first | assumption | omega); rotate_left; (iterate 2 exact rfl)) | ((apply idxL pk 0; (iterate 5 exact rfl); (focus repeat' constructor); exact rfl; (intro _; rfl); (intro _; omega); exact rfl)) | (intros; (try simp only [List.length_map]); omega) | ((exfalso; simp at *; omega))))
  replace g3 := Decidable.of_not_not g3
  have hB := few_S g1
  have hL := small_S g2
  have hr := rightB_spec hB (by omega) hs g3
  cases g4 : baseB T.rightP s b with
  | false =>
    rw [g4] at hr
    refine pf_of tt_ok Tryz.func5 (by kernel_rfl) rfl rfl rfl rfl (fun st => ?_)
    (try (apply wO pk; exact rfl)); (repeat' (first | (show All _; constructor) | (show Imp _ _; constructor) | (show ImpX _ _ _ _; constructor) | (apply wC pk; (iterate 2 exact rfl)) | (apply wE pk; (iterate 2 exact rfl)) | (apply wX pk; exact rfl) | (apply wN pk; exact rfl) | (apply wD pk [] []; kernel_rfl; exact rfl; exact rfl) | (apply pwp_condC; simp only [cond_true, cond_false]) | (refine pwp_cond rfl (fun h => ?_) (fun h => ?_) <;> (try simp at h) <;> try (exfalso; omega)) | (refine pwp_ret ?_; refine ⟨_, _, _, rfl, Wk.refl _, StSub.refl _, ?_, rfl⟩; try rfl) | (apply callS; (iterate 3 exact rfl); (intro _; (first | apply hA | apply hf | apply hm | apply hr) <;> first | assumption | omega); rotate_left; (iterate 2 exact rfl)) | ((apply idxL pk 0; (iterate 5 exact rfl); (focus repeat' constructor); exact rfl; (intro _; rfl); (intro _; omega); exact rfl)) | (intros; (try simp only [List.length_map]); omega) | ((exfalso; simp at *; omega))))
  | true =>
  rw [g4] at hr
  by_cases g5 : okT b z0 = true
  · have hK := baseB_lines g4 z0
    have hD := baseB_data g4 g5
    have hx := hB.put z0 hL
    obtain ⟨l1, l2⟩ := hB.l (by omega)
    obtain ⟨x1, x2⟩ := hx.l (by omega)
    have p1 := put_spec b z0 l l1 l2
    have q1 := get_spec2 hx (by omega) z0 l.key
    have q2 := get_spec2 hB (by omega) z0 z1
    have q3 := get_spec2 hx (by omega) z0 z1
    have n1 := new_spec s (by omega)
    have hN := BsS.new (s := s) g3
    obtain ⟨n2, n3⟩ := hN.l (by omega)
    have p2 := put_spec (newP s) z0 l n2 n3
    have r2 := rightB_spec (hN.put z0 hL) (by omega) hs g3
    have r1 := rightB_spec hx (by omega) hs g3
    have s1 := sameL_spec hL l
    have p3 := put_spec (putP b z0 l) z0 l x1 x2
    have s2 := sameB_spec hx (by omega) (putP b z0 l)
    have w1 := sameL_spec (hB.got z0 z1) ((getL (linesP (putP b z0 l) z0) z1).getD Ln.zero)
    have eN : okT (newP s) z0 = true := by rw [okT_new s b (baseB_iff.1 g4).1.2]; exact g5
    have hm1 : baseB T.rightP s (putP b z0 l) = lineB T.rightP s[z0.toNat]! l := by rw [putP_set, baseB_set g4 g5, dataB_put hD (by have := (hB.lines z0).1; omega)]
    have hm2 : baseB T.rightP s (putP (newP s) z0 l) = lineB T.rightP s[z0.toNat]! l := by rw [putP_set, baseB_set (newB (baseB_iff.1 g4).1.1) eN, lines_new, dataB_put (dataB_nil _) (by simp)]
    have e0 : linesP (putP b z0 l) z0 = putL (linesP b z0) l := by rw [putP_set, lines_set g5]
    have e1 : putP (putP b z0 l) z0 l = putP b z0 l := by rw [putP_set (putP b z0 l), e0, put_put hK, putP_set, set_set]
    rw [e1] at p3
    rw [e0, put_get hK] at q1
    rw [hm1] at r1
    rw [hm2] at r2
    rw [decide_eq_true rfl] at s1 s2
    simp only [okT, Bool.and_eq_true, decide_eq_true_eq] at g5
    by_cases hz : z1 = l.key
    · subst hz
      rw [e0, put_get hK] at q3 w1
      refine pf_of tt_ok Tryz.func5 (by kernel_rfl) rfl rfl rfl rfl (fun st => ?_)
      (try (apply wO pk; exact rfl)); (repeat' (first | (show All _; constructor) | (show Imp _ _; constructor) | (show ImpX _ _ _ _; constructor) | (apply wC pk; (iterate 2 exact rfl)) | (apply wE pk; (iterate 2 exact rfl)) | (apply wX pk; exact rfl) | (apply wN pk; exact rfl) | (apply wD pk [] []; kernel_rfl; exact rfl; exact rfl) | (apply pwp_condC; simp only [cond_true, cond_false]) | (refine pwp_cond rfl (fun h => ?_) (fun h => ?_) <;> (try simp at h) <;> try (exfalso; omega)) | (refine pwp_ret ?_; refine ⟨_, _, _, rfl, Wk.refl _, StSub.refl _, ?_, rfl⟩; try first | rfl | ((simp; done); done)) | (apply callS; (iterate 3 exact rfl); (intro _; (first | apply hA | apply hf | apply hm | apply hr | apply p1 | apply q1 | apply q2 | apply q3 | apply n1 | apply p2 | apply r2 | apply r1 | apply s1 | apply p3 | apply s2 | apply w1) <;> first | assumption | omega); rotate_left; (iterate 2 exact rfl)) | ((apply idxL pk 0; (iterate 5 exact rfl); (focus repeat' constructor); exact rfl; (intro _; rfl); (intro _; omega); exact rfl)) | ((apply idxL pk 1; (iterate 5 exact rfl); (focus repeat' constructor); exact rfl; (intro _; rfl); (intro _; omega); exact rfl)) | (intros; (try simp only [List.length_map]); omega) | ((exfalso; simp at *; omega))))
    · rw [e0, put_other hK hz] at q3 w1
      rw [decide_eq_true rfl] at w1
      refine pf_of tt_ok Tryz.func5 (by kernel_rfl) rfl rfl rfl rfl (fun st => ?_)
      (try (apply wO pk; exact rfl)); (repeat' (first | (show All _; constructor) | (show Imp _ _; constructor) | (show ImpX _ _ _ _; constructor) | (apply wC pk; (iterate 2 exact rfl)) | (apply wE pk; (iterate 2 exact rfl)) | (apply wX pk; exact rfl) | (apply wN pk; exact rfl) | (apply wD pk [] []; kernel_rfl; exact rfl; exact rfl) | (apply pwp_condC; simp only [cond_true, cond_false]) | (refine pwp_cond rfl (fun h => ?_) (fun h => ?_) <;> (try simp at h) <;> try (exfalso; omega)) | (refine pwp_ret ?_; refine ⟨_, _, _, rfl, Wk.refl _, StSub.refl _, ?_, rfl⟩; try first | rfl | ((simp; done); done)) | (apply callS; (iterate 3 exact rfl); (intro _; (first | apply hA | apply hf | apply hm | apply hr | apply p1 | apply q1 | apply q2 | apply q3 | apply n1 | apply p2 | apply r2 | apply r1 | apply s1 | apply p3 | apply s2 | apply w1) <;> first | assumption | omega); rotate_left; (iterate 2 exact rfl)) | ((apply idxL pk 0; (iterate 5 exact rfl); (focus repeat' constructor); exact rfl; (intro _; rfl); (intro _; omega); exact rfl)) | ((apply idxL pk 1; (iterate 5 exact rfl); (focus repeat' constructor); exact rfl; (intro _; rfl); (intro _; omega); exact rfl)) | (intros; (try simp only [List.length_map]); omega) | ((exfalso; simp at *; omega))))
  · simp only [okT, Bool.and_eq_true, decide_eq_true_eq] at g5
    refine pf_of tt_ok Tryz.func5 (by kernel_rfl) rfl rfl rfl rfl (fun st => ?_)
    (try (apply wO pk; exact rfl)); (repeat' (first | (show All _; constructor) | (show Imp _ _; constructor) | (show ImpX _ _ _ _; constructor) | (apply wC pk; (iterate 2 exact rfl)) | (apply wE pk; (iterate 2 exact rfl)) | (apply wX pk; exact rfl) | (apply wN pk; exact rfl) | (apply wD pk [] []; kernel_rfl; exact rfl; exact rfl) | (apply pwp_condC; simp only [cond_true, cond_false]) | (refine pwp_cond rfl (fun h => ?_) (fun h => ?_) <;> (try simp at h) <;> try (exfalso; omega)) | (refine pwp_ret ?_; refine ⟨_, _, _, rfl, Wk.refl _, StSub.refl _, ?_, rfl⟩; try rfl) | (apply callS; (iterate 3 exact rfl); (intro _; (first | apply hA | apply hf | apply hm | apply hr) <;> first | assumption | omega); rotate_left; (iterate 2 exact rfl)) | ((apply idxL pk 0; (iterate 5 exact rfl); (focus repeat' constructor); exact rfl; (intro _; rfl); (intro _; omega); exact rfl)) | (intros; (try simp only [List.length_map]); omega) | ((exfalso; simp at *; omega))))
end Go.Proofs.YtkaliolnijkadaaGreatDoor
