import Derived.Test.YtkaliolnijkadaaGreatDoorShowG
set_option linter.unusedSimpArgs false
set_option linter.unusedVariables false
namespace Go.Proofs.YtkaliolnijkadaaGreatDoor
open Go Go.Abs
attribute [local irreducible] Ev PWp
set_option maxRecDepth 10000
set_option maxHeartbeats 4000000
theorem line_cells {t : Tb} {l : Ln} (h : lineB T.rightP t l = true) (hk : numC t.cols[0]! = true) (ht : 0 < t.cols.length) : l.cells_.length = t.cols.length ∧ (l.cells_.map showC)[0]! = ⟨1, l.key, e0⟩ := by
  unfold lineB headB at h
  simp only [Bool.and_eq_true, decide_eq_true_eq] at h
  obtain ⟨⟨⟨_, _, h1⟩, h2⟩, h3, _⟩ := h
  have hc : 0 < l.cells_.length := by omega
  refine ⟨h1, ?_⟩
  have h4 := allR_iff.1 h3 0 hc
  unfold cellR at h4
  simp only [Bool.and_eq_true, decide_eq_true_eq] at h4
  unfold numC at hk
  simp only [Bool.and_eq_true, decide_eq_true_eq] at hk
  rw [getElem!_pos (l.cells_.map showC) 0 (by simpa using hc), List.getElem_map, ← getElem!_pos l.cells_ 0 hc]
  unfold showC
  rw [if_pos (by rw [h4.1, hk.1]), h2]
theorem rightS_num {s : Sc} (h : rightS s = 0) {k : Nat} (hk : k < s.length) : numC s[k].cols[0]! = true := by
  have := rightS_tab h hk (lk3 s[k]!) (by simp [lks])
  rw [getElem!_pos s k hk] at this
  unfold lk3 at this
  split at this
  · cases this
  · rename_i q; cases e : numC s[k].cols[0]! <;> simp_all
theorem bshows_spec (s : Sc) (b : Bs) (z : Int) (hs : ScB s) (hb : BsB b) : PF Tryz.prog 8 [.agg (scC s), .agg (bsC b), (PV.val (Value.int .i64 (z)))] (PV.val (Value.bool (true))) := by
  have hA := alive_spec
  have hf := few_spec b hb.1 hb.2
  cases g1 : fewP b with
  | false =>
    rw [g1] at hf
    refine pf_of tt_ok Tryz.func8 (by kernel_rfl) rfl rfl rfl rfl (fun st => ?_)
    (try (apply wO pk; exact rfl)); (repeat' (first | (show All _; constructor) | (show Imp _ _; constructor) | (show ImpX _ _ _ _; constructor) | (apply wC pk; (iterate 2 exact rfl)) | (apply wE pk; (iterate 2 exact rfl)) | (apply wX pk; exact rfl) | (apply wN pk; exact rfl) | (apply wD pk [] []; kernel_rfl; exact rfl; exact rfl) | (apply pwp_condC; simp only [cond_true, cond_false]) | (refine pwp_cond rfl (fun h => ?_) (fun h => ?_) <;> (try simp at h) <;> try (exfalso; omega)) | (refine pwp_ret ?_; refine ⟨_, _, _, rfl, Wk.refl _, StSub.refl _, ?_, rfl⟩; try rfl) | (apply callS; (iterate 3 exact rfl); (intro _; (first | apply hA | apply hf | apply (noB (by rename_i hh; exact hh))) <;> first | assumption | omega); rotate_left; (iterate 2 exact rfl)) | (intros; (try simp only [List.length_map]); omega)))
  | true =>
  rw [g1] at hf
  by_cases g3 : ¬ s.length ≤ 20
  · refine pf_of tt_ok Tryz.func8 (by kernel_rfl) rfl rfl rfl rfl (fun st => ?_)
    (try (apply wO pk; exact rfl)); (repeat' (first | (show All _; constructor) | (show Imp _ _; constructor) | (show ImpX _ _ _ _; constructor) | (apply wC pk; (iterate 2 exact rfl)) | (apply wE pk; (iterate 2 exact rfl)) | (apply wX pk; exact rfl) | (apply wN pk; exact rfl) | (apply wD pk [] []; kernel_rfl; exact rfl; exact rfl) | (apply pwp_condC; simp only [cond_true, cond_false]) | (refine pwp_cond rfl (fun h => ?_) (fun h => ?_) <;> (try simp at h) <;> try (exfalso; omega)) | (refine pwp_ret ?_; refine ⟨_, _, _, rfl, Wk.refl _, StSub.refl _, ?_, rfl⟩; try rfl) | (apply callS; (iterate 3 exact rfl); (intro _; (first | apply hA | apply hf | apply (show PF Tryz.prog 12 [_, _] (PV.val (Value.bool (false))) from by rename_i hh; simp [gw] at hh; omega)) <;> first | assumption | omega); rotate_left; (iterate 2 exact rfl)) | (intros; (try simp only [List.length_map]); omega) | ((exfalso; simp at *; omega))))
  replace g3 := Decidable.of_not_not g3
  have hB := few_S g1
  have hr := rightB_spec hB (by omega) hs g3
  cases g4 : baseB T.rightP s b with
  | false =>
    rw [g4] at hr
    refine pf_of tt_ok Tryz.func8 (by kernel_rfl) rfl rfl rfl rfl (fun st => ?_)
    (try (apply wO pk; exact rfl)); (repeat' (first | (show All _; constructor) | (show Imp _ _; constructor) | (show ImpX _ _ _ _; constructor) | (apply wC pk; (iterate 2 exact rfl)) | (apply wE pk; (iterate 2 exact rfl)) | (apply wX pk; exact rfl) | (apply wN pk; exact rfl) | (apply wD pk [] []; kernel_rfl; exact rfl; exact rfl) | (apply pwp_condC; simp only [cond_true, cond_false]) | (refine pwp_cond rfl (fun h => ?_) (fun h => ?_) <;> (try simp at h) <;> try (exfalso; omega)) | (refine pwp_ret ?_; refine ⟨_, _, _, rfl, Wk.refl _, StSub.refl _, ?_, rfl⟩; try rfl) | (apply callS; (iterate 3 exact rfl); (intro _; (first | apply hA | apply hf | apply hr) <;> first | assumption | omega); rotate_left; (iterate 2 exact rfl)) | (intros; (try simp only [List.length_map]); omega) | ((exfalso; simp at *; omega))))
  | true =>
  rw [g4] at hr
  cases g5 : okT b z with
  | false =>
    simp only [okT, Bool.and_eq_false_iff, decide_eq_false_iff_not] at g5
    refine pf_of tt_ok Tryz.func8 (by kernel_rfl) rfl rfl rfl rfl (fun st => ?_)
    (try (apply wO pk; exact rfl)); (repeat' (first | (show All _; constructor) | (show Imp _ _; constructor) | (show ImpX _ _ _ _; constructor) | (apply wC pk; (iterate 2 exact rfl)) | (apply wE pk; (iterate 2 exact rfl)) | (apply wX pk; exact rfl) | (apply wN pk; exact rfl) | (apply wD pk [] []; kernel_rfl; exact rfl; exact rfl) | (apply pwp_condC; simp only [cond_true, cond_false]) | (refine pwp_cond rfl (fun h => ?_) (fun h => ?_) <;> (try simp at h) <;> try (exfalso; omega)) | (refine pwp_ret ?_; refine ⟨_, _, _, rfl, Wk.refl _, StSub.refl _, ?_, rfl⟩; try rfl) | (apply callS; (iterate 3 exact rfl); (intro _; (first | apply hA | apply hf | apply hr) <;> first | assumption | omega); rotate_left; (iterate 2 exact rfl)) | (intros; (try simp only [List.length_map]); omega) | ((exfalso; simp at *; omega))))
  | true =>
  have hD := baseB_data g4 g5
  simp only [okT, Bool.and_eq_true, decide_eq_true_eq] at g5
  obtain ⟨q, rfl⟩ : ∃ q : Nat, z = q := ⟨z.toNat, by omega⟩
  have hq : q < b.length := by omega
  obtain ⟨⟨hS0, hSl⟩, _⟩ := baseB_iff.1 g4
  have hqs : q < s.length := by omega
  have hln : linesP b q = b[q].lines := by unfold linesP okT; rw [if_pos (by simp [hq]), Int.toNat_natCast, getElem!_pos b q hq]
  rw [hln, Int.toNat_natCast, getElem!_pos s q hqs] at hD
  obtain ⟨hd1, hd2, hd3⟩ := dataB_iff.1 hD
  have hnum := rightS_num hS0 hqs
  have hcol := rightS_cols hS0 hqs
  obtain ⟨hL1, hL2⟩ := hB.2 _ (List.getElem_mem hq)
  have hsh := shown_spec showC b q hq (by omega) fun l hl => by
    obtain ⟨u1, u2, u3⟩ := hL2 l hl
    exact ⟨by omega, fun c hc => show_ok c (u3 c hc)⟩
  have hc1 : s[q].cols.length < 200000000000000 := (hs _ (List.getElem_mem hqs)).c
  refine pf_of tt_ok Tryz.func8 (by kernel_rfl) rfl rfl rfl rfl (fun st => ?_)
  focus ((try (apply wO pk; exact rfl)); (repeat' (first | (show All _; constructor) | (show Imp _ _; constructor) | (show ImpX _ _ _ _; constructor) | (apply wC pk; (iterate 2 exact rfl)) | (apply wE pk; (iterate 2 exact rfl)) | (apply wX pk; exact rfl) | (apply wN pk; exact rfl) | (apply wD pk [] []; kernel_rfl; exact rfl; exact rfl) | (apply pwp_condC; simp only [cond_true, cond_false]) | (refine pwp_cond rfl (fun h => ?_) (fun h => ?_) <;> (try simp at h) <;> try (exfalso; omega)) | (refine pwp_ret ?_; refine ⟨_, _, _, rfl, Wk.refl _, StSub.refl _, ?_, rfl⟩; try rfl) | (apply callS; (iterate 3 exact rfl); (intro _; (first | apply hf | apply hr | apply hsh) <;> first | assumption | omega); rotate_left; (iterate 2 exact rfl)) | (apply idxS pk; (iterate 6 exact rfl); rotate_left; exact rfl; (intro hw; exact rfl); (intro hw; apply get_map <;> omega); (intro _; exact rfl); exact rfl) | (intros; (try simp only [List.length_map]); omega) | ((exfalso; simp at *; omega)))))
  refine pwp_loop (X := { x : Nat // x ≤ b[q].lines.length }) (fun i => (((((((St.nil 111 st).pv 2 ((PV.val (Value.int .i64 ((q : Nat)))))).var 3 24 ((scC s))).var 4 27 ((bsC b))).pv 53 (.seq ((b[q].lines.map (rowP showC)).map roC))).pv 54 ((PV.val (Value.int .i64 ((((b[q].lines.map (rowP showC)).map roC).length : Nat)))))).pv 55 ((PV.val (Value.int .i64 ((i.1 : Nat))))))) (fun i => b[q].lines.length - i.1) ⟨0, by omega⟩ ?_ (fun i => ?_)
  · ((repeat (first | refine Sub.pv ?_ rfl | refine Sub.var ?_ rfl rfl)); exact Sub.nil _ _ _ (StSub.refl _) rfl)
  obtain ⟨i, hi⟩ := i
  dsimp only
  have hml : (b[q].lines.map (rowP showC)).length = b[q].lines.length := List.length_map _
  by_cases hend : b[q].lines.length ≤ i
  · (try (apply wO pk; exact rfl)); (repeat' (first | (show All _; constructor) | (show Imp _ _; constructor) | (show ImpX _ _ _ _; constructor) | (apply wC pk; (iterate 2 exact rfl)) | (apply wE pk; (iterate 2 exact rfl)) | (apply wX pk; exact rfl) | (apply wN pk; exact rfl) | (apply wD pk [] []; kernel_rfl; exact rfl; exact rfl) | (apply pwp_condC; simp only [cond_true, cond_false]) | (refine pwp_cond rfl (fun h => ?_) (fun h => ?_) <;> (try simp at h) <;> try (exfalso; omega)) | (refine pwp_ret ?_; refine ⟨_, _, _, rfl, Wk.refl _, StSub.refl _, ?_, rfl⟩; try rfl) | (apply callS; (iterate 3 exact rfl); (intro _; apply hA <;> first | assumption | omega); rotate_left; (iterate 2 exact rfl)) | (intros; (try simp only [List.length_map]); omega)))
  have hil : i < b[q].lines.length := by omega
  obtain ⟨v1, v2⟩ := line_cells (hd2 _ (List.getElem_mem hil)) hnum hcol
  have hrow : ((b[q].lines.map (rowP showC)).map roC)[i]? = some (roC (b[q].lines[i].cells_.map showC)) := by
    rw [List.getElem?_map, List.getElem?_map, List.getElem?_eq_getElem hil]; rfl
  have hcl : 0 < b[q].lines[i].cells_.length := by omega
  have hM : (b[q].lines[i].cells_.map showC).length = b[q].lines[i].cells_.length := List.length_map _
  have hv0 : ((b[q].lines[i].cells_.map showC).map Vl.cells)[0]? = some (Vl.cells ⟨1, b[q].lines[i].key, e0⟩) := by
    rw [List.getElem?_map, List.getElem?_eq_getElem (by omega), ← getElem!_pos (b[q].lines[i].cells_.map showC) 0 (by omega), v2]; rfl
  obtain ⟨u1, u2, u3⟩ := hL2 _ (List.getElem_mem hil)
  focus ((try (apply wO pk; exact rfl)); (repeat' (first | (show All _; constructor) | (show Imp _ _; constructor) | (show ImpX _ _ _ _; constructor) | (apply wC pk; (iterate 2 exact rfl)) | (apply wE pk; (iterate 2 exact rfl)) | (apply wX pk; exact rfl) | (apply wN pk; exact rfl) | (apply wD pk [] []; kernel_rfl; exact rfl; exact rfl) | (apply pwp_condC; simp only [cond_true, cond_false]) | (refine pwp_cond rfl (fun h => ?_) (fun h => ?_) <;> (try simp at h) <;> try (exfalso; omega)) | (refine pwp_ret ?_; refine ⟨_, _, _, rfl, Wk.refl _, StSub.refl _, ?_, rfl⟩; try rfl) | (apply idxS pk; (iterate 6 exact rfl); rotate_left; exact rfl; (first | ((intro hw; exact rfl); (intro hw; apply hrow <;> omega); (intro _; exact rfl)) | ((intro hw; exact rfl); (intro hw; apply get_map <;> omega); (intro _; exact rfl)) | ((intro hw; exact rfl); (intro hw; apply hv0 <;> omega); (intro _; exact rfl))); exact rfl) | (intros; (try simp only [List.length_map]); omega) | ((exfalso; grind)))))
  refine pwp_loop (X := { x : Nat // x ≤ b[q].lines[i].cells_.length }) (fun y => (((((((((((St.nil 111 st).pv 2 ((PV.val (Value.int .i64 ((q : Nat)))))).var 3 24 ((scC s))).var 4 27 ((bsC b))).var 10 37 (b[q].lines[i].cells)).pv 53 (.seq ((b[q].lines.map (rowP showC)).map roC))).pv 54 ((PV.val (Value.int .i64 ((((b[q].lines.map (rowP showC)).map roC).length : Nat)))))).pv 55 ((PV.val (Value.int .i64 ((i : Nat)))))).pv 93 (.seq ((b[q].lines[i].cells_.map showC).map Vl.cells))).pv 94 ((PV.val (Value.int .i64 ((((b[q].lines[i].cells_.map showC).map Vl.cells).length : Nat)))))).pv 95 ((PV.val (Value.int .i64 ((y.1 : Nat))))))) (fun y => b[q].lines[i].cells_.length - y.1) ⟨0, by omega⟩ ?_ (fun y => ?_)
  · ((repeat (first | refine Sub.pv ?_ rfl | refine Sub.var ?_ rfl rfl)); exact Sub.nil _ _ _ (StSub.refl _) rfl)
  obtain ⟨y, hy⟩ := y
  dsimp only
  by_cases hend2 : b[q].lines[i].cells_.length ≤ y
  · (try (apply wO pk; exact rfl)); (repeat' (first | (show All _; constructor) | (show Imp _ _; constructor) | (show ImpX _ _ _ _; constructor) | (apply wC pk; (iterate 2 exact rfl)) | (apply wE pk; (iterate 2 exact rfl)) | (apply wX pk; exact rfl) | (apply wN pk; exact rfl) | (apply wD pk [] []; kernel_rfl; exact rfl; exact rfl) | (apply pwp_condC; simp only [cond_true, cond_false]) | (refine pwp_cond rfl (fun h => ?_) (fun h => ?_) <;> (try simp at h) <;> try (exfalso; omega)) | (refine pwp_ret ?_; refine ⟨_, _, _, rfl, Wk.refl _, StSub.refl _, ?_, rfl⟩; try rfl) | (refine ⟨⟨i + 1, by omega⟩, ?_, by simp only; omega⟩; ((repeat (first | refine Sub.pv ?_ rfl | refine Sub.var ?_ rfl rfl)); exact Sub.nil _ _ _ (StSub.refl _) rfl)) | (intros; (try simp only [List.length_map]); omega)))
  have hyl : y < b[q].lines[i].cells_.length := by omega
  have hvy : ((b[q].lines[i].cells_.map showC).map Vl.cells)[y]? = some (Vl.cells (showC b[q].lines[i].cells_[y])) := by
    rw [List.getElem?_map, List.getElem?_map, List.getElem?_eq_getElem hyl]; rfl
  have hso : PF Tryz.prog 27 [.agg b[q].lines[i].cells_[y].cells] (.agg (showC b[q].lines[i].cells_[y]).cells) := show_ok _ (u3 _ (List.getElem_mem hyl))
  (try (apply wO pk; exact rfl)); (repeat' (first | (show All _; constructor) | (show Imp _ _; constructor) | (show ImpX _ _ _ _; constructor) | (apply wC pk; (iterate 2 exact rfl)) | (apply wE pk; (iterate 2 exact rfl)) | (apply wX pk; exact rfl) | (apply wN pk; exact rfl) | (apply wD pk [] []; kernel_rfl; exact rfl; exact rfl) | (apply pwp_condC; simp only [cond_true, cond_false]) | (refine pwp_cond rfl (fun h => ?_) (fun h => ?_) <;> (try simp at h) <;> try (exfalso; omega)) | (refine pwp_ret ?_; refine ⟨_, _, _, rfl, Wk.refl _, StSub.refl _, ?_, rfl⟩; try rfl) | (apply callS; (iterate 3 exact rfl); (intro _; apply hso <;> first | assumption | omega); rotate_left; (iterate 2 exact rfl)) | (apply idxS pk; (iterate 6 exact rfl); rotate_left; exact rfl; (first | ((intro hw; exact rfl); (intro hw; apply hvy <;> omega); (intro _; exact rfl)) | ((intro hw; exact rfl); (intro hw; apply get_map <;> omega); (intro _; exact rfl))); exact rfl) | (refine ⟨⟨y + 1, by omega⟩, ?_, by simp only; omega⟩; ((repeat (first | refine Sub.pv ?_ rfl | refine Sub.var ?_ rfl rfl)); exact Sub.nil _ _ _ (StSub.refl _) rfl)) | (intros; (try simp only [List.length_map]); omega) | ((exfalso; simp at *; omega))))
end Go.Proofs.YtkaliolnijkadaaGreatDoor
