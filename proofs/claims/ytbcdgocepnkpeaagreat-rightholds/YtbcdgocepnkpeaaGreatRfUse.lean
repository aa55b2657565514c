import Derived.Test.YtbcdgocepnkpeaaGreatRfHand
set_option linter.unusedSimpArgs false
set_option linter.unusedVariables false
namespace Go.Proofs.YtbcdgocepnkpeaaGreat
open Go Go.Abs
attribute [local irreducible] Ev PWp
set_option maxRecDepth 10000
set_option maxHeartbeats 2000000
theorem rfits_spec (n : Int) : PF Tryz.prog 47 [(PV.val (Value.int .i64 (n)))] (PV.val (Value.bool (fitsB n))) := by
  refine pf_of tt_ok Tryz.func47 (by kernel_rfl) rfl rfl rfl rfl (fun st => ?_)
  (try (apply wO pk; exact rfl)); (repeat' (first | exact All.nil | refine All.cons ?_ ?_ | (apply wC pk; exact rfl; exact rfl) | (apply wE pk; exact rfl; exact rfl) | (apply wX pk; exact rfl) | (apply wN pk; exact rfl) | (apply wD pk [] []; kernel_rfl; exact rfl; exact rfl) | exact Imp.one | exact Imp.same | refine Imp.left ?_ | exact ImpX.one | exact ImpX.same | exact ImpX.mk | refine ImpX.up ?_ | refine ImpX.old ?_ | (apply pwp_condC; simp only [cond_true, cond_false]) | (refine pwp_cond rfl (fun h => ?_) (fun h => ?_) <;> (try simp at h) <;> (first | done | (exfalso; omega) | skip)) | (refine pwp_ret ?_; refine ⟨_, _, _, rfl, Wk.refl _, StSub.refl _, ?_, rfl⟩; (first | rfl | skip)) | (intros; omega) | (intros; simp only [List.length_map]; omega)))
theorem ruse_spec (s : Sc) (hs : FewS s) (o : List Ow) (hf : FewN 20 o) (dev table sum group by_ : Int) : PF Tryz.prog 21 [.agg (scC s), .seq (o.map Ow.cells), (PV.val (Value.int .i64 (dev))), (PV.val (Value.int .i64 (table))), (PV.val (Value.int .i64 (sum))), (PV.val (Value.int .i64 (group))), (PV.val (Value.int .i64 (by_)))] (.tup [.seq ((useP s o dev table sum group by_).1.map Ow.cells), (PV.val (Value.int .i64 ((useP s o dev table sum group by_).2)))]) := by
  have ho := hf.o (by omega)
  have hc := rcanon_spec s hs o ho
  have h1 := rfits_spec group
  have h2 := rfits_spec by_
  have ht : PF Tryz.prog 31 [.agg (scC s), .agg (useR table sum group by_).cells] (PV.val (Value.int .i64 (thereP s 3 table sum))) := rthere_spec s hs (useR table sum group by_)
  have hb := rbudget_spec s hs o ho dev table sum group
  unfold useP
  by_cases hg : ¬ ((((canonP s o = true ∧ fitsB group = true) ∧ fitsB by_ = true) ∧ 1 ≤ dev) ∧ dev ≤ 64)
  · rw [if_pos (fun q => hg ⟨⟨⟨⟨q.1.1.1, q.1.2⟩, q.2⟩, by have := q.1.1.2; simp [deviceB] at this; omega⟩, by have := q.1.1.2; simp [deviceB] at this; omega⟩)]
    generalize canonP s o = c at *
    generalize fitsB group = f1 at *
    generalize fitsB by_ = f2 at *
    refine pf_of tt_ok Tryz.func21 (by kernel_rfl) rfl rfl rfl rfl (fun st => ?_)
    (try (apply wO pk; exact rfl)); (repeat' (first | ((refine pwp_ret ?_; exact ⟨_, _, st, rfl, Wk.soft _, StSub.refl _, rfl, rfl⟩)) | ((exfalso; exact hg (by assumption))) | exact All.nil | refine All.cons ?_ ?_ | (apply wC pk; exact rfl; exact rfl) | (apply wE pk; exact rfl; exact rfl) | (apply wX pk; exact rfl) | (apply wN pk; exact rfl) | (apply wD pk [] []; kernel_rfl; exact rfl; exact rfl) | exact Imp.one | exact Imp.same | refine Imp.left ?_ | exact ImpX.one | exact ImpX.same | exact ImpX.mk | refine ImpX.up ?_ | refine ImpX.old ?_ | (apply pwp_condC; simp only [cond_true, cond_false]) | (refine pwp_cond rfl (fun h => ?_) (fun h => ?_) <;> (try simp at h) <;> (first | done | (exfalso; omega) | skip)) | (refine pwp_ret ?_; refine ⟨_, _, _, rfl, Wk.refl _, StSub.refl _, ?_, rfl⟩; (first | rfl | skip)) | (apply callS; exact rfl; exact rfl; exact rfl; (intro _; first | (apply hc <;> first | assumption | omega) | (apply h1 <;> first | assumption | omega) | (apply h2 <;> first | assumption | omega)); rotate_left; exact rfl; exact rfl) | (apply callV; exact rfl; exact rfl; exact rfl; (intro _; first | (apply hc <;> first | assumption | omega) | (apply h1 <;> first | assumption | omega) | (apply h2 <;> first | assumption | omega)); rotate_left; exact rfl; exact rfl) | (intros; omega) | (intros; simp only [List.length_map]; omega)))
  replace hg := Decidable.of_not_not hg
  obtain ⟨⟨⟨⟨g1, g2⟩, g3⟩, g4⟩, g5⟩ := hg
  have hCO := (canon_iff s o).1 g1
  have hn := hCO.nfo
  rw [if_neg (fun q => q ⟨⟨⟨g1, by simp [deviceB]; omega⟩, g2⟩, g3⟩)]
  rw [g1] at hc
  rw [g2] at h1
  rw [g3] at h2
  have hby := (fits_iff by_).1 g3
  by_cases c1 : thereP s 3 table sum ≠ 0
  · rw [if_pos c1]
    generalize thereP s 3 table sum = th at *
    refine pf_of tt_ok Tryz.func21 (by kernel_rfl) rfl rfl rfl rfl (fun st => ?_)
    (try (apply wO pk; exact rfl)); (repeat' (first | ((refine pwp_ret ?_; exact ⟨_, _, st, rfl, Wk.soft _, StSub.refl _, rfl, rfl⟩)) | ((exfalso; omega)) | exact All.nil | refine All.cons ?_ ?_ | (apply wC pk; exact rfl; exact rfl) | (apply wE pk; exact rfl; exact rfl) | (apply wX pk; exact rfl) | (apply wN pk; exact rfl) | (apply wD pk [] []; kernel_rfl; exact rfl; exact rfl) | exact Imp.one | exact Imp.same | refine Imp.left ?_ | exact ImpX.one | exact ImpX.same | exact ImpX.mk | refine ImpX.up ?_ | refine ImpX.old ?_ | (apply pwp_condC; simp only [cond_true, cond_false]) | (refine pwp_cond rfl (fun h => ?_) (fun h => ?_) <;> (try simp at h) <;> (first | done | (exfalso; omega) | skip)) | (refine pwp_ret ?_; refine ⟨_, _, _, rfl, Wk.refl _, StSub.refl _, ?_, rfl⟩; (first | rfl | skip)) | (apply callS; exact rfl; exact rfl; exact rfl; (intro _; first | (apply hc <;> first | assumption | omega) | (apply h1 <;> first | assumption | omega) | (apply h2 <;> first | assumption | omega) | (apply ht <;> first | assumption | omega)); rotate_left; exact rfl; exact rfl) | (apply callV; exact rfl; exact rfl; exact rfl; (intro _; first | (apply hc <;> first | assumption | omega) | (apply h1 <;> first | assumption | omega) | (apply h2 <;> first | assumption | omega) | (apply ht <;> first | assumption | omega)); rotate_left; exact rfl; exact rfl) | (intros; omega) | (intros; simp only [List.length_map]; omega)))
  rw [if_neg c1]
  have c1 : thereP s 3 table sum = 0 := Decidable.of_not_not c1
  rw [c1] at ht
  by_cases c2 : by_ > budgetP s o dev table sum group
  · rw [if_pos c2]
    generalize budgetP s o dev table sum group = bu at *
    refine pf_of tt_ok Tryz.func21 (by kernel_rfl) rfl rfl rfl rfl (fun st => ?_)
    (try (apply wO pk; exact rfl)); (repeat' (first | ((refine pwp_ret ?_; exact ⟨_, _, st, rfl, Wk.soft _, StSub.refl _, rfl, rfl⟩)) | ((exfalso; omega)) | exact All.nil | refine All.cons ?_ ?_ | (apply wC pk; exact rfl; exact rfl) | (apply wE pk; exact rfl; exact rfl) | (apply wX pk; exact rfl) | (apply wN pk; exact rfl) | (apply wD pk [] []; kernel_rfl; exact rfl; exact rfl) | exact Imp.one | exact Imp.same | refine Imp.left ?_ | exact ImpX.one | exact ImpX.same | exact ImpX.mk | refine ImpX.up ?_ | refine ImpX.old ?_ | (apply pwp_condC; simp only [cond_true, cond_false]) | (refine pwp_cond rfl (fun h => ?_) (fun h => ?_) <;> (try simp at h) <;> (first | done | (exfalso; omega) | skip)) | (refine pwp_ret ?_; refine ⟨_, _, _, rfl, Wk.refl _, StSub.refl _, ?_, rfl⟩; (first | rfl | skip)) | (apply callS; exact rfl; exact rfl; exact rfl; (intro _; first | (apply hc <;> first | assumption | omega) | (apply h1 <;> first | assumption | omega) | (apply h2 <;> first | assumption | omega) | (apply ht <;> first | assumption | omega) | (apply hb <;> first | assumption | omega)); rotate_left; exact rfl; exact rfl) | (apply callV; exact rfl; exact rfl; exact rfl; (intro _; first | (apply hc <;> first | assumption | omega) | (apply h1 <;> first | assumption | omega) | (apply h2 <;> first | assumption | omega) | (apply ht <;> first | assumption | omega) | (apply hb <;> first | assumption | omega)); rotate_left; exact rfl; exact rfl) | (intros; omega) | (intros; simp only [List.length_map]; omega)))
  rw [if_neg c2]
  have ha0 := amt_spec o ho dev (useR table sum group by_)
  rw [amG_amL rfl] at ha0
  have ha : PF Tryz.prog 45 [.seq (o.map Ow.cells), (PV.val (Value.int .i64 (dev))), .agg (useR table sum group by_).cells] (PV.val (Value.int .i64 (amL (rtsOf o dev) (kS table sum group)))) := ha0
  clear ha0
  have hbd := amtOf_ok hs hCO dev (kS table sum group)
  rw [amt_open hn] at hbd
  generalize budgetP s o dev table sum group = bu at *
  by_cases c3 : amL (rtsOf o dev) (kS table sum group) - by_ > 1099511627776
  · rw [if_pos c3]
    generalize amL (rtsOf o dev) (kS table sum group) = am at *
    refine pf_of tt_ok Tryz.func21 (by kernel_rfl) rfl rfl rfl rfl (fun st => ?_)
    (try (apply wO pk; exact rfl)); (repeat' (first | ((refine pwp_ret ?_; exact ⟨_, _, st, rfl, Wk.soft _, StSub.refl _, rfl, rfl⟩)) | ((exfalso; omega)) | exact All.nil | refine All.cons ?_ ?_ | (apply wC pk; exact rfl; exact rfl) | (apply wE pk; exact rfl; exact rfl) | (apply wX pk; exact rfl) | (apply wN pk; exact rfl) | (apply wD pk [] []; kernel_rfl; exact rfl; exact rfl) | exact Imp.one | exact Imp.same | refine Imp.left ?_ | exact ImpX.one | exact ImpX.same | exact ImpX.mk | refine ImpX.up ?_ | refine ImpX.old ?_ | (apply pwp_condC; simp only [cond_true, cond_false]) | (refine pwp_cond rfl (fun h => ?_) (fun h => ?_) <;> (try simp at h) <;> (first | done | (exfalso; omega) | skip)) | (refine pwp_ret ?_; refine ⟨_, _, _, rfl, Wk.refl _, StSub.refl _, ?_, rfl⟩; (first | rfl | skip)) | (apply callS; exact rfl; exact rfl; exact rfl; (intro _; first | (apply hc <;> first | assumption | omega) | (apply h1 <;> first | assumption | omega) | (apply h2 <;> first | assumption | omega) | (apply ht <;> first | assumption | omega) | (apply hb <;> first | assumption | omega) | (apply ha <;> first | assumption | omega)); rotate_left; exact rfl; exact rfl) | (apply callV; exact rfl; exact rfl; exact rfl; (intro _; first | (apply hc <;> first | assumption | omega) | (apply h1 <;> first | assumption | omega) | (apply h2 <;> first | assumption | omega) | (apply ht <;> first | assumption | omega) | (apply hb <;> first | assumption | omega) | (apply ha <;> first | assumption | omega)); rotate_left; exact rfl; exact rfl) | (intros; omega) | (intros; simp only [List.length_map]; omega)))
  rw [if_neg c3]
  have hl := list_spec o ho dev
  have hll := hf.rts dev
  have hp := put_spec (rtsOf o dev) (useR table sum group by_) (by omega) (amb_canon hs hCO dev) (by show _ ≤ 0 - by_ ∧ 0 - by_ ≤ _; omega)
  have hpl := putP_len (rtsOf o dev) (useR table sum group by_)
  have hw := with_spec o dev (putP (rtsOf o dev) (useR table sum group by_)) (by have := hf.1; omega) (by omega)
  generalize withP o dev (putP (rtsOf o dev) (useR table sum group by_)) = o2 at *
  generalize putP (rtsOf o dev) (useR table sum group by_) = l2 at *
  generalize amL (rtsOf o dev) (kS table sum group) = am at *
  generalize rtsOf o dev = l1 at *
  refine pf_of tt_ok Tryz.func21 (by kernel_rfl) rfl rfl rfl rfl (fun st => ?_)
  (try (apply wO pk; exact rfl)); (repeat' (first | ((refine pwp_ret ?_; exact ⟨_, _, st, rfl, Wk.soft _, StSub.refl _, rfl, rfl⟩)) | ((exfalso; omega)) | exact All.nil | refine All.cons ?_ ?_ | (apply wC pk; exact rfl; exact rfl) | (apply wE pk; exact rfl; exact rfl) | (apply wX pk; exact rfl) | (apply wN pk; exact rfl) | (apply wD pk [] []; kernel_rfl; exact rfl; exact rfl) | exact Imp.one | exact Imp.same | refine Imp.left ?_ | exact ImpX.one | exact ImpX.same | exact ImpX.mk | refine ImpX.up ?_ | refine ImpX.old ?_ | (apply pwp_condC; simp only [cond_true, cond_false]) | (refine pwp_cond rfl (fun h => ?_) (fun h => ?_) <;> (try simp at h) <;> (first | done | (exfalso; omega) | skip)) | (refine pwp_ret ?_; refine ⟨_, _, _, rfl, Wk.refl _, StSub.refl _, ?_, rfl⟩; (first | rfl | skip)) | (apply callS; exact rfl; exact rfl; exact rfl; (intro _; first | (apply hc <;> first | assumption | omega) | (apply h1 <;> first | assumption | omega) | (apply h2 <;> first | assumption | omega) | (apply ht <;> first | assumption | omega) | (apply hb <;> first | assumption | omega) | (apply ha <;> first | assumption | omega) | (apply hl <;> first | assumption | omega) | (apply hp <;> first | assumption | omega) | (apply hw <;> first | assumption | omega)); rotate_left; exact rfl; exact rfl) | (apply callV; exact rfl; exact rfl; exact rfl; (intro _; first | (apply hc <;> first | assumption | omega) | (apply h1 <;> first | assumption | omega) | (apply h2 <;> first | assumption | omega) | (apply ht <;> first | assumption | omega) | (apply hb <;> first | assumption | omega) | (apply ha <;> first | assumption | omega) | (apply hl <;> first | assumption | omega) | (apply hp <;> first | assumption | omega) | (apply hw <;> first | assumption | omega)); rotate_left; exact rfl; exact rfl) | (intros; omega) | (intros; simp only [List.length_map]; omega)))
end Go.Proofs.YtbcdgocepnkpeaaGreat
