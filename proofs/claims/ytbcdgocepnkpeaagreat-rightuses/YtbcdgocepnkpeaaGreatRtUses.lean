import Derived.Test.YtbcdgocepnkpeaaGreatRfUse
import Derived.Test.YtbcdgocepnkpeaaGreatRtAwake
set_option linter.unusedSimpArgs false
set_option linter.unusedVariables false
namespace Go.Proofs.YtbcdgocepnkpeaaGreat
open Go Go.Abs
attribute [local irreducible] Ev PWp
set_option maxRecDepth 10000
set_option maxHeartbeats 2000000
theorem useP_few {s : Sc} {o : List Ow} (hf : FewN 20 o) (dev table sum group by_ : Int) : FewN 30 (useP s o dev table sum group by_).1 := by
  have h0 : FewN 30 ([] : List Ow) := ⟨by simp, fun _ h => by cases h⟩
  unfold useP
  split
  · exact h0
  split
  · exact h0
  split
  · exact h0
  split
  · exact h0
  · have := hf.rts dev
    have := putP_len (rtsOf o dev) (useR table sum group by_)
    exact hf.with dev (by omega) (by omega)
theorem uses_spec (s : Sc) (o : List Ow) (dev table sum group by_ : Int) : PF Tryz.prog 5 [.agg (scC s), .seq (o.map Ow.cells), (PV.val (Value.int .i64 (dev))), (PV.val (Value.int .i64 (table))), (PV.val (Value.int .i64 (sum))), (PV.val (Value.int .i64 (group))), (PV.val (Value.int .i64 (by_)))] (PV.val (Value.bool (true))) := by
  have ha := awake_spec
  have hf := few_spec s o
  cases hfw : fewB s o with
  | false =>
    rw [hfw] at hf
    refine pf_of tt_ok Tryz.func5 (by kernel_rfl) rfl rfl rfl rfl (fun st => ?_)
    (try (apply wO pk; exact rfl)); (repeat' (first | exact All.nil | refine All.cons ?_ ?_ | (apply wC pk; exact rfl; exact rfl) | (apply wE pk; exact rfl; exact rfl) | (apply wX pk; exact rfl) | (apply wN pk; exact rfl) | (apply wD pk [] []; kernel_rfl; exact rfl; exact rfl) | exact Imp.one | exact Imp.same | refine Imp.left ?_ | exact ImpX.one | exact ImpX.same | exact ImpX.mk | refine ImpX.up ?_ | refine ImpX.old ?_ | (apply pwp_condC; simp only [cond_true, cond_false]) | (refine pwp_cond rfl (fun h => ?_) (fun h => ?_) <;> (try simp at h) <;> (first | done | (exfalso; omega) | skip)) | (refine pwp_ret ?_; refine ⟨_, _, _, rfl, Wk.refl _, StSub.refl _, ?_, rfl⟩; (first | rfl | skip)) | (apply callS; exact rfl; exact rfl; exact rfl; (intro _; first | (apply ha <;> first | assumption | omega) | (apply hf <;> first | assumption | omega)); rotate_left; exact rfl; exact rfl) | (apply callV; exact rfl; exact rfl; exact rfl; (intro _; first | (apply ha <;> first | assumption | omega) | (apply hf <;> first | assumption | omega)); rotate_left; exact rfl; exact rfl) | (intros; omega) | (intros; simp only [List.length_map]; omega)))
  | true =>
    rw [hfw] at hf
    have hs := fewB_s hfw
    have ho := (fewB_o hfw).1
    have hn : FewN 20 o := ⟨(fewB_o hfw).2.1, (fewB_o hfw).2.2⟩
    have h1 := use_spec s hs o ho dev table sum group by_
    have h2 := ruse_spec s hs o hn dev table sum group by_
    have hr := useP_few (s := s) hn dev table sum group by_
    generalize useP s o dev table sum group by_ = z at *
    obtain ⟨l, e⟩ := z
    simp only at h1 h2 hr
    have h3 := same2_spec l l (by have := hr.1; omega) (fun w hw => by have := hr.2 w hw; omega)
    rw [decide_eq_true rfl] at h3
    refine pf_of tt_ok Tryz.func5 (by kernel_rfl) rfl rfl rfl rfl (fun st => ?_)
    (try (apply wO pk; exact rfl)); (repeat' (first | exact All.nil | refine All.cons ?_ ?_ | (apply wC pk; exact rfl; exact rfl) | (apply wE pk; exact rfl; exact rfl) | (apply wX pk; exact rfl) | (apply wN pk; exact rfl) | (apply wD pk [] []; kernel_rfl; exact rfl; exact rfl) | exact Imp.one | exact Imp.same | refine Imp.left ?_ | exact ImpX.one | exact ImpX.same | exact ImpX.mk | refine ImpX.up ?_ | refine ImpX.old ?_ | (apply pwp_condC; simp only [cond_true, cond_false]) | (refine pwp_cond rfl (fun h => ?_) (fun h => ?_) <;> (try simp at h) <;> (first | done | (exfalso; omega) | skip)) | (refine pwp_ret ?_; refine ⟨_, _, _, rfl, Wk.refl _, StSub.refl _, ?_, rfl⟩; (first | rfl | ((simp; done); done) | skip)) | (apply callS; exact rfl; exact rfl; exact rfl; (intro _; first | (apply ha <;> first | assumption | omega) | (apply hf <;> first | assumption | omega) | (apply h1 <;> first | assumption | omega) | (apply h2 <;> first | assumption | omega) | (apply h3 <;> first | assumption | omega)); rotate_left; exact rfl; exact rfl) | (apply callV; exact rfl; exact rfl; exact rfl; (intro _; first | (apply ha <;> first | assumption | omega) | (apply hf <;> first | assumption | omega) | (apply h1 <;> first | assumption | omega) | (apply h2 <;> first | assumption | omega) | (apply h3 <;> first | assumption | omega)); rotate_left; exact rfl; exact rfl) | (intros; omega) | (intros; simp only [List.length_map]; omega)))
end Go.Proofs.YtbcdgocepnkpeaaGreat
