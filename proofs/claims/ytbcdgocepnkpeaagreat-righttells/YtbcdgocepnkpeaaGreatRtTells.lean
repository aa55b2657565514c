import Derived.Test.YtbcdgocepnkpeaaGreatRtAwake
import Derived.Test.YtbcdgocepnkpeaaGreatRfCanon
import Derived.Test.YtbcdgocepnkpeaaGreatRfStart
set_option linter.unusedSimpArgs false
set_option linter.unusedVariables false
namespace Go.Proofs.YtbcdgocepnkpeaaGreat
open Go Go.Abs
attribute [local irreducible] Ev PWp
set_option maxRecDepth 10000
set_option maxHeartbeats 2000000
theorem startP_len {s : Sc} (hs : FewS s) : (startP s).length ≤ 1 ∧ ∀ w ∈ startP s, w.rights.length ≤ 420 := by
  have := startL_len hs
  unfold startP
  split
  · exact ⟨by simp, fun _ h => by cases h⟩
  · exact ⟨by simp, fun w hw => by rw [List.mem_singleton.1 hw]; exact this⟩
theorem tells_spec (s : Sc) (o : List Ow) (r : Rt) : PF Tryz.prog 3 [.agg (scC s), .seq (o.map Ow.cells), .agg r.cells] (PV.val (Value.bool (true))) := by
  have ha := awake_spec
  have hf := few_spec s o
  cases hfw : fewB s o with
  | false =>
    rw [hfw] at hf
    refine pf_of tt_ok Tryz.func3 (by kernel_rfl) rfl rfl rfl rfl (fun st => ?_)
    (try (apply wO pk; exact rfl)); (repeat' (first | exact All.nil | refine All.cons ?_ ?_ | (apply wC pk; exact rfl; exact rfl) | (apply wE pk; exact rfl; exact rfl) | (apply wX pk; exact rfl) | (apply wN pk; exact rfl) | (apply wD pk [] []; kernel_rfl; exact rfl; exact rfl) | exact Imp.one | exact Imp.same | refine Imp.left ?_ | exact ImpX.one | exact ImpX.same | exact ImpX.mk | refine ImpX.up ?_ | refine ImpX.old ?_ | (apply pwp_condC; simp only [cond_true, cond_false]) | (refine pwp_cond rfl (fun h => ?_) (fun h => ?_) <;> (try simp at h) <;> (first | done | (exfalso; omega) | skip)) | (refine pwp_ret ?_; refine ⟨_, _, _, rfl, Wk.refl _, StSub.refl _, ?_, rfl⟩; (first | rfl | skip)) | (apply callS; exact rfl; exact rfl; exact rfl; (intro _; first | (apply ha <;> first | assumption | omega) | (apply hf <;> first | assumption | omega)); rotate_left; exact rfl; exact rfl) | (apply callV; exact rfl; exact rfl; exact rfl; (intro _; first | (apply ha <;> first | assumption | omega) | (apply hf <;> first | assumption | omega)); rotate_left; exact rfl; exact rfl) | (intros; omega) | (intros; simp only [List.length_map]; omega)))
  | true =>
    rw [hfw] at hf
    have hs := fewB_s hfw
    have ho := (fewB_o hfw).1
    have h1 := right_spec s hs r
    have h2 := rright_spec s hs r
    have h3 := canon_spec s hs o ho
    have h4 := rcanon_spec s hs o ho
    have h5 := start_spec s hs
    have h6 := rstart_spec s hs
    have hl := startP_len hs
    have h7 := same2_spec (startP s) (startP s) (by omega) (fun w hw => by have := hl.2 w hw; omega)
    rw [decide_eq_true rfl] at h7
    generalize startP s = sp at *
    generalize canonP s o = c at *
    generalize rightE s r = e at *
    refine pf_of tt_ok Tryz.func3 (by kernel_rfl) rfl rfl rfl rfl (fun st => ?_)
    (try (apply wO pk; exact rfl)); (repeat' (first | exact All.nil | refine All.cons ?_ ?_ | (apply wC pk; exact rfl; exact rfl) | (apply wE pk; exact rfl; exact rfl) | (apply wX pk; exact rfl) | (apply wN pk; exact rfl) | (apply wD pk [] []; kernel_rfl; exact rfl; exact rfl) | exact Imp.one | exact Imp.same | refine Imp.left ?_ | exact ImpX.one | exact ImpX.same | exact ImpX.mk | refine ImpX.up ?_ | refine ImpX.old ?_ | (apply pwp_condC; simp only [cond_true, cond_false]) | (refine pwp_cond rfl (fun h => ?_) (fun h => ?_) <;> (try simp at h) <;> (first | done | (exfalso; omega) | skip)) | (refine pwp_ret ?_; refine ⟨_, _, _, rfl, Wk.refl _, StSub.refl _, ?_, rfl⟩; (first | rfl | ((simp; done); done) | skip)) | (apply callS; exact rfl; exact rfl; exact rfl; (intro _; first | (apply ha <;> first | assumption | omega) | (apply hf <;> first | assumption | omega) | (apply h1 <;> first | assumption | omega) | (apply h2 <;> first | assumption | omega) | (apply h3 <;> first | assumption | omega) | (apply h4 <;> first | assumption | omega) | (apply h5 <;> first | assumption | omega) | (apply h6 <;> first | assumption | omega) | (apply h7 <;> first | assumption | omega)); rotate_left; exact rfl; exact rfl) | (apply callV; exact rfl; exact rfl; exact rfl; (intro _; first | (apply ha <;> first | assumption | omega) | (apply hf <;> first | assumption | omega) | (apply h1 <;> first | assumption | omega) | (apply h2 <;> first | assumption | omega) | (apply h3 <;> first | assumption | omega) | (apply h4 <;> first | assumption | omega) | (apply h5 <;> first | assumption | omega) | (apply h6 <;> first | assumption | omega) | (apply h7 <;> first | assumption | omega)); rotate_left; exact rfl; exact rfl) | (intros; omega) | (intros; simp only [List.length_map]; omega)))
end Go.Proofs.YtbcdgocepnkpeaaGreat
