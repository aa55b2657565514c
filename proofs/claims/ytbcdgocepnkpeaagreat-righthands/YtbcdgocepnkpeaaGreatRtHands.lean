import Derived.Test.YtbcdgocepnkpeaaGreatRfGive
import Derived.Test.YtbcdgocepnkpeaaGreatRtAwake
set_option linter.unusedSimpArgs false
set_option linter.unusedVariables false
namespace Go.Proofs.YtbcdgocepnkpeaaGreat
open Go Go.Abs
attribute [local irreducible] Ev PWp
set_option maxRecDepth 10000
set_option maxHeartbeats 2000000
theorem handP_few {s : Sc} {o : List Ow} (hf : FewN 20 o) (a b : Int) (r : Rt) : FewN 100 (handP s o a b r).1 := by
  have h0 : FewN 100 ([] : List Ow) := ⟨by simp, fun _ h => by cases h⟩
  have key : ∀ l : List Rt, l.length ≤ 40 → FewN 100 (handO o a b r l) := fun l hl => by
    unfold handO
    have h1 := hf.with a (m := 41) (l := l) (by omega) (by omega)
    have h2 := h1.rts b
    have h3 := putP_len (rtsOf (withP o a l) b) r
    exact h1.with b (by omega) (by omega)
  have hl := hf.rts a
  unfold handP
  split
  · exact h0
  split
  · exact h0
  split
  · exact h0
  split
  · split
    · exact h0
    · exact key _ (by have := putP_len (rtsOf o a) (negA r); omega)
  · exact key _ (by have := cutP_len r (rtsOf o a); omega)
theorem giveA_few (b : Int) : ∀ (l : List Rt) (out : List Ow) (n : Nat), FewN n out → FewN (n + l.length) (giveA b l out).1
  | [], out, n, h => h
  | r :: l, out, n, h => by
    rw [giveA]
    split
    · exact ⟨by simp, fun _ h => by cases h⟩
    · have h1 := h.rts b
      have h2 := putP_len (rtsOf out b) r
      have := giveA_few b l _ (n + 1) (h.with b (l := putP (rtsOf out b) r) (by omega) (Nat.le_refl _))
      rwa [show n + 1 + l.length = n + (r :: l).length from by simp only [List.length_cons]; omega] at this
theorem giveP_few {s : Sc} {o : List Ow} (hf : FewN 20 o) (a b : Int) : FewN 100 (giveP s o a b).1 := by
  unfold giveP
  split
  · exact ⟨by simp, fun _ h => by cases h⟩
  · have h1 := hf.with a (m := 21) (l := []) (by simp) (by omega)
    have h2 := giveA_few b (rtsOf o a) _ 21 h1
    have h3 := hf.rts a
    exact ⟨by have := h2.1; omega, fun w hw => by have := h2.2 w hw; omega⟩
theorem hands_spec (s : Sc) (o : List Ow) (a b : Int) (r : Rt) : PF Tryz.prog 6 [.agg (scC s), .seq (o.map Ow.cells), (PV.val (Value.int .i64 (a))), (PV.val (Value.int .i64 (b))), .agg r.cells] (PV.val (Value.bool (true))) := by
  have ha := awake_spec
  have hf := few_spec s o
  cases hfw : fewB s o with
  | false =>
    rw [hfw] at hf
    refine pf_of tt_ok Tryz.func6 (by kernel_rfl) rfl rfl rfl rfl (fun st => ?_)
    (try (apply wO pk; exact rfl)); (repeat' (first | exact All.nil | refine All.cons ?_ ?_ | (apply wC pk; exact rfl; exact rfl) | (apply wE pk; exact rfl; exact rfl) | (apply wX pk; exact rfl) | (apply wN pk; exact rfl) | (apply wD pk [] []; kernel_rfl; exact rfl; exact rfl) | exact Imp.one | exact Imp.same | refine Imp.left ?_ | exact ImpX.one | exact ImpX.same | exact ImpX.mk | refine ImpX.up ?_ | refine ImpX.old ?_ | (apply pwp_condC; simp only [cond_true, cond_false]) | (refine pwp_cond rfl (fun h => ?_) (fun h => ?_) <;> (try simp at h) <;> (first | done | (exfalso; omega) | skip)) | (refine pwp_ret ?_; refine ⟨_, _, _, rfl, Wk.refl _, StSub.refl _, ?_, rfl⟩; (first | rfl | skip)) | (apply callS; exact rfl; exact rfl; exact rfl; (intro _; first | (apply ha <;> first | assumption | omega) | (apply hf <;> first | assumption | omega)); rotate_left; exact rfl; exact rfl) | (apply callV; exact rfl; exact rfl; exact rfl; (intro _; first | (apply ha <;> first | assumption | omega) | (apply hf <;> first | assumption | omega)); rotate_left; exact rfl; exact rfl) | (intros; omega) | (intros; simp only [List.length_map]; omega)))
  | true =>
    rw [hfw] at hf
    have hs := fewB_s hfw
    have ho := (fewB_o hfw).1
    have hn : FewN 20 o := ⟨(fewB_o hfw).2.1, (fewB_o hfw).2.2⟩
    have h1 := hand_spec s hs o ho a b r
    have h2 := rhand_spec s hs o hn a b r
    have h3 := give_spec s hs o ho a b
    have h4 := rgive_spec s hs o hn a b
    have hr := handP_few (s := s) hn a b r
    have hr2 := giveP_few (s := s) hn a b
    generalize handP s o a b r = z at *
    generalize giveP s o a b = y at *
    obtain ⟨l, e⟩ := z
    obtain ⟨m, f⟩ := y
    simp only at h1 h2 h3 h4 hr hr2
    have h5 := same2_spec l l (by have := hr.1; omega) (fun w hw => by have := hr.2 w hw; omega)
    have h6 := same2_spec m m (by have := hr2.1; omega) (fun w hw => by have := hr2.2 w hw; omega)
    rw [decide_eq_true rfl] at h5 h6
    refine pf_of tt_ok Tryz.func6 (by kernel_rfl) rfl rfl rfl rfl (fun st => ?_)
    (try (apply wO pk; exact rfl)); (repeat' (first | exact All.nil | refine All.cons ?_ ?_ | (apply wC pk; exact rfl; exact rfl) | (apply wE pk; exact rfl; exact rfl) | (apply wX pk; exact rfl) | (apply wN pk; exact rfl) | (apply wD pk [] []; kernel_rfl; exact rfl; exact rfl) | exact Imp.one | exact Imp.same | refine Imp.left ?_ | exact ImpX.one | exact ImpX.same | exact ImpX.mk | refine ImpX.up ?_ | refine ImpX.old ?_ | (apply pwp_condC; simp only [cond_true, cond_false]) | (refine pwp_cond rfl (fun h => ?_) (fun h => ?_) <;> (try simp at h) <;> (first | done | (exfalso; omega) | skip)) | (refine pwp_ret ?_; refine ⟨_, _, _, rfl, Wk.refl _, StSub.refl _, ?_, rfl⟩; (first | rfl | ((simp; done); done) | skip)) | (apply callS; exact rfl; exact rfl; exact rfl; (intro _; first | (apply ha <;> first | assumption | omega) | (apply hf <;> first | assumption | omega) | (apply h1 <;> first | assumption | omega) | (apply h2 <;> first | assumption | omega) | (apply h3 <;> first | assumption | omega) | (apply h4 <;> first | assumption | omega) | (apply h5 <;> first | assumption | omega) | (apply h6 <;> first | assumption | omega)); rotate_left; exact rfl; exact rfl) | (apply callV; exact rfl; exact rfl; exact rfl; (intro _; first | (apply ha <;> first | assumption | omega) | (apply hf <;> first | assumption | omega) | (apply h1 <;> first | assumption | omega) | (apply h2 <;> first | assumption | omega) | (apply h3 <;> first | assumption | omega) | (apply h4 <;> first | assumption | omega) | (apply h5 <;> first | assumption | omega) | (apply h6 <;> first | assumption | omega)); rotate_left; exact rfl; exact rfl) | (intros; omega) | (intros; simp only [List.length_map]; omega)))
end Go.Proofs.YtbcdgocepnkpeaaGreat
