import Derived.Test.YtmljghkinhaalaaTxRef6
set_option linter.unusedSimpArgs false
set_option linter.unusedVariables false
namespace Go.Proofs.Ytmljghkinhaalaa
open Go Go.Abs
attribute [local irreducible] Ev PWp
set_option maxRecDepth 10000
set_option maxHeartbeats 4000000
def aw0 : Cl := ⟨4, Vl.zero, []⟩
def aw1 : Cl × Int := typeP aw0 ⟨#[97, 98]⟩ ⟨1, 1, 1⟩ ⟨Dt.zero, 0⟩
def aw2 : Cl × Int := typeP aw1.1 ⟨#[120]⟩ ⟨2, 2, 1⟩ ⟨⟨1, 1⟩, 0⟩
def aw3 : Cl × Int := typeP aw2.1 ⟨#[121]⟩ ⟨3, 3, 1⟩ ⟨⟨1, 1⟩, 0⟩
def aw4 : Cl := eraseP aw3.1 ⟨⟨2, 1⟩, 0⟩
theorem aw_facts : (aw1.2 = 0 ∧ aw2.2 = 0 ∧ aw3.2 = 0) ∧ ((showP aw2.1).s = ⟨#[97, 120, 98]⟩ ∧ (showP aw3.1).s = ⟨#[97, 121, 120, 98]⟩ ∧ (showP aw4).s = ⟨#[97, 121, 98]⟩) ∧ rightP aw4 = 0 ∧ (showP aw0).kind = 2 ∧
    aw1.1.parts.length = 2 ∧ aw2.1.parts.length = 3 ∧ aw3.1.parts.length = 4 := by
  decide +kernel
theorem awake_spec : PF Try.prog 8 [] (PV.val (Value.bool (true))) := by
  obtain ⟨⟨f1, f2, f3⟩, ⟨f4, f5, f6⟩, f7, f8, f9, f10, f11⟩ := aw_facts
  have f12 : aw4.parts.length = 4 := by rw [aw4, eraseP, eraseL, List.length_map, f11]
  have s1 := type_spec aw0 ⟨#[97, 98]⟩ ⟨1, 1, 1⟩ Dt.zero 0 (by decide) (by decide)
  have s2 := type_spec aw1.1 ⟨#[120]⟩ ⟨2, 2, 1⟩ ⟨1, 1⟩ 0 (by omega) (by decide)
  have s3 := type_spec aw2.1 ⟨#[121]⟩ ⟨3, 3, 1⟩ ⟨1, 1⟩ 0 (by omega) (by decide)
  have s4 := erase_spec aw3.1 ⟨2, 1⟩ 0 (by omega)
  have t2 := show_spec aw2.1 (by omega)
  have t3 := show_spec aw3.1 (by omega)
  have t4 := show_spec aw4 (by omega)
  have t5 := right_spec aw4 (by omega)
  have t6 := show_spec aw0 (by decide)
  change PF _ _ _ (.tup [.agg aw1.1.cells, (PV.val (Value.int .i64 (aw1.2)))]) at s1
  change PF _ _ _ (.tup [.agg aw2.1.cells, (PV.val (Value.int .i64 (aw2.2)))]) at s2
  change PF _ _ _ (.tup [.agg aw3.1.cells, (PV.val (Value.int .i64 (aw3.2)))]) at s3
  change PF _ _ _ (.agg aw4.cells) at s4
  generalize aw1 = a1 at *
  generalize aw2 = a2 at *
  generalize aw3 = a3 at *
  generalize aw4 = a4 at *
  generalize showP a2.1 = v2 at *
  generalize showP a3.1 = v3 at *
  generalize showP a4 = v4 at *
  generalize showP aw0 = v0 at *
  generalize rightP a4 = r4 at *
  refine pf_of tt_ok Try.func8 (by kernel_rfl) rfl rfl rfl rfl (fun st => ?_)
  (try (apply wO pk; exact rfl)); (repeat' (first | exact All.nil | refine All.cons ?_ ?_ | (apply wC pk; exact rfl; exact rfl) | (apply wE pk; exact rfl; exact rfl) | (apply wX pk; exact rfl) | (apply wN pk; exact rfl) | (apply wD pk [] []; kernel_rfl; exact rfl; exact rfl) | exact Imp.one | exact Imp.same | refine Imp.left ?_ | exact ImpX.one | exact ImpX.same | exact ImpX.mk | refine ImpX.up ?_ | refine ImpX.old ?_ | (apply pwp_condC; simp only [cond_true, cond_false]) | (refine pwp_cond rfl (fun h => ?_) (fun h => ?_) <;> (try simp at h) <;> (first | done | (exfalso; omega) | skip)) | (refine pwp_ret ?_; refine ⟨_, _, _, rfl, Wk.refl _, StSub.refl _, ?_, rfl⟩; (first | rfl | ((simp only [f1, f2, f3, f4, f5, f6, f7, f8]; rfl); done) | skip)) | (apply callS; exact rfl; exact rfl; exact rfl; (intro _; first | (apply new_spec <;> first | assumption | omega) | (apply (who_spec 1 1) <;> first | assumption | omega) | (apply (who_spec 2 2) <;> first | assumption | omega) | (apply (who_spec 3 3) <;> first | assumption | omega) | (apply s1 <;> first | assumption | omega) | (apply s2 <;> first | assumption | omega) | (apply s3 <;> first | assumption | omega) | (apply s4 <;> first | assumption | omega) | (apply t2 <;> first | assumption | omega) | (apply t3 <;> first | assumption | omega) | (apply t4 <;> first | assumption | omega) | (apply t5 <;> first | assumption | omega) | (apply t6 <;> first | assumption | omega)); rotate_left; exact rfl; exact rfl) | (apply callV; exact rfl; exact rfl; exact rfl; (intro _; first | (apply new_spec <;> first | assumption | omega) | (apply (who_spec 1 1) <;> first | assumption | omega) | (apply (who_spec 2 2) <;> first | assumption | omega) | (apply (who_spec 3 3) <;> first | assumption | omega) | (apply s1 <;> first | assumption | omega) | (apply s2 <;> first | assumption | omega) | (apply s3 <;> first | assumption | omega) | (apply s4 <;> first | assumption | omega) | (apply t2 <;> first | assumption | omega) | (apply t3 <;> first | assumption | omega) | (apply t4 <;> first | assumption | omega) | (apply t5 <;> first | assumption | omega) | (apply t6 <;> first | assumption | omega)); rotate_left; exact rfl; exact rfl) | (intros; omega) | (intros; simp only [List.length_map]; omega)))
theorem tells_spec (c : Cl) : PF Try.prog 3 [.agg c.cells] (PV.val (Value.bool (true))) := by
  have hsm := small_spec c
  by_cases h40 : c.parts.length ≤ 40
  · rw [decide_eq_true h40] at hsm
    have hol := order_len c.parts
    refine pf_of tt_ok Try.func3 (by kernel_rfl) rfl rfl rfl rfl (fun st => ?_)
    (try (apply wO pk; exact rfl)); (repeat' (first | exact All.nil | refine All.cons ?_ ?_ | (apply wC pk; exact rfl; exact rfl) | (apply wE pk; exact rfl; exact rfl) | (apply wX pk; exact rfl) | (apply wN pk; exact rfl) | (apply wD pk [] []; kernel_rfl; exact rfl; exact rfl) | exact Imp.one | exact Imp.same | refine Imp.left ?_ | exact ImpX.one | exact ImpX.same | exact ImpX.mk | refine ImpX.up ?_ | refine ImpX.old ?_ | (apply pwp_condC; simp only [cond_true, cond_false]) | (refine pwp_cond rfl (fun h => ?_) (fun h => ?_) <;> (try simp at h) <;> (first | done | (exfalso; omega) | skip)) | (refine pwp_ret ?_; refine ⟨_, _, _, rfl, Wk.refl _, StSub.refl _, ?_, rfl⟩; (first | rfl | ((simp; done); done) | skip)) | (apply callS; exact rfl; exact rfl; exact rfl; (intro _; first | (apply awake_spec <;> first | assumption | omega) | (apply hsm <;> first | assumption | omega) | (apply (right_spec c (by omega)) <;> first | assumption | omega) | (apply (rright_spec c (by omega)) <;> first | assumption | omega) | (apply (show_spec c (by omega)) <;> first | assumption | omega) | (apply (rshow_spec c (by omega)) <;> first | assumption | omega) | (apply (order_spec c.parts (by omega)) <;> first | assumption | omega) | (apply (rorder_spec c.parts (by omega)) <;> first | assumption | omega) | (apply (sameparts_spec (orderP c.parts) (orderP c.parts) (by omega)) <;> first | assumption | omega) | (apply new_spec <;> first | assumption | omega) | (apply rnew_spec <;> first | assumption | omega) | (apply (same_spec ⟨4, Vl.zero, []⟩ ⟨4, Vl.zero, []⟩ (by decide)) <;> first | assumption | omega)); rotate_left; exact rfl; exact rfl) | (apply callV; exact rfl; exact rfl; exact rfl; (intro _; first | (apply awake_spec <;> first | assumption | omega) | (apply hsm <;> first | assumption | omega) | (apply (right_spec c (by omega)) <;> first | assumption | omega) | (apply (rright_spec c (by omega)) <;> first | assumption | omega) | (apply (show_spec c (by omega)) <;> first | assumption | omega) | (apply (rshow_spec c (by omega)) <;> first | assumption | omega) | (apply (order_spec c.parts (by omega)) <;> first | assumption | omega) | (apply (rorder_spec c.parts (by omega)) <;> first | assumption | omega) | (apply (sameparts_spec (orderP c.parts) (orderP c.parts) (by omega)) <;> first | assumption | omega) | (apply new_spec <;> first | assumption | omega) | (apply rnew_spec <;> first | assumption | omega) | (apply (same_spec ⟨4, Vl.zero, []⟩ ⟨4, Vl.zero, []⟩ (by decide)) <;> first | assumption | omega)); rotate_left; exact rfl; exact rfl) | (intros; omega) | (intros; simp only [List.length_map]; omega)))
  · rw [decide_eq_false h40] at hsm
    refine pf_of tt_ok Try.func3 (by kernel_rfl) rfl rfl rfl rfl (fun st => ?_)
    (try (apply wO pk; exact rfl)); (repeat' (first | exact All.nil | refine All.cons ?_ ?_ | (apply wC pk; exact rfl; exact rfl) | (apply wE pk; exact rfl; exact rfl) | (apply wX pk; exact rfl) | (apply wN pk; exact rfl) | (apply wD pk [] []; kernel_rfl; exact rfl; exact rfl) | exact Imp.one | exact Imp.same | refine Imp.left ?_ | exact ImpX.one | exact ImpX.same | exact ImpX.mk | refine ImpX.up ?_ | refine ImpX.old ?_ | (apply pwp_condC; simp only [cond_true, cond_false]) | (refine pwp_cond rfl (fun h => ?_) (fun h => ?_) <;> (try simp at h) <;> (first | done | (exfalso; omega) | skip)) | (refine pwp_ret ?_; refine ⟨_, _, _, rfl, Wk.refl _, StSub.refl _, ?_, rfl⟩; (first | rfl | skip)) | (apply callS; exact rfl; exact rfl; exact rfl; (intro _; first | (apply awake_spec <;> first | assumption | omega) | (apply hsm <;> first | assumption | omega)); rotate_left; exact rfl; exact rfl) | (apply callV; exact rfl; exact rfl; exact rfl; (intro _; first | (apply awake_spec <;> first | assumption | omega) | (apply hsm <;> first | assumption | omega)); rotate_left; exact rfl; exact rfl) | (intros; omega) | (intros; simp only [List.length_map]; omega)))
/-! ### TextOne -/
theorem par_before {l D : List Pt} (hW : Whole l) (hp : D.Perm l) (hs : D.Pairwise (ltP l)) {i : Nat} (hi : i < D.length) (h0 : parentOf D[i] ≠ Nm.zero) : ∃ m, ∃ hm : m < i, nameOf (D[m]'(by omega)) = parentOf D[i] := by
  have hil : D[i] ∈ l := hp.subset (List.getElem_mem hi)
  obtain ⟨u, hu, e, ha⟩ := (hW.up _ hil).resolve_left h0
  obtain ⟨m, hm, rfl⟩ := List.getElem_of_mem (hp.symm.subset hu)
  obtain ⟨s, hs1⟩ := Anc.ex hW _ _ hu (Nat.le_refl _)
  have hlt : ltP l D[m] D[i] := by
    refine ⟨s, s ++ [D[i]], hs1, .step hil hu e h0 hs1, ?_⟩
    have := lexLt_app s (s := []) (t := [D[i]]) trivial
    simpa using this
  have hP := List.pairwise_iff_getElem.1 hs
  rcases Nat.lt_trichotomy m i with h | h | h
  · exact ⟨m, h, e⟩
  · subst h; exact absurd hlt (ltP_irr hW.named _)
  · exact (ltP_asym hW.named hlt (hP i m hi hm h)).elim
theorem right_order {l : List Pt} (hW : Whole l) (hl : l.length ≤ 2000) : rightP ⟨4, Vl.zero, orderP l⟩ = 0 := by
  obtain ⟨hp, _⟩ := orderP_whole hW hl
  have hW2 : Whole (orderP l) := hW.perm hp.symm
  have e : orderP (orderP l) = orderP l := orderP_perm hp
  unfold rightP
  rw [if_neg (by simp), if_neg (by simp [(wholeP_iff _).2 hW2]), if_neg (by rw [hp.length_eq]; omega), if_neg (by simp [e])]
theorem right_not {l : List Pt} (h : ¬ Whole l) : rightP ⟨4, Vl.zero, l⟩ = 1 := by
  unfold rightP
  rw [if_neg (by simp), if_pos (.inr (by rw [← Bool.not_eq_true, wholeP_iff]; exact h))]
end Go.Proofs.Ytmljghkinhaalaa
