import Derived.Test.YtbcdgocepnkpeaaGreatRtSeq
set_option linter.unusedSimpArgs false
set_option linter.unusedVariables false
namespace Go.Proofs.YtbcdgocepnkpeaaGreat
open Go Go.Abs
attribute [local irreducible] Ev PWp
set_option maxRecDepth 10000
set_option maxHeartbeats 4000000
theorem collect_pc (es : List (Int × (Nat × Nat))) (hlen : es.length ≤ 100000) (st : Store) : PC Tryz.prog 63 [seqF es] st fun r S => ∃ b, r = accVI b ∧ (accLI b).Perm (es.map (·.1)) ∧ (∀ y, b = some y → S y.1 = some (.arr 3 (y.2.map I1)) ∧ st y.1 = none) ∧ ∀ j, st j ≠ none → S j = st j := by
  have ha := appSeq_pc es hlen st
  unfold seqF at *
  refine pc_of tt_ok Tryz.func63 (by kernel_rfl) rfl rfl rfl rfl ?_
  (try (apply wO pk; exact rfl)); (repeat' (first | exact All.nil | refine All.cons ?_ ?_ | (apply wC pk; exact rfl; exact rfl) | (apply wE pk; exact rfl; exact rfl) | (apply wX pk; exact rfl) | (apply wN pk; exact rfl) | (apply wDx pk; exact rfl; kernel_rfl; exact rfl; exact rfl) | exact Imp.one | exact Imp.same | refine Imp.left ?_ | exact ImpX.one | exact ImpX.same | exact ImpX.mk | refine ImpX.up ?_ | refine ImpX.old ?_ | (apply pwp_condC; simp only [cond_true, cond_false]) | (refine pwp_cond rfl (fun h => ?_) (fun h => ?_) <;> (try simp at h) <;> (first | done | (exfalso; omega) | skip)) | ((try refine pwp_ret ?_); (first | (refine ⟨_, _, _, rfl, Wk.refl _, StSub.refl _, ?_⟩; (exact ⟨b, rfl, hp, hb, ho⟩); done) | (refine ⟨_, _, ?zs, rfl, Wk.refl _, ?zh, ?zr⟩; (case zh => (refine stsub_over ?_ (by assumption); (repeat refine stsub_over ?_ (by assumption)); exact StSub.refl _)); (case zr => (exact ⟨b, rfl, hp, hb, ho⟩))) | refine ⟨_, _, _, rfl, Wk.refl _, StSub.refl _, ?_⟩)) | (apply ncA; exact rfl; exact rfl; exact rfl; rotate_left; exact rfl; exact rfl) | (apply ldR pk; exact rfl; exact rfl; rotate_left; exact rfl; (first | exact upd_same _ _ _ | assumption | (focus ((repeat (first | exact upd_same _ _ _ | assumption | refine (upd_ne (by assumption)).trans ?_)); done))); exact rfl; exact rfl) | (apply stR pk; exact rfl; exact rfl; (first | exact upd_same _ _ _ | assumption | (focus ((repeat (first | exact upd_same _ _ _ | assumption | refine (upd_ne (by assumption)).trans ?_)); done))); exact rfl; exact rfl) | (apply callN; exact rfl; exact rfl; exact ha; exact rfl; exact rfl; exact rfl; rintro _ S ⟨b, rfl, hp, hb, ho⟩) | (intros; omega) | (intros; simp only [List.length_map]; omega)))
theorem sortI2_pc (zs : List Int) {st : Store} {id n : Nat} (hst : st id = some (.arr 3 (zs.map I1))) (hn : zs.length = n) (h62 : n < 4611686018427387904) :
    PC Tryz.prog 64 [.vec id 1 0 n] st fun _ S => S = upd st id (some (.arr 3 ((zs.mergeSort fun x y => decide (x ≤ y)).map I1))) :=
  sortI_pc (P := Tryz.prog) layI (by kernel_rfl) (by kernel_rfl) hst hn h62
theorem sorted_pc (es : List (Int × (Nat × Nat))) (hlen : es.length ≤ 100000) (st : Store) : PC Tryz.prog 58 [seqF es] st fun r S => ∃ ks : List Int, r = .seq (ks.map I1) ∧ ks.Perm (es.map (·.1)) ∧ ks.Pairwise (· ≤ ·) ∧ S = st := by
  have ha := collect_pc es hlen st
  unfold seqF at *
  refine pc_of tt_ok Tryz.func58 (by kernel_rfl) rfl rfl rfl rfl ?_
  (try (apply wO pk; exact rfl)); (repeat' (first | exact All.nil | refine All.cons ?_ ?_ | (apply wC pk; exact rfl; exact rfl) | (apply wE pk; exact rfl; exact rfl) | (apply wX pk; exact rfl) | (apply wN pk; exact rfl) | (apply wD pk [] []; kernel_rfl; exact rfl; exact rfl) | exact Imp.one | exact Imp.same | refine Imp.left ?_ | exact ImpX.one | exact ImpX.same | exact ImpX.mk | refine ImpX.up ?_ | refine ImpX.old ?_ | (apply pwp_condC; simp only [cond_true, cond_false]) | (refine pwp_cond rfl (fun h => ?_) (fun h => ?_) <;> (try simp at h) <;> (first | done | (exfalso; omega) | skip)) | (refine pwp_ret ?_; refine ⟨_, _, _, rfl, Wk.refl _, StSub.refl _, ?_, rfl⟩; (first | rfl | skip)) | (apply callN; exact rfl; exact rfl; exact ha; exact rfl; exact rfl; exact rfl; rintro _ S ⟨b, rfl, hp, hb, ho⟩; cases b) | (intros; omega) | (intros; simp only [List.length_map]; omega)))
  · apply ev_zeroVec 6 1 3
    · exact rfl
    intro idZ hZ
    have hZ : S idZ = none := hZ
    have hso := sortI2_pc [] (st := upd S idZ (some (.arr 3 []))) (id := idZ) (n := 0) (upd_same _ _ _) rfl (by decide)
    (try (apply wO pk; exact rfl)); (repeat' (first | exact All.nil | refine All.cons ?_ ?_ | (apply wC pk; exact rfl; exact rfl) | (apply wE pk; exact rfl; exact rfl) | (apply wX pk; exact rfl) | (apply wN pk; exact rfl) | (apply wDx pk; exact rfl; kernel_rfl; exact rfl; exact rfl) | exact Imp.one | exact Imp.same | refine Imp.left ?_ | exact ImpX.one | exact ImpX.same | exact ImpX.mk | refine ImpX.up ?_ | refine ImpX.old ?_ | (apply pwp_condC; simp only [cond_true, cond_false]) | (refine pwp_cond rfl (fun h => ?_) (fun h => ?_) <;> (try simp at h) <;> (first | done | (exfalso; omega) | skip)) | (refine pwp_ret ?_; refine ⟨_, _, _, rfl, Wk.refl _, StSub.refl _, ?_, rfl⟩; (first | rfl | skip)) | (apply ncA; exact rfl; exact rfl; exact rfl; rotate_left; exact rfl; exact rfl) | (apply ldR pk; exact rfl; exact rfl; rotate_left; exact rfl; (first | exact upd_same _ _ _ | assumption | (focus ((repeat (first | exact upd_same _ _ _ | assumption | refine (upd_ne (by assumption)).trans ?_)); done))); exact rfl; exact rfl) | (apply stR pk; exact rfl; exact rfl; (first | exact upd_same _ _ _ | assumption | (focus ((repeat (first | exact upd_same _ _ _ | assumption | refine (upd_ne (by assumption)).trans ?_)); done))); exact rfl; exact rfl) | (apply callP; exact rfl; exact rfl; (apply hso <;> first | exact upd_same _ _ _ | assumption | omega | (first | exact upd_same _ _ _ | assumption | (focus ((repeat (first | exact upd_same _ _ _ | assumption | refine (upd_ne (by assumption)).trans ?_)); done)))); exact rfl; exact rfl; exact rfl; intro _ st' hR; obtain rfl := hR) | (apply callP; exact rfl; exact rfl; (first | (apply fail_no_spec <;> first | exact upd_same _ _ _ | assumption | omega | (simp only [Array.size_setIfInBounds]; omega) | (first | exact upd_same _ _ _ | assumption | (focus ((repeat (first | exact upd_same _ _ _ | assumption | refine (upd_ne (by assumption)).trans ?_)); done))))); exact rfl; exact rfl; exact rfl; intro _ st' hR; (first | subst hR | obtain ⟨rfl, rfl⟩ := hR)) | (intros; omega) | (intros; simp only [List.length_map]; omega)))
    refine pwp_ret ?_
    refine ⟨_, .seq [], st, rfl, Wk.nil, fun j => ?_, [], rfl, hp, List.Pairwise.nil, rfl⟩
    by_cases hj : st j = none
    · exact .inl hj
    · have hjZ : j ≠ idZ := fun e => by rw [← e, ho j hj] at hZ; exact hj hZ
      exact .inr (((upd_ne hjZ).trans ((upd_ne hjZ).trans (ho j hj))).symm)
  · rename_i z
    obtain ⟨hz1, hz2⟩ := hb z rfl
    have hzl : z.2.length ≤ 100000 := by
      have := hp.length_eq
      rw [List.length_map] at this
      have e : accLI (some z) = z.2 := rfl
      rw [e] at this; omega
    have hso := sortI2_pc z.2 (st := S) (id := z.1) (n := z.2.length) hz1 rfl (by omega)
    (try (apply wO pk; exact rfl)); (repeat' (first | exact All.nil | refine All.cons ?_ ?_ | (apply wC pk; exact rfl; exact rfl) | (apply wE pk; exact rfl; exact rfl) | (apply wX pk; exact rfl) | (apply wN pk; exact rfl) | (apply wDx pk; exact rfl; kernel_rfl; exact rfl; exact rfl) | exact Imp.one | exact Imp.same | refine Imp.left ?_ | exact ImpX.one | exact ImpX.same | exact ImpX.mk | refine ImpX.up ?_ | refine ImpX.old ?_ | (apply pwp_condC; simp only [cond_true, cond_false]) | (refine pwp_cond rfl (fun h => ?_) (fun h => ?_) <;> (try simp at h) <;> (first | done | (exfalso; omega) | skip)) | (refine pwp_ret ?_; refine ⟨_, _, _, rfl, Wk.refl _, StSub.refl _, ?_, rfl⟩; (first | rfl | skip)) | (apply ncA; exact rfl; exact rfl; exact rfl; rotate_left; exact rfl; exact rfl) | (apply ldR pk; exact rfl; exact rfl; rotate_left; exact rfl; (first | exact upd_same _ _ _ | assumption | (focus ((repeat (first | exact upd_same _ _ _ | assumption | refine (upd_ne (by assumption)).trans ?_)); done))); exact rfl; exact rfl) | (apply stR pk; exact rfl; exact rfl; (first | exact upd_same _ _ _ | assumption | (focus ((repeat (first | exact upd_same _ _ _ | assumption | refine (upd_ne (by assumption)).trans ?_)); done))); exact rfl; exact rfl) | (apply callP; exact rfl; exact rfl; (apply hso <;> first | exact upd_same _ _ _ | assumption | omega | (first | exact upd_same _ _ _ | assumption | (focus ((repeat (first | exact upd_same _ _ _ | assumption | refine (upd_ne (by assumption)).trans ?_)); done)))); exact rfl; exact rfl; exact rfl; intro _ st' hR; obtain rfl := hR) | (apply callP; exact rfl; exact rfl; (first | (apply fail_no_spec <;> first | exact upd_same _ _ _ | assumption | omega | (simp only [Array.size_setIfInBounds]; omega) | (first | exact upd_same _ _ _ | assumption | (focus ((repeat (first | exact upd_same _ _ _ | assumption | refine (upd_ne (by assumption)).trans ?_)); done))))); exact rfl; exact rfl; exact rfl; intro _ st' hR; (first | subst hR | obtain ⟨rfl, rfl⟩ := hR)) | (intros; omega) | (intros; simp only [List.length_map]; omega)))
    apply pwp_freezeV 2
    · exact rfl
    · exact upd_same _ _ _
    · kernel_rfl
    · rw [List.length_map, List.length_mergeSort]
    refine pwp_ret ?_
    refine ⟨_, .seq ((z.2.mergeSort fun x y => decide (x ≤ y)).map I1), st, rfl, Wk.refl _, fun j => ?_, _, rfl, (List.mergeSort_perm _ _).trans hp, ?_, rfl⟩
    · by_cases hj : st j = none
      · exact .inl hj
      · have hjz : j ≠ z.1 := fun e => hj (by rw [e]; exact hz2)
        exact .inr (((upd_ne hjz).trans ((upd_ne hjz).trans (ho j hj))).symm)
    · have := List.pairwise_mergeSort (le := fun x y : Int => decide (x ≤ y)) (fun a b c h1 h2 => by simp at *; omega) (fun a b => by simp; omega) z.2
      exact this.imp fun {a b} h => by simpa using h
end Go.Proofs.YtbcdgocepnkpeaaGreat
