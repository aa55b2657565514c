import Derived.Test.YtmljghkinhaalaaTxErase
set_option linter.unusedSimpArgs false
set_option linter.unusedVariables false
namespace Go.Proofs.Ytmljghkinhaalaa
open Go Go.Abs
attribute [local irreducible] Ev PWp
set_option maxRecDepth 10000
set_option maxHeartbeats 4000000
theorem gone_spec (c : Cl) (p : Dt) (i : Int) (q : Dt) (k : Int) (w : Sp) (s : ByteArray) : PF Try.prog 7 [.agg c.cells, .agg p.cells, (PV.val (Value.int .i64 (i))), .agg q.cells, (PV.val (Value.int .i64 (k))), .agg w.cells, (PV.val (Value.string (s)))] (PV.val (Value.bool (true))) := by
  have hsm := small_spec c
  by_cases h40 : c.parts.length ≤ 40
  · rw [decide_eq_true h40] at hsm
    by_cases hs : s.size ≤ 10
    · have hrs := right_spec c (by omega)
      by_cases hr : rightP c = 0
      · rw [hr] at hrs
        have hx := erase_spec c p i (by omega)
        have hlx := eraseP_len ⟨p, i⟩ c
        have hxx := eraseP_idem ⟨p, i⟩ c
        have hg : ∀ n (h : n < c.parts.length) (h' : n < (eraseP c ⟨p, i⟩).parts.length), ((eraseP c ⟨p, i⟩).parts[n]'(h')).gone = ((c.parts[n]'h).gone || decide (nameOf (c.parts[n]'h) = ⟨p, i⟩)) := fun n h h' => by
          rw [← erase_gone]; simp [eraseP, eraseL_eq]
        obtain ⟨ht2, ht1⟩ := type_erase hr s w ⟨p, i⟩
        have hyr : rightP (eraseP (eraseP c ⟨p, i⟩) ⟨q, k⟩) = 0 := right_erase _ (right_erase _ hr)
        have hcomm : eraseP (eraseP c ⟨q, k⟩) ⟨p, i⟩ = eraseP (eraseP c ⟨p, i⟩) ⟨q, k⟩ := eraseP_comm _ _ _
        obtain ⟨X, hX⟩ : ∃ X, eraseP c ⟨p, i⟩ = X := ⟨_, rfl⟩
        rw [hX] at hx hlx hxx hg ht2 ht1 hyr hcomm
        have hy := erase_spec X q k (by omega)
        have hz1 := erase_spec c q k (by omega)
        have hlz := eraseP_len ⟨q, k⟩ c
        have hly := eraseP_len ⟨q, k⟩ X
        have hz2 := erase_spec (eraseP c ⟨q, k⟩) p i (by omega)
        rw [hcomm] at hz2
        have hxx2 := erase_spec X p i (by omega)
        rw [hxx] at hxx2
        have hsame := same_spec (eraseP X ⟨q, k⟩) (eraseP X ⟨q, k⟩) (by omega)
        have hsame2 := same_spec X X (by omega)
        have hry := right_spec (eraseP X ⟨q, k⟩) (by omega)
        rw [hyr] at hry
        obtain ⟨Y, hY⟩ : ∃ Y, eraseP X ⟨q, k⟩ = Y := ⟨_, rfl⟩
        rw [hY] at hy hz2 hsame hry hly
        obtain ⟨Z, hZ⟩ : ∃ Z, eraseP c ⟨q, k⟩ = Z := ⟨_, rfl⟩
        rw [hZ] at hz1 hz2 hlz
        rw [decide_eq_true rfl] at hsame hsame2
        have hta := type_spec c s w p i (by omega) (by omega)
        have htb := type_spec X s w p i (by omega) (by omega)
        rw [ht2] at htb
        have hla := type_len c s w ⟨p, i⟩
        obtain ⟨A, hA⟩ : ∃ A, typeP c s w ⟨p, i⟩ = A := ⟨_, rfl⟩
        obtain ⟨B, hB⟩ : ∃ B, (typeP X s w ⟨p, i⟩).1 = B := ⟨_, rfl⟩
        rw [hA] at hta htb hla ht1
        rw [hB] at htb ht1
        have hea := erase_spec A.1 p i (by omega)
        have hsab := same_spec (eraseP A.1 ⟨p, i⟩) B (by rw [eraseP_len]; omega)
        have hfin : (!decide (A.2 = 0) || decide (eraseP A.1 ⟨p, i⟩ = B)) = true := by
          by_cases h0 : A.2 = 0
          · simp [ht1 h0]
          · simp [h0]
        refine pf_of tt_ok Try.func7 (by kernel_rfl) rfl rfl rfl rfl (fun st => ?_)
        (try (apply wO pk; exact rfl)); (repeat' (first | exact All.nil | refine All.cons ?_ ?_ | (apply wC pk; exact rfl; exact rfl) | (apply wE pk; exact rfl; exact rfl) | (apply wX pk; exact rfl) | (apply wN pk; exact rfl) | (apply wD pk [] []; kernel_rfl; exact rfl; exact rfl) | exact Imp.one | exact Imp.same | refine Imp.left ?_ | exact ImpX.one | exact ImpX.same | exact ImpX.mk | refine ImpX.up ?_ | refine ImpX.old ?_ | (apply pwp_condC; simp only [cond_true, cond_false]) | (refine pwp_cond rfl (fun h => ?_) (fun h => ?_) <;> (try simp at h) <;> (first | done | (exfalso; omega) | skip)) | (refine pwp_ret ?_; refine ⟨_, _, _, rfl, Wk.refl _, StSub.refl _, ?_, rfl⟩; (first | rfl | skip)) | (apply callS; exact rfl; exact rfl; exact rfl; (intro _; first | (apply awake_spec <;> first | assumption | omega) | (apply hsm <;> first | assumption | omega) | (apply hrs <;> first | assumption | omega) | (apply hx <;> first | assumption | omega) | (apply hy <;> first | assumption | omega) | (apply hz1 <;> first | assumption | omega) | (apply hz2 <;> first | assumption | omega) | (apply hxx2 <;> first | assumption | omega) | (apply hsame <;> first | assumption | omega) | (apply hsame2 <;> first | assumption | omega)); rotate_left; exact rfl; exact rfl) | (apply callV; exact rfl; exact rfl; exact rfl; (intro _; first | (apply awake_spec <;> first | assumption | omega) | (apply hsm <;> first | assumption | omega) | (apply hrs <;> first | assumption | omega) | (apply hx <;> first | assumption | omega) | (apply hy <;> first | assumption | omega) | (apply hz1 <;> first | assumption | omega) | (apply hz2 <;> first | assumption | omega) | (apply hxx2 <;> first | assumption | omega) | (apply hsame <;> first | assumption | omega) | (apply hsame2 <;> first | assumption | omega)); rotate_left; exact rfl; exact rfl) | (intros; omega) | (intros; simp only [List.length_map]; omega)))
        refine pwp_loop (X := { x : Nat // x ≤ c.parts.length }) (fun y => ((((((((((St.nil 159 st).pv 2 ((PV.val (Value.int .i64 (i))))).pv 6 ((PV.val (Value.string (s))))).var 7 26 (c.cells)).var 8 37 (p.cells)).var 12 42 (w.cells)).pv 15 ((PV.val (Value.bool (true))))).var 16 26 (X.cells)).var 17 26 (Y.cells)).pv 19 ((PV.val (Value.int .i64 ((y.1 : Nat))))))) (fun y => c.parts.length - y.1) ⟨0, by omega⟩ ?_ (fun y => ?_)
        · (first | exact Sub.nil _ _ _ (StSub.refl _) rfl | ((repeat (first | refine Sub.pv ?_ rfl | refine Sub.var ?_ rfl rfl | refine Sub.pv' ?_ rfl (by ) | refine Sub.var' ?_ rfl rfl (by ))); (first | exact Sub.nil _ _ _ (StSub.refl _) rfl | exact Sub.nil _ _ _ (stsub_swap (by assumption)) rfl | exact Sub.nil _ _ _ (stsub_eq (by first | rfl | exact upd_eta (by assumption) | ((simp only [St.pv, St.put, St.sst, St.setv, St.nil, St.var, upd_upd]); first | done | rfl))) rfl | (refine Sub.nil _ _ _ (stsub_eq ?_) rfl; (simp only [St.pv, St.put, St.sst, St.setv, St.nil, St.var, upd_upd]); (rw [upd4 (by assumption)]); first | done | rfl))))
        obtain ⟨n, hn⟩ := y
        dsimp only
        by_cases hnl : n < c.parts.length
        · have hgn := hg n hnl (by omega)
          have he1 := Dt.ext_iff (c.parts[n]'hnl).dot p
          have hnp : nameOf (c.parts[n]'hnl) = ⟨p, i⟩ ↔ (c.parts[n]'hnl).dot = p ∧ (c.parts[n]'hnl).at_ = i := by
            unfold nameOf; constructor
            · intro h; injection h with h1 h2; exact ⟨h1, h2⟩
            · rintro ⟨h1, h2⟩; rw [h1, h2]
          (try (apply wO pk; exact rfl)); (repeat' (first | exact All.nil | refine All.cons ?_ ?_ | (apply wC pk; exact rfl; exact rfl) | (apply wE pk; exact rfl; exact rfl) | (apply wX pk; exact rfl) | (apply wN pk; exact rfl) | (apply wD pk [] []; kernel_rfl; exact rfl; exact rfl) | exact Imp.one | exact Imp.same | refine Imp.left ?_ | exact ImpX.one | exact ImpX.same | exact ImpX.mk | refine ImpX.up ?_ | refine ImpX.old ?_ | (apply pwp_condC; simp only [cond_true, cond_false]) | (refine pwp_cond rfl (fun h => ?_) (fun h => ?_) <;> (try simp at h) <;> (first | done | (exfalso; omega) | skip)) | (refine pwp_ret ?_; refine ⟨_, _, _, rfl, Wk.refl _, StSub.refl _, ?_, rfl⟩; (first | rfl | ((exfalso; grind); done) | skip)) | (apply idxS pk; exact rfl; exact rfl; exact rfl; exact rfl; exact rfl; exact rfl; rotate_left; exact rfl; (intro _; exact rfl); (intro _; apply get_map <;> omega); (intro _; exact rfl); exact rfl) | (refine ⟨⟨n + 1, by omega⟩, ?_, by simp only; omega⟩; (first | exact Sub.nil _ _ _ (StSub.refl _) rfl | ((repeat (first | refine Sub.pv ?_ rfl | refine Sub.var ?_ rfl rfl)); (first | exact Sub.nil _ _ _ (StSub.refl _) rfl | exact Sub.nil _ _ _ (stsub_swap (by assumption)) rfl | exact Sub.nil _ _ _ (stsub_eq (by first | rfl | exact upd_eta (by assumption) | ((simp only [St.pv, St.put, St.sst, St.setv, St.nil, St.var, upd_upd]); first | done | rfl))) rfl | (refine Sub.nil _ _ _ (stsub_eq ?_) rfl; (simp only [St.pv, St.put, St.sst, St.setv, St.nil, St.var, upd_upd]); (rw [upd4 (by assumption)]); first | done | rfl))))) | (intros; omega) | (intros; simp only [List.length_map]; omega)))
        · (try (apply wO pk; exact rfl)); (repeat' (first | exact All.nil | refine All.cons ?_ ?_ | (apply wC pk; exact rfl; exact rfl) | (apply wE pk; exact rfl; exact rfl) | (apply wX pk; exact rfl) | (apply wN pk; exact rfl) | (apply wD pk [] []; kernel_rfl; exact rfl; exact rfl) | exact Imp.one | exact Imp.same | refine Imp.left ?_ | exact ImpX.one | exact ImpX.same | exact ImpX.mk | refine ImpX.up ?_ | refine ImpX.old ?_ | (apply pwp_condC; simp only [cond_true, cond_false]) | (refine pwp_cond rfl (fun h => ?_) (fun h => ?_) <;> (try simp at h) <;> (first | done | (exfalso; omega) | skip)) | (refine pwp_ret ?_; refine ⟨_, _, _, rfl, Wk.refl _, StSub.refl _, ?_, rfl⟩; (first | rfl | ((rw [hfin]; simp); done) | skip)) | (apply callS; exact rfl; exact rfl; exact rfl; (intro _; first | (apply hta <;> first | assumption | omega) | (apply htb <;> first | assumption | omega) | (apply hry <;> first | assumption | omega) | (apply hea <;> first | assumption | omega) | (apply hsab <;> first | assumption | omega)); rotate_left; exact rfl; exact rfl) | (apply callV; exact rfl; exact rfl; exact rfl; (intro _; first | (apply hta <;> first | assumption | omega) | (apply htb <;> first | assumption | omega) | (apply hry <;> first | assumption | omega) | (apply hea <;> first | assumption | omega) | (apply hsab <;> first | assumption | omega)); rotate_left; exact rfl; exact rfl) | (intros; omega) | (intros; simp only [List.length_map]; omega)))
      · refine pf_of tt_ok Try.func7 (by kernel_rfl) rfl rfl rfl rfl (fun st => ?_)
        (try (apply wO pk; exact rfl)); (repeat' (first | exact All.nil | refine All.cons ?_ ?_ | (apply wC pk; exact rfl; exact rfl) | (apply wE pk; exact rfl; exact rfl) | (apply wX pk; exact rfl) | (apply wN pk; exact rfl) | (apply wD pk [] []; kernel_rfl; exact rfl; exact rfl) | exact Imp.one | exact Imp.same | refine Imp.left ?_ | exact ImpX.one | exact ImpX.same | exact ImpX.mk | refine ImpX.up ?_ | refine ImpX.old ?_ | (apply pwp_condC; simp only [cond_true, cond_false]) | (refine pwp_cond rfl (fun h => ?_) (fun h => ?_) <;> (try simp at h) <;> (first | done | (exfalso; omega) | skip)) | (refine pwp_ret ?_; refine ⟨_, _, _, rfl, Wk.refl _, StSub.refl _, ?_, rfl⟩; (first | rfl | skip)) | (apply callS; exact rfl; exact rfl; exact rfl; (intro _; first | (apply awake_spec <;> first | assumption | omega) | (apply hsm <;> first | assumption | omega) | (apply hrs <;> first | assumption | omega)); rotate_left; exact rfl; exact rfl) | (apply callV; exact rfl; exact rfl; exact rfl; (intro _; first | (apply awake_spec <;> first | assumption | omega) | (apply hsm <;> first | assumption | omega) | (apply hrs <;> first | assumption | omega)); rotate_left; exact rfl; exact rfl) | (intros; omega) | (intros; simp only [List.length_map]; omega)))
    · have hrs := right_spec c (by omega)
      refine pf_of tt_ok Try.func7 (by kernel_rfl) rfl rfl rfl rfl (fun st => ?_)
      (try (apply wO pk; exact rfl)); (repeat' (first | exact All.nil | refine All.cons ?_ ?_ | (apply wC pk; exact rfl; exact rfl) | (apply wE pk; exact rfl; exact rfl) | (apply wX pk; exact rfl) | (apply wN pk; exact rfl) | (apply wD pk [] []; kernel_rfl; exact rfl; exact rfl) | exact Imp.one | exact Imp.same | refine Imp.left ?_ | exact ImpX.one | exact ImpX.same | exact ImpX.mk | refine ImpX.up ?_ | refine ImpX.old ?_ | (apply pwp_condC; simp only [cond_true, cond_false]) | (refine pwp_cond rfl (fun h => ?_) (fun h => ?_) <;> (try simp at h) <;> (first | done | (exfalso; omega) | skip)) | (refine pwp_ret ?_; refine ⟨_, _, _, rfl, Wk.refl _, StSub.refl _, ?_, rfl⟩; (first | rfl | skip)) | (apply callS; exact rfl; exact rfl; exact rfl; (intro _; first | (apply awake_spec <;> first | assumption | omega) | (apply hsm <;> first | assumption | omega) | (apply hrs <;> first | assumption | omega)); rotate_left; exact rfl; exact rfl) | (apply callV; exact rfl; exact rfl; exact rfl; (intro _; first | (apply awake_spec <;> first | assumption | omega) | (apply hsm <;> first | assumption | omega) | (apply hrs <;> first | assumption | omega)); rotate_left; exact rfl; exact rfl) | (intros; omega) | (intros; simp only [List.length_map]; omega)))
  · rw [decide_eq_false h40] at hsm
    refine pf_of tt_ok Try.func7 (by kernel_rfl) rfl rfl rfl rfl (fun st => ?_)
    (try (apply wO pk; exact rfl)); (repeat' (first | exact All.nil | refine All.cons ?_ ?_ | (apply wC pk; exact rfl; exact rfl) | (apply wE pk; exact rfl; exact rfl) | (apply wX pk; exact rfl) | (apply wN pk; exact rfl) | (apply wD pk [] []; kernel_rfl; exact rfl; exact rfl) | exact Imp.one | exact Imp.same | refine Imp.left ?_ | exact ImpX.one | exact ImpX.same | exact ImpX.mk | refine ImpX.up ?_ | refine ImpX.old ?_ | (apply pwp_condC; simp only [cond_true, cond_false]) | (refine pwp_cond rfl (fun h => ?_) (fun h => ?_) <;> (try simp at h) <;> (first | done | (exfalso; omega) | skip)) | (refine pwp_ret ?_; refine ⟨_, _, _, rfl, Wk.refl _, StSub.refl _, ?_, rfl⟩; (first | rfl | skip)) | (apply callS; exact rfl; exact rfl; exact rfl; (intro _; first | (apply awake_spec <;> first | assumption | omega) | (apply hsm <;> first | assumption | omega) | (apply (show PF Try.prog 10 [.agg c.cells] (PV.val (Value.int .i64 (0))) from by rename_i hh; exact absurd (show false = true from hh) (by simp)) <;> first | assumption | omega)); rotate_left; exact rfl; exact rfl) | (apply callV; exact rfl; exact rfl; exact rfl; (intro _; first | (apply awake_spec <;> first | assumption | omega) | (apply hsm <;> first | assumption | omega) | (apply (show PF Try.prog 10 [.agg c.cells] (PV.val (Value.int .i64 (0))) from by rename_i hh; exact absurd (show false = true from hh) (by simp)) <;> first | assumption | omega)); rotate_left; exact rfl; exact rfl) | (intros; omega) | (intros; simp only [List.length_map]; omega)))
end Go.Proofs.Ytmljghkinhaalaa
