import Derived.Test.YtbcdgocepnkpeaaGreatRtHolds
set_option linter.unusedSimpArgs false
set_option linter.unusedVariables false
namespace Go.Proofs.YtbcdgocepnkpeaaGreat
open Go Go.Abs
attribute [local irreducible] Ev PWp
set_option maxRecDepth 10000
set_option maxHeartbeats 2000000
theorem con_hit {l : List Int} {i : Nat} {x : Int} (h : i < l.length) (e : l[i] = x) : (l.drop i).contains x = true := by
  rw [List.drop_eq_getElem_cons h, List.contains_cons, e]; simp
theorem con_miss {l : List Int} {i : Nat} {x : Int} (h : i < l.length) (e : ¬ l[i] = x) : (l.drop i).contains x = (l.drop (i + 1)).contains x := by
  rw [List.drop_eq_getElem_cons h, List.contains_cons]
  have : (x == l[i]) = false := by rw [Bool.eq_false_iff]; intro q; exact e (by simpa using Eq.symm (by simpa using q))
  rw [this]; rfl
theorem con_end {l : List Int} {i : Nat} {x : Int} (h : l.length ≤ i) : (l.drop i).contains x = false := by
  rw [List.drop_eq_nil_of_le h]; rfl
theorem rhas_spec (l : List Int) (x : Int) (hl : l.length < 4611686018427387904) : PF Tryz.prog 53 [.seq (l.map I1), (PV.val (Value.int .i64 (x)))] (PV.val (Value.bool (l.contains x))) := by
  refine pf_of tt_ok Tryz.func53 (by kernel_rfl) rfl rfl rfl rfl (fun st => ?_)
  (try (apply wO pk; exact rfl)); (repeat' (first | exact All.nil | refine All.cons ?_ ?_ | (apply wC pk; exact rfl; exact rfl) | (apply wE pk; exact rfl; exact rfl) | (apply wX pk; exact rfl) | (apply wN pk; exact rfl) | (apply wD pk [] []; kernel_rfl; exact rfl; exact rfl) | exact Imp.one | exact Imp.same | refine Imp.left ?_ | exact ImpX.one | exact ImpX.same | exact ImpX.mk | refine ImpX.up ?_ | refine ImpX.old ?_ | (apply pwp_condC; simp only [cond_true, cond_false]) | (refine pwp_cond rfl (fun h => ?_) (fun h => ?_) <;> (try simp at h) <;> (first | done | (exfalso; omega) | skip)) | (refine pwp_ret ?_; refine ⟨_, _, _, rfl, Wk.refl _, StSub.refl _, ?_, rfl⟩; (first | rfl | skip)) | (intros; omega) | (intros; simp only [List.length_map]; omega)))
  refine pwp_loop (X := { y : Nat // y ≤ l.length ∧ (l.drop y).contains x = l.contains x }) (fun i => ((((St.nil 18 st).pv 0 (.seq (l.map I1))).pv 1 ((PV.val (Value.int .i64 (x))))).pv 5 ((PV.val (Value.int .i64 ((i.1 : Nat))))))) (fun i => l.length - i.1) ⟨0, by omega, rfl⟩ ?_ (fun i => ?_)
  · (first | exact Sub.nil _ _ _ (StSub.refl _) rfl | ((repeat (first | refine Sub.pv ?_ rfl | refine Sub.var ?_ rfl rfl)); (first | exact Sub.nil _ _ _ (StSub.refl _) rfl | exact Sub.nil _ _ _ (stsub_swap (by assumption)) rfl | exact Sub.nil _ _ _ (stsub_eq (by first | rfl | exact upd_eta (by assumption) | ((simp only [St.pv, St.put, St.sst, St.setv, St.nil, St.var, upd_upd]); first | done | rfl))) rfl | (refine Sub.nil _ _ _ (stsub_eq ?_) rfl; (simp only [St.pv, St.put, St.sst, St.setv, St.nil, St.var, upd_upd]); (rw [upd4 (by assumption)]); first | done | rfl))))
  obtain ⟨i, h1, hinv⟩ := i
  dsimp only
  (try (apply wO pk; exact rfl)); (repeat' (first | exact All.nil | refine All.cons ?_ ?_ | (apply wC pk; exact rfl; exact rfl) | (apply wE pk; exact rfl; exact rfl) | (apply wX pk; exact rfl) | (apply wN pk; exact rfl) | (apply wD pk [] []; kernel_rfl; exact rfl; exact rfl) | exact Imp.one | exact Imp.same | refine Imp.left ?_ | exact ImpX.one | exact ImpX.same | exact ImpX.mk | refine ImpX.up ?_ | refine ImpX.old ?_ | (apply pwp_condC; simp only [cond_true, cond_false]) | (refine pwp_cond rfl (fun h => ?_) (fun h => ?_) <;> (try simp at h) <;> (first | done | (exfalso; omega) | skip)) | (refine pwp_ret ?_; refine ⟨_, _, _, rfl, Wk.refl _, StSub.refl _, ?_, rfl⟩; (first | rfl | ((first | (rw [← hinv, con_hit (by assumption) (by assumption)]; done) | (rw [← hinv, con_end (by assumption)])); done) | skip)) | (apply idxS pk; exact rfl; exact rfl; exact rfl; exact rfl; exact rfl; exact rfl; rotate_left; exact rfl; (intro _; exact rfl); (intro _; apply get_map <;> omega); (intro _; exact rfl); exact rfl) | (refine ⟨⟨i + 1, by omega, by rw [← hinv, con_miss (i := i) (x := x) (by assumption) (by assumption)]⟩, ?_, by simp only; omega⟩; (first | exact Sub.nil _ _ _ (StSub.refl _) rfl | ((repeat (first | refine Sub.pv ?_ rfl | refine Sub.var ?_ rfl rfl)); (first | exact Sub.nil _ _ _ (StSub.refl _) rfl | exact Sub.nil _ _ _ (stsub_swap (by assumption)) rfl | exact Sub.nil _ _ _ (stsub_eq (by first | rfl | exact upd_eta (by assumption) | ((simp only [St.pv, St.put, St.sst, St.setv, St.nil, St.var, upd_upd]); first | done | rfl))) rfl | (refine Sub.nil _ _ _ (stsub_eq ?_) rfl; (simp only [St.pv, St.put, St.sst, St.setv, St.nil, St.var, upd_upd]); (rw [upd4 (by assumption)]); first | done | rfl))))) | (intros; omega) | (intros; simp only [List.length_map]; omega)))
theorem rthere_spec (s : Sc) (hs : FewS s) (r : Rt) : PF Tryz.prog 31 [.agg (scC s), .agg r.cells] (PV.val (Value.int .i64 (thereP s r.kind r.table r.col))) := by
  by_cases ht : r.table < 0 ∨ r.table ≥ s.length
  · refine pf_of tt_ok Tryz.func31 (by kernel_rfl) rfl rfl rfl rfl (fun st => ?_)
    (try (apply wO pk; exact rfl)); (repeat' (first | exact All.nil | refine All.cons ?_ ?_ | (apply wC pk; exact rfl; exact rfl) | (apply wE pk; exact rfl; exact rfl) | (apply wX pk; exact rfl) | (apply wN pk; exact rfl) | (apply wD pk [] []; kernel_rfl; exact rfl; exact rfl) | exact Imp.one | exact Imp.same | refine Imp.left ?_ | exact ImpX.one | exact ImpX.same | exact ImpX.mk | refine ImpX.up ?_ | refine ImpX.old ?_ | (apply pwp_condC; simp only [cond_true, cond_false]) | (refine pwp_cond rfl (fun h => ?_) (fun h => ?_) <;> (try simp at h) <;> (first | done | (exfalso; omega) | skip)) | (refine pwp_ret ?_; refine ⟨_, _, _, rfl, Wk.refl _, StSub.refl _, ?_, rfl⟩; (first | rfl | ((simp only [thereP]; (first | (rw [if_pos (by omega)]; done) | (rw [if_neg (by omega), if_pos (by omega)]; done))); done) | skip)) | (intros; omega) | (intros; simp only [List.length_map]; omega)))
  obtain ⟨t, htt⟩ : ∃ n : Nat, r.table = n := ⟨r.table.toNat, by omega⟩
  have hlt : t < s.length := by omega
  have hT : s[r.table.toNat]! = s[t] := by rw [htt]; simp [hlt]
  have hu := hs.uni s[t] (List.getElem_mem hlt)
  unfold thereP
  simp only [hT]
  have hc := rhas_spec s[t].unique r.col (by omega)
  refine pf_of tt_ok Tryz.func31 (by kernel_rfl) rfl rfl rfl rfl (fun st => ?_)
  (try (apply wO pk; exact rfl)); (repeat' (first | exact All.nil | refine All.cons ?_ ?_ | (apply wC pk; exact rfl; exact rfl) | (apply wE pk; exact rfl; exact rfl) | (apply wX pk; exact rfl) | (apply wN pk; exact rfl) | (apply wD pk [] []; kernel_rfl; exact rfl; exact rfl) | exact Imp.one | exact Imp.same | refine Imp.left ?_ | exact ImpX.one | exact ImpX.same | exact ImpX.mk | refine ImpX.up ?_ | refine ImpX.old ?_ | (apply pwp_condC; simp only [cond_true, cond_false]) | (refine pwp_cond rfl (fun h => ?_) (fun h => ?_) <;> (try simp at h) <;> (first | done | (exfalso; omega) | skip)) | (refine pwp_ret ?_; refine ⟨_, _, _, rfl, Wk.refl _, StSub.refl _, ?_, rfl⟩; (first | rfl | ((first | (rw [if_pos (by omega)]; done) | (simp_all; done) | (rw [if_neg (by omega), if_neg (by omega), if_neg (by omega), if_neg (by simp_all), if_neg (by omega)]) | (rw [if_neg (by omega), if_neg (by omega), if_pos (by omega)]) | (rw [if_neg (by omega), if_neg (by omega), if_neg (by omega), if_pos (by simp_all)]) | (rw [if_neg (by omega), if_neg (by omega), if_neg (by omega), if_neg (by omega), if_pos (by omega)])); done) | skip)) | (apply callS; exact rfl; exact rfl; exact rfl; (intro _; first | (apply hc <;> first | assumption | omega)); rotate_left; exact rfl; exact rfl) | (apply callV; exact rfl; exact rfl; exact rfl; (intro _; first | (apply hc <;> first | assumption | omega)); rotate_left; exact rfl; exact rfl) | (apply idxS pk; exact rfl; exact rfl; exact rfl; exact rfl; exact rfl; exact rfl; rotate_left; exact rfl; (intro _; exact htt); (intro _; apply get_map <;> omega); (intro _; exact rfl); exact rfl) | (intros; omega) | (intros; simp only [List.length_map]; omega)))
theorem rright_spec (s : Sc) (hs : FewS s) (r : Rt) : PF Tryz.prog 10 [.agg (scC s), .agg r.cells] (PV.val (Value.int .i64 (rightE s r))) := by
  have ht := rthere_spec s hs r
  unfold rightE
  generalize thereP s r.kind r.table r.col = e at *
  refine pf_of tt_ok Tryz.func10 (by kernel_rfl) rfl rfl rfl rfl (fun st => ?_)
  (try (apply wO pk; exact rfl)); (repeat' (first | exact All.nil | refine All.cons ?_ ?_ | (apply wC pk; exact rfl; exact rfl) | (apply wE pk; exact rfl; exact rfl) | (apply wX pk; exact rfl) | (apply wN pk; exact rfl) | (apply wD pk [] []; kernel_rfl; exact rfl; exact rfl) | exact Imp.one | exact Imp.same | refine Imp.left ?_ | exact ImpX.one | exact ImpX.same | exact ImpX.mk | refine ImpX.up ?_ | refine ImpX.old ?_ | (apply pwp_condC; simp only [cond_true, cond_false]) | (refine pwp_cond rfl (fun h => ?_) (fun h => ?_) <;> (try simp at h) <;> (first | done | (exfalso; omega) | skip)) | (refine pwp_ret ?_; refine ⟨_, _, _, rfl, Wk.refl _, StSub.refl _, ?_, rfl⟩; (first | rfl | ((first | (rw [if_pos (by assumption)]; done) | (simp only [mayR, fitsB]; grind)); done) | skip)) | (apply callS; exact rfl; exact rfl; exact rfl; (intro _; first | (apply ht <;> first | assumption | omega)); rotate_left; exact rfl; exact rfl) | (apply callV; exact rfl; exact rfl; exact rfl; (intro _; first | (apply ht <;> first | assumption | omega)); rotate_left; exact rfl; exact rfl) | (intros; omega) | (intros; simp only [List.length_map]; omega)))
theorem same_spec (a b : Rt) : PF Tryz.prog 38 [.agg a.cells, .agg b.cells] (PV.val (Value.bool (sameB a b))) := by
  refine pf_of tt_ok Tryz.func38 (by kernel_rfl) rfl rfl rfl rfl (fun st => ?_)
  (try (apply wO pk; exact rfl)); (repeat' (first | exact All.nil | refine All.cons ?_ ?_ | (apply wC pk; exact rfl; exact rfl) | (apply wE pk; exact rfl; exact rfl) | (apply wX pk; exact rfl) | (apply wN pk; exact rfl) | (apply wD pk [] []; kernel_rfl; exact rfl; exact rfl) | exact Imp.one | exact Imp.same | refine Imp.left ?_ | exact ImpX.one | exact ImpX.same | exact ImpX.mk | refine ImpX.up ?_ | refine ImpX.old ?_ | (apply pwp_condC; simp only [cond_true, cond_false]) | (refine pwp_cond rfl (fun h => ?_) (fun h => ?_) <;> (try simp at h) <;> (first | done | (exfalso; omega) | skip)) | (refine pwp_ret ?_; refine ⟨_, _, _, rfl, Wk.refl _, StSub.refl _, ?_, rfl⟩; (first | rfl | ((simp only [sameB]; simp); done) | skip)) | (intros; omega) | (intros; simp only [List.length_map]; omega)))
theorem ahead_spec (a b : Rt) : PF Tryz.prog 37 [.agg a.cells, .agg b.cells] (PV.val (Value.bool (aheadB a b))) := by
  unfold aheadB
  refine pf_of tt_ok Tryz.func37 (by kernel_rfl) rfl rfl rfl rfl (fun st => ?_)
  (try (apply wO pk; exact rfl)); (repeat' (first | exact All.nil | refine All.cons ?_ ?_ | (apply wC pk; exact rfl; exact rfl) | (apply wE pk; exact rfl; exact rfl) | (apply wX pk; exact rfl) | (apply wN pk; exact rfl) | (apply wD pk [] []; kernel_rfl; exact rfl; exact rfl) | exact Imp.one | exact Imp.same | refine Imp.left ?_ | exact ImpX.one | exact ImpX.same | exact ImpX.mk | refine ImpX.up ?_ | refine ImpX.old ?_ | (apply pwp_condC; simp only [cond_true, cond_false]) | (refine pwp_cond rfl (fun h => ?_) (fun h => ?_) <;> (try simp at h) <;> (first | done | (exfalso; omega) | skip)) | (refine pwp_ret ?_; refine ⟨_, _, _, rfl, Wk.refl _, StSub.refl _, ?_, rfl⟩; (first | rfl | ((simp_all; done); done) | skip)) | (intros; omega) | (intros; simp only [List.length_map]; omega)))
theorem mine_spec (s : Sc) (hs : FewS s) (dev : Int) (r : Rt) : PF Tryz.prog 36 [.agg (scC s), (PV.val (Value.int .i64 (dev))), .agg r.cells] (PV.val (Value.bool (okR s dev r))) := by
  have hr := rright_spec s hs r
  have ht := rthere_spec s hs r
  by_cases h3 : r.kind = 3
  · have e : okR s dev r = amountP s dev r := by unfold okR; simp [h3]
    rw [e]
    clear e
    by_cases h0 : thereP s r.kind r.table r.col = 0
    · obtain ⟨_, ⟨a1, a2⟩, _, _, a3⟩ := there_ok h0
      obtain ⟨b1, b2⟩ := a3 h3
      obtain ⟨t, htt⟩ : ∃ n : Nat, r.table = n := ⟨r.table.toNat, by omega⟩
      obtain ⟨c, hcc⟩ : ∃ n : Nat, r.col = n := ⟨r.col.toNat, by omega⟩
      have hlt : t < s.length := by omega
      have hT : s[r.table.toNat]! = s[t] := by rw [htt]; simp [hlt]
      rw [hT] at b2
      have hlc : c < (s[t].sums).length := by omega
      have hC : s[t].sums[r.col.toNat]! = s[t].sums[c] := by rw [hcc]; simp [hlc]
      have hm := hs.max s[t] (List.getElem_mem hlt) s[t].sums[c] (List.getElem_mem hlc)
      have hF : (r.lo < -1099511627776 ∨ r.lo > 1099511627776 ∨ r.hi ≠ 0 ∨ r.amt > 1099511627776 ∨ r.amt = 0) → amountP s dev r = false := fun q => by
        rw [Bool.eq_false_iff]; intro h
        unfold amountP fitsB at h
        grind
      have hT1 : ¬ (r.lo < -1099511627776 ∨ r.lo > 1099511627776 ∨ r.hi ≠ 0 ∨ r.amt > 1099511627776 ∨ r.amt = 0) → amountP s dev r = if dev = 1 then decide (r.amt ≥ 0 - s[t].sums[c].max) else decide (r.amt > 0) := fun q => by
        have hf : fitsB r.lo = true := by unfold fitsB; simp; omega
        unfold amountP maxOf
        rw [hT, hC, h0, hf, if_neg (by simp; omega)]
        split
        · rw [decide_eq_true (show r.amt ≠ 0 by omega), Bool.and_true]
        · refine decide_eq_decide.2 ?_; omega
      rw [h0] at ht
      clear hr
      generalize amountP s dev r = am at *
      refine pf_of tt_ok Tryz.func36 (by kernel_rfl) rfl rfl rfl rfl (fun st => ?_)
      (try (apply wO pk; exact rfl)); (repeat' (first | exact All.nil | refine All.cons ?_ ?_ | (apply wC pk; exact rfl; exact rfl) | (apply wE pk; exact rfl; exact rfl) | (apply wX pk; exact rfl) | (apply wN pk; exact rfl) | (apply wD pk [] []; kernel_rfl; exact rfl; exact rfl) | exact Imp.one | exact Imp.same | refine Imp.left ?_ | exact ImpX.one | exact ImpX.same | exact ImpX.mk | refine ImpX.up ?_ | refine ImpX.old ?_ | (apply pwp_condC; simp only [cond_true, cond_false]) | (refine pwp_cond rfl (fun h => ?_) (fun h => ?_) <;> (try simp at h) <;> (first | done | (exfalso; omega) | skip)) | (refine pwp_ret ?_; refine ⟨_, _, _, rfl, Wk.refl _, StSub.refl _, ?_, rfl⟩; (first | rfl | ((first | (rw [hF (by omega)]; done) | (rw [hT1 (by omega), if_pos (by assumption)]; done) | (rw [hT1 (by omega), if_neg (by assumption)])); done) | skip)) | (apply callS; exact rfl; exact rfl; exact rfl; (intro _; first | (apply ht <;> first | assumption | omega)); rotate_left; exact rfl; exact rfl) | (apply callV; exact rfl; exact rfl; exact rfl; (intro _; first | (apply ht <;> first | assumption | omega)); rotate_left; exact rfl; exact rfl) | (apply idxS pk; exact rfl; exact rfl; exact rfl; exact rfl; exact rfl; exact rfl; rotate_left; exact rfl; (intro _; exact htt); (intro _; apply get_map <;> omega); (intro _; exact rfl); exact rfl) | (apply idxS pk; exact rfl; exact rfl; exact rfl; exact rfl; exact rfl; exact rfl; rotate_left; exact rfl; (intro _; exact hcc); (intro _; apply get_map <;> omega); (intro _; exact rfl); exact rfl) | (intros; omega) | (intros; simp only [List.length_map]; omega)))
    · have e : amountP s dev r = false := by unfold amountP; rw [if_pos (.inl h0)]
      rw [e]
      generalize thereP s r.kind r.table r.col = th at *
      clear hr
      refine pf_of tt_ok Tryz.func36 (by kernel_rfl) rfl rfl rfl rfl (fun st => ?_)
      (try (apply wO pk; exact rfl)); (repeat' (first | exact All.nil | refine All.cons ?_ ?_ | (apply wC pk; exact rfl; exact rfl) | (apply wE pk; exact rfl; exact rfl) | (apply wX pk; exact rfl) | (apply wN pk; exact rfl) | (apply wD pk [] []; kernel_rfl; exact rfl; exact rfl) | exact Imp.one | exact Imp.same | refine Imp.left ?_ | exact ImpX.one | exact ImpX.same | exact ImpX.mk | refine ImpX.up ?_ | refine ImpX.old ?_ | (apply pwp_condC; simp only [cond_true, cond_false]) | (refine pwp_cond rfl (fun h => ?_) (fun h => ?_) <;> (try simp at h) <;> (first | done | (exfalso; omega) | skip)) | (refine pwp_ret ?_; refine ⟨_, _, _, rfl, Wk.refl _, StSub.refl _, ?_, rfl⟩; (first | rfl | ((simp_all; done); done) | skip)) | (apply callS; exact rfl; exact rfl; exact rfl; (intro _; first | (apply ht <;> first | assumption | omega)); rotate_left; exact rfl; exact rfl) | (apply callV; exact rfl; exact rfl; exact rfl; (intro _; first | (apply ht <;> first | assumption | omega)); rotate_left; exact rfl; exact rfl) | (intros; omega) | (intros; simp only [List.length_map]; omega)))
  · have e : okR s dev r = decide (rightE s r = 0) := by unfold okR; simp [h3]
    rw [e]
    generalize rightE s r = re at *
    clear ht
    refine pf_of tt_ok Tryz.func36 (by kernel_rfl) rfl rfl rfl rfl (fun st => ?_)
    (try (apply wO pk; exact rfl)); (repeat' (first | exact All.nil | refine All.cons ?_ ?_ | (apply wC pk; exact rfl; exact rfl) | (apply wE pk; exact rfl; exact rfl) | (apply wX pk; exact rfl) | (apply wN pk; exact rfl) | (apply wD pk [] []; kernel_rfl; exact rfl; exact rfl) | exact Imp.one | exact Imp.same | refine Imp.left ?_ | exact ImpX.one | exact ImpX.same | exact ImpX.mk | refine ImpX.up ?_ | refine ImpX.old ?_ | (apply pwp_condC; simp only [cond_true, cond_false]) | (refine pwp_cond rfl (fun h => ?_) (fun h => ?_) <;> (try simp at h) <;> (first | done | (exfalso; omega) | skip)) | (refine pwp_ret ?_; refine ⟨_, _, _, rfl, Wk.refl _, StSub.refl _, ?_, rfl⟩; (first | rfl | ((first | rfl | (simp_all; done)); done) | skip)) | (apply callS; exact rfl; exact rfl; exact rfl; (intro _; first | (apply hr <;> first | assumption | omega)); rotate_left; exact rfl; exact rfl) | (apply callV; exact rfl; exact rfl; exact rfl; (intro _; first | (apply hr <;> first | assumption | omega)); rotate_left; exact rfl; exact rfl) | (intros; omega) | (intros; simp only [List.length_map]; omega)))
end Go.Proofs.YtbcdgocepnkpeaaGreat
