import Derived.Test.YtbcdgocepnkpeaaGreatRfWith
set_option linter.unusedSimpArgs false
set_option linter.unusedVariables false
namespace Go.Proofs.YtbcdgocepnkpeaaGreat
open Go Go.Abs
attribute [local irreducible] Ev PWp
set_option maxRecDepth 10000
set_option maxHeartbeats 2000000
def bR (table sum group : Int) : Rt := ⟨3, table, sum, group, 0, 0⟩
theorem rbudget_spec (s : Sc) (hs : FewS s) (o : List Ow) (ho : FewO o) (dev table sum group : Int) : PF Tryz.prog 19 [.agg (scC s), .seq (o.map Ow.cells), (PV.val (Value.int .i64 (dev))), (PV.val (Value.int .i64 (table))), (PV.val (Value.int .i64 (sum))), (PV.val (Value.int .i64 (group)))] (PV.val (Value.int .i64 (budgetP s o dev table sum group))) := by
  have hc := rcanon_spec s hs o ho
  have ht := rthere_spec s hs (bR table sum group)
  have ht : PF Tryz.prog 31 [.agg (scC s), .agg (bR table sum group).cells] (PV.val (Value.int .i64 (thereP s 3 table sum))) := ht
  by_cases hg : ¬ ((((canonP s o = true ∧ thereP s 3 table sum = 0) ∧ 1 ≤ dev) ∧ dev ≤ 64) ∧ -1099511627776 ≤ group ∧ group ≤ 1099511627776)
  · have e : budgetP s o dev table sum group = 0 := by
      unfold budgetP
      rw [if_pos]
      apply Decidable.byContradiction; intro q
      simp only [not_or, Bool.not_eq_false, ne_eq, Decidable.not_not] at q
      obtain ⟨q1, q2, q3, q4⟩ := q
      have q2 : 1 ≤ dev ∧ dev ≤ 64 := by simpa [deviceB] using q2
      have q4 := (fits_iff group).1 q4
      exact hg ⟨⟨⟨⟨q1, q3⟩, q2.1⟩, q2.2⟩, q4⟩
    rw [e]
    generalize canonP s o = c at *
    generalize thereP s 3 table sum = th at *
    by_cases hc1 : c = true
    · subst hc1
      by_cases ht0 : th = 0
      · subst ht0
        have hg2 : ¬ ((1 ≤ dev ∧ dev ≤ 64) ∧ -1099511627776 ≤ group ∧ group ≤ 1099511627776) := fun q => hg ⟨⟨⟨⟨rfl, rfl⟩, q.1.1⟩, q.1.2⟩, q.2⟩
        refine pf_of tt_ok Tryz.func19 (by kernel_rfl) rfl rfl rfl rfl (fun st => ?_)
        (try (apply wO pk; exact rfl)); (repeat' (first | ((exfalso; omega)) | exact All.nil | refine All.cons ?_ ?_ | (apply wC pk; exact rfl; exact rfl) | (apply wE pk; exact rfl; exact rfl) | (apply wX pk; exact rfl) | (apply wN pk; exact rfl) | (apply wD pk [] []; kernel_rfl; exact rfl; exact rfl) | exact Imp.one | exact Imp.same | refine Imp.left ?_ | exact ImpX.one | exact ImpX.same | exact ImpX.mk | refine ImpX.up ?_ | refine ImpX.old ?_ | (apply pwp_condC; simp only [cond_true, cond_false]) | (refine pwp_cond rfl (fun h => ?_) (fun h => ?_) <;> (try simp at h) <;> (first | done | (exfalso; omega) | skip)) | (refine pwp_ret ?_; refine ⟨_, _, _, rfl, Wk.refl _, StSub.refl _, ?_, rfl⟩; (first | rfl | skip)) | (apply callS; exact rfl; exact rfl; exact rfl; (intro _; first | (apply hc <;> first | assumption | omega) | (apply ht <;> first | assumption | omega)); rotate_left; exact rfl; exact rfl) | (apply callV; exact rfl; exact rfl; exact rfl; (intro _; first | (apply hc <;> first | assumption | omega) | (apply ht <;> first | assumption | omega)); rotate_left; exact rfl; exact rfl) | (intros; omega) | (intros; simp only [List.length_map]; omega)))
      · refine pf_of tt_ok Tryz.func19 (by kernel_rfl) rfl rfl rfl rfl (fun st => ?_)
        (try (apply wO pk; exact rfl)); (repeat' (first | ((exfalso; omega)) | exact All.nil | refine All.cons ?_ ?_ | (apply wC pk; exact rfl; exact rfl) | (apply wE pk; exact rfl; exact rfl) | (apply wX pk; exact rfl) | (apply wN pk; exact rfl) | (apply wD pk [] []; kernel_rfl; exact rfl; exact rfl) | exact Imp.one | exact Imp.same | refine Imp.left ?_ | exact ImpX.one | exact ImpX.same | exact ImpX.mk | refine ImpX.up ?_ | refine ImpX.old ?_ | (apply pwp_condC; simp only [cond_true, cond_false]) | (refine pwp_cond rfl (fun h => ?_) (fun h => ?_) <;> (try simp at h) <;> (first | done | (exfalso; omega) | skip)) | (refine pwp_ret ?_; refine ⟨_, _, _, rfl, Wk.refl _, StSub.refl _, ?_, rfl⟩; (first | rfl | skip)) | (apply callS; exact rfl; exact rfl; exact rfl; (intro _; first | (apply hc <;> first | assumption | omega) | (apply ht <;> first | assumption | omega)); rotate_left; exact rfl; exact rfl) | (apply callV; exact rfl; exact rfl; exact rfl; (intro _; first | (apply hc <;> first | assumption | omega) | (apply ht <;> first | assumption | omega)); rotate_left; exact rfl; exact rfl) | (intros; omega) | (intros; simp only [List.length_map]; omega)))
    · have hc1 : c = false := by simpa using hc1
      subst hc1
      refine pf_of tt_ok Tryz.func19 (by kernel_rfl) rfl rfl rfl rfl (fun st => ?_)
      (try (apply wO pk; exact rfl)); (repeat' (first | ((exfalso; omega)) | exact All.nil | refine All.cons ?_ ?_ | (apply wC pk; exact rfl; exact rfl) | (apply wE pk; exact rfl; exact rfl) | (apply wX pk; exact rfl) | (apply wN pk; exact rfl) | (apply wD pk [] []; kernel_rfl; exact rfl; exact rfl) | exact Imp.one | exact Imp.same | refine Imp.left ?_ | exact ImpX.one | exact ImpX.same | exact ImpX.mk | refine ImpX.up ?_ | refine ImpX.old ?_ | (apply pwp_condC; simp only [cond_true, cond_false]) | (refine pwp_cond rfl (fun h => ?_) (fun h => ?_) <;> (try simp at h) <;> (first | done | (exfalso; omega) | skip)) | (refine pwp_ret ?_; refine ⟨_, _, _, rfl, Wk.refl _, StSub.refl _, ?_, rfl⟩; (first | rfl | skip)) | (apply callS; exact rfl; exact rfl; exact rfl; (intro _; first | (apply hc <;> first | assumption | omega) | (apply ht <;> first | assumption | omega)); rotate_left; exact rfl; exact rfl) | (apply callV; exact rfl; exact rfl; exact rfl; (intro _; first | (apply hc <;> first | assumption | omega) | (apply ht <;> first | assumption | omega)); rotate_left; exact rfl; exact rfl) | (intros; omega) | (intros; simp only [List.length_map]; omega)))
  replace hg := Decidable.of_not_not hg
  obtain ⟨⟨⟨⟨g1, g2⟩, g3⟩, g4⟩, g5, g6⟩ := hg
  have hCO := (canon_iff s o).1 g1
  have hn := hCO.nfo
  have hbv : budgetP s o dev table sum group = amL (rtsOf o dev) ⟨3, table, sum, group⟩ + (if dev = 1 then maxOf s table sum else 0) := by
    unfold budgetP
    rw [if_neg, amt_open hn]
    simp only [not_or, Bool.not_eq_false, ne_eq, Decidable.not_not]
    exact ⟨g1, by simp [deviceB]; omega, g2, (fits_iff group).2 ⟨g5, g6⟩⟩
  rw [hbv]
  have ham := amtOf_ok hs hCO dev ⟨3, table, sum, group⟩
  rw [amt_open hn] at ham
  have hmx := max_ok hs g2
  have ha := amt_spec o ho dev (bR table sum group)
  rw [amG_amL rfl] at ha
  have ha : PF Tryz.prog 45 [.seq (o.map Ow.cells), (PV.val (Value.int .i64 (dev))), .agg (bR table sum group).cells] (PV.val (Value.int .i64 (amL (rtsOf o dev) ⟨3, table, sum, group⟩))) := ha
  obtain ⟨_, ⟨a1, a2⟩, _, _, a3⟩ := there_ok g2
  obtain ⟨b1, b2⟩ := a3 rfl
  obtain ⟨t, rfl⟩ : ∃ n : Nat, table = n := ⟨table.toNat, by omega⟩
  obtain ⟨c, rfl⟩ : ∃ n : Nat, sum = n := ⟨sum.toNat, by omega⟩
  have hlt : t < s.length := by omega
  have hT : s[((t : Nat) : Int).toNat]! = s[t] := by simp [hlt]
  rw [hT] at b2
  have hlc : c < (s[t].sums).length := by omega
  have hC : maxOf s t c = s[t].sums[c].max := by unfold maxOf; rw [hT]; simp [hlc]
  rw [hC] at hmx ⊢
  rw [g1] at hc
  rw [g2] at ht
  generalize amL (rtsOf o dev) ⟨3, t, c, group⟩ = am at *
  by_cases hd : dev = 1
  · subst hd
    rw [if_pos rfl]
    refine pf_of tt_ok Tryz.func19 (by kernel_rfl) rfl rfl rfl rfl (fun st => ?_)
    (try (apply wO pk; exact rfl)); (repeat' (first | ((exfalso; omega)) | exact All.nil | refine All.cons ?_ ?_ | (apply wC pk; exact rfl; exact rfl) | (apply wE pk; exact rfl; exact rfl) | (apply wX pk; exact rfl) | (apply wN pk; exact rfl) | (apply wD pk [] []; kernel_rfl; exact rfl; exact rfl) | exact Imp.one | exact Imp.same | refine Imp.left ?_ | exact ImpX.one | exact ImpX.same | exact ImpX.mk | refine ImpX.up ?_ | refine ImpX.old ?_ | (apply pwp_condC; simp only [cond_true, cond_false]) | (refine pwp_cond rfl (fun h => ?_) (fun h => ?_) <;> (try simp at h) <;> (first | done | (exfalso; omega) | skip)) | (refine pwp_ret ?_; refine ⟨_, _, _, rfl, Wk.refl _, StSub.refl _, ?_, rfl⟩; (first | rfl | ((first | (rw [Int.add_comm]; done) | omega); done) | skip)) | (apply callS; exact rfl; exact rfl; exact rfl; (intro _; first | (apply hc <;> first | assumption | omega) | (apply ht <;> first | assumption | omega) | (apply ha <;> first | assumption | omega)); rotate_left; exact rfl; exact rfl) | (apply callV; exact rfl; exact rfl; exact rfl; (intro _; first | (apply hc <;> first | assumption | omega) | (apply ht <;> first | assumption | omega) | (apply ha <;> first | assumption | omega)); rotate_left; exact rfl; exact rfl) | (apply idxS pk; exact rfl; exact rfl; exact rfl; exact rfl; exact rfl; exact rfl; rotate_left; exact rfl; (intro _; exact rfl); (intro _; apply get_map <;> omega); (intro _; exact rfl); exact rfl) | (apply idxS pk; exact rfl; exact rfl; exact rfl; exact rfl; exact rfl; exact rfl; rotate_left; exact rfl; (intro _; exact rfl); (intro _; apply get_map <;> omega); (intro _; exact rfl); exact rfl) | (intros; omega) | (intros; simp only [List.length_map]; omega)))
  · rw [if_neg hd, Int.add_zero]
    refine pf_of tt_ok Tryz.func19 (by kernel_rfl) rfl rfl rfl rfl (fun st => ?_)
    (try (apply wO pk; exact rfl)); (repeat' (first | ((exfalso; omega)) | exact All.nil | refine All.cons ?_ ?_ | (apply wC pk; exact rfl; exact rfl) | (apply wE pk; exact rfl; exact rfl) | (apply wX pk; exact rfl) | (apply wN pk; exact rfl) | (apply wD pk [] []; kernel_rfl; exact rfl; exact rfl) | exact Imp.one | exact Imp.same | refine Imp.left ?_ | exact ImpX.one | exact ImpX.same | exact ImpX.mk | refine ImpX.up ?_ | refine ImpX.old ?_ | (apply pwp_condC; simp only [cond_true, cond_false]) | (refine pwp_cond rfl (fun h => ?_) (fun h => ?_) <;> (try simp at h) <;> (first | done | (exfalso; omega) | skip)) | (refine pwp_ret ?_; refine ⟨_, _, _, rfl, Wk.refl _, StSub.refl _, ?_, rfl⟩; (first | rfl | skip)) | (apply callS; exact rfl; exact rfl; exact rfl; (intro _; first | (apply hc <;> first | assumption | omega) | (apply ht <;> first | assumption | omega) | (apply ha <;> first | assumption | omega)); rotate_left; exact rfl; exact rfl) | (apply callV; exact rfl; exact rfl; exact rfl; (intro _; first | (apply hc <;> first | assumption | omega) | (apply ht <;> first | assumption | omega) | (apply ha <;> first | assumption | omega)); rotate_left; exact rfl; exact rfl) | (intros; omega) | (intros; simp only [List.length_map]; omega)))
theorem holds_list {o : List Ow} (ho : NFO o) (dev : Int) (r : Rt) (h3 : r.kind ≠ 3) : (spOf (openP o) dev ⟨r.kind, r.table, r.col, 0⟩).any (inB r) = (rtsOf o dev).any fun x => (sameB x r && decide (x.lo ≤ r.lo)) && decide (r.hi ≤ x.hi) := by
  have hm : ∀ (rs : List Rt) (p : PD) (x : Sn), x ∈ (mget (keyS r) (rs.foldl addR p).sp).getD [] ↔ x ∈ (mget (keyS r) p.sp).getD [] ∨ ∃ y ∈ rs, y.kind ≠ 3 ∧ keyS y = keyS r ∧ x = ⟨y.lo, y.hi⟩ := fun rs => by
    induction rs with
    | nil => intro p x; simp
    | cons y rs ih =>
      intro p x
      rw [List.foldl_cons, ih]
      have e : (∃ z ∈ y :: rs, z.kind ≠ 3 ∧ keyS z = keyS r ∧ x = ⟨z.lo, z.hi⟩) ↔ (y.kind ≠ 3 ∧ keyS y = keyS r ∧ x = ⟨y.lo, y.hi⟩) ∨ ∃ z ∈ rs, z.kind ≠ 3 ∧ keyS z = keyS r ∧ x = ⟨z.lo, z.hi⟩ := by simp
      rw [e, ← or_assoc]
      refine or_congr_left ?_
      unfold addR
      split
      · rename_i y3
        exact ⟨.inl, fun h => h.elim id fun q => absurd y3 q.1⟩
      · rename_i y3
        simp only [mget_mset]
        by_cases q : keyS r = keyS y
        · rw [if_pos q, Option.getD_some, List.mem_append, List.mem_singleton, q]
          exact or_congr_right ⟨fun h => ⟨y3, rfl, h⟩, fun h => h.2.2⟩
        · rw [if_neg q]
          exact ⟨.inl, fun h => h.elim id fun z => absurd z.2.1.symm q⟩
  rw [Bool.eq_iff_iff, List.any_eq_true, List.any_eq_true]
  have hsp : ∀ x, x ∈ spOf (openP o) dev ⟨r.kind, r.table, r.col, 0⟩ ↔ ∃ y ∈ rtsOf o dev, y.kind ≠ 3 ∧ keyS y = keyS r ∧ x = ⟨y.lo, y.hi⟩ := fun x => by
    unfold spOf
    rw [findD_open]
    by_cases hd : dev ∈ o.map (·.dev)
    · rw [if_pos hd]
      show x ∈ (mget (keyS r) _).getD [] ↔ _
      rw [hm]
      exact ⟨fun h => h.elim (fun q => by cases q) id, .inr⟩
    · rw [if_neg hd, rtsOf_none (d := dev) fun w hw e => hd (by rw [← e]; exact List.mem_map.2 ⟨w, hw, rfl⟩)]
      simp
  constructor
  · rintro ⟨x, hx, hb⟩
    obtain ⟨y, hy, y3, yk, rfl⟩ := (hsp x).1 hx
    obtain ⟨k1, k2, k3⟩ := (keyS_iff _ _).1 yk
    unfold inB at hb
    simp only [Bool.and_eq_true, decide_eq_true_eq] at hb
    refine ⟨y, hy, ?_⟩
    rw [Bool.and_eq_true, Bool.and_eq_true, same_iff, decide_eq_true_eq, decide_eq_true_eq]
    exact ⟨⟨⟨⟨k1, k2, k3⟩, fun q => absurd q y3⟩, hb.1⟩, hb.2⟩
  · rintro ⟨y, hy, hb⟩
    rw [Bool.and_eq_true, Bool.and_eq_true, same_iff, decide_eq_true_eq, decide_eq_true_eq] at hb
    obtain ⟨⟨⟨k, _⟩, h1⟩, h2⟩ := hb
    refine ⟨⟨y.lo, y.hi⟩, (hsp _).2 ⟨y, hy, by omega, (keyS_iff _ _).2 k, rfl⟩, ?_⟩
    unfold inB
    simp only [Bool.and_eq_true, decide_eq_true_eq]
    exact ⟨h1, h2⟩
end Go.Proofs.YtbcdgocepnkpeaaGreat
