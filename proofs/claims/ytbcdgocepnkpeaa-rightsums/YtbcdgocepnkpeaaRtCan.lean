import Derived.Test.YtbcdgocepnkpeaaRtFn
set_option linter.unusedSimpArgs false
set_option linter.unusedVariables false
namespace Go.Proofs.Ytbcdgocepnkpeaa
open Go Go.Abs
attribute [local irreducible] Ev PWp
set_option maxRecDepth 10000
set_option maxHeartbeats 1000000
def mayR (r : Rt) : Bool := if r.kind = 3 then ((fitsB r.lo && decide (r.hi = 0)) && decide (r.amt ≥ 1)) && decide (r.amt ≤ 1099511627776) else ((decide (r.lo ≥ 0) && decide (r.lo < r.hi)) && decide (r.hi ≤ 1073741824)) && decide (r.amt = 0)
def rightE (s : Sc) (r : Rt) : Int := if thereP s r.kind r.table r.col ≠ 0 then thereP s r.kind r.table r.col else if mayR r = true then 0 else 1
theorem right_spec (s : Sc) (hs : FewS s) (r : Rt) : PF Try.prog 21 [.agg (scC s), .agg r.cells] (PV.val (Value.int .i64 (rightE s r))) := by
  have ht := there_spec s hs r
  unfold rightE
  generalize thereP s r.kind r.table r.col = e at *
  refine pf_of tt_ok Try.func21 (by kernel_rfl) rfl rfl rfl rfl (fun st => ?_)
  (try (apply wO pk; exact rfl)); (repeat' (first | exact All.nil | refine All.cons ?_ ?_ | (apply wC pk; exact rfl; exact rfl) | (apply wE pk; exact rfl; exact rfl) | (apply wX pk; exact rfl) | (apply wN pk; exact rfl) | (apply wD pk [] []; kernel_rfl; exact rfl; exact rfl) | exact Imp.one | exact Imp.same | refine Imp.left ?_ | exact ImpX.one | exact ImpX.same | exact ImpX.mk | refine ImpX.up ?_ | refine ImpX.old ?_ | (apply pwp_condC; simp only [cond_true, cond_false]) | (refine pwp_cond rfl (fun h => ?_) (fun h => ?_) <;> (try simp at h) <;> (first | done | (exfalso; omega) | skip)) | (refine pwp_ret ?_; refine ⟨_, _, _, rfl, Wk.refl _, StSub.refl _, ?_, rfl⟩; (first | rfl | ((first | (simp only [mayR]; grind) | (simp_all [mayR])); done) | skip)) | (apply callS; exact rfl; exact rfl; exact rfl; (intro _; first | (apply ht <;> first | assumption | omega) | (apply (fits_spec r.lo) <;> first | assumption | omega)); rotate_left; exact rfl; exact rfl) | (apply callV; exact rfl; exact rfl; exact rfl; (intro _; first | (apply ht <;> first | assumption | omega) | (apply (fits_spec r.lo) <;> first | assumption | omega)); rotate_left; exact rfl; exact rfl) | (intros; omega) | (intros; simp only [List.length_map]; omega)))
def maxOf (s : Sc) (t c : Int) : Int := ((s[t.toNat]!).sums[c.toNat]!).max
def amountP (s : Sc) (dev : Int) (r : Rt) : Bool :=
  if thereP s r.kind r.table r.col ≠ 0 ∨ fitsB r.lo = false ∨ r.hi ≠ 0 ∨ r.amt > 1099511627776 then false
  else if dev = 1 then decide (r.amt ≥ 0 - maxOf s r.table r.col) && decide (r.amt ≠ 0) else decide (r.amt ≥ 1)
theorem there_ok {s : Sc} {k t c : Int} (h : thereP s k t c = 0) : (1 ≤ k ∧ k ≤ 3) ∧ (0 ≤ t ∧ t < s.length) ∧ (k = 1 → c = 0) ∧ (k = 2 → (s[t.toNat]!).unique.contains c = true) ∧ (k = 3 → 0 ≤ c ∧ c < (s[t.toNat]!).sums.length) := by
  unfold thereP at h
  split at h
  · cases h
  split at h
  · cases h
  split at h
  · cases h
  split at h
  · cases h
  split at h
  · cases h
  rename_i h1 h2 h3 h4 h5
  refine ⟨by omega, by omega, fun e => ?_, fun e => ?_, fun e => by omega⟩
  · exact Decidable.byContradiction fun hc => h3 ⟨e, hc⟩
  · cases hc : (s[t.toNat]!).unique.contains c with
    | true => rfl
    | false => exact absurd ⟨e, hc⟩ h4
theorem amount_spec (s : Sc) (hs : FewS s) (dev : Int) (r : Rt) (h3 : r.kind = 3) : PF Try.prog 36 [.agg (scC s), (PV.val (Value.int .i64 (dev))), .agg r.cells] (PV.val (Value.bool (amountP s dev r))) := by
  have ht := there_spec s hs r
  by_cases h0 : thereP s r.kind r.table r.col = 0
  · obtain ⟨_, ⟨a1, a2⟩, _, _, a3⟩ := there_ok h0
    obtain ⟨b1, b2⟩ := a3 h3
    obtain ⟨t, htt⟩ : ∃ n : Nat, r.table = n := ⟨r.table.toNat, by omega⟩
    obtain ⟨c, hcc⟩ : ∃ n : Nat, r.col = n := ⟨r.col.toNat, by omega⟩
    have hlt : t < s.length := by omega
    have hT : s[r.table.toNat]! = s[t] := by rw [htt]; simp [hlt]
    rw [hT] at b2
    have hlc : c < (s[t].sums).length := by omega
    have hC : s[t].sums[r.col.toNat]! = s[t].sums[c] := by rw [hcc]; simp [hlc]
    have hm := hs.max s[t] (List.getElem_mem hlt) s[t].sums[c] (List.getElem_mem hlc)
    unfold amountP maxOf
    rw [hT, hC]
    rw [h0] at ht ⊢
    refine pf_of tt_ok Try.func36 (by kernel_rfl) rfl rfl rfl rfl (fun st => ?_)
    (try (apply wO pk; exact rfl)); (repeat' (first | exact All.nil | refine All.cons ?_ ?_ | (apply wC pk; exact rfl; exact rfl) | (apply wE pk; exact rfl; exact rfl) | (apply wX pk; exact rfl) | (apply wN pk; exact rfl) | (apply wD pk [] []; kernel_rfl; exact rfl; exact rfl) | exact Imp.one | exact Imp.same | refine Imp.left ?_ | exact ImpX.one | exact ImpX.same | exact ImpX.mk | refine ImpX.up ?_ | refine ImpX.old ?_ | (apply pwp_condC; simp only [cond_true, cond_false]) | (refine pwp_cond rfl (fun h => ?_) (fun h => ?_) <;> (try simp at h) <;> (first | done | (exfalso; omega) | skip)) | (refine pwp_ret ?_; refine ⟨_, _, _, rfl, Wk.refl _, StSub.refl _, ?_, rfl⟩; (first | rfl | ((first | grind | (simp_all; done)); done) | skip)) | (apply callS; exact rfl; exact rfl; exact rfl; (intro _; first | (apply ht <;> first | assumption | omega) | (apply (fits_spec r.lo) <;> first | assumption | omega)); rotate_left; exact rfl; exact rfl) | (apply callV; exact rfl; exact rfl; exact rfl; (intro _; first | (apply ht <;> first | assumption | omega) | (apply (fits_spec r.lo) <;> first | assumption | omega)); rotate_left; exact rfl; exact rfl) | (apply idxS pk; exact rfl; exact rfl; exact rfl; exact rfl; exact rfl; exact rfl; rotate_left; exact rfl; (intro _; exact htt); (intro _; apply get_map <;> omega); (intro _; exact rfl); exact rfl) | (apply idxS pk; exact rfl; exact rfl; exact rfl; exact rfl; exact rfl; exact rfl; rotate_left; exact rfl; (intro _; exact hcc); (intro _; apply get_map <;> omega); (intro _; exact rfl); exact rfl) | (intros; omega) | (intros; simp only [List.length_map]; omega)))
  · refine pf_of tt_ok Try.func36 (by kernel_rfl) rfl rfl rfl rfl (fun st => ?_)
    (try (apply wO pk; exact rfl)); (repeat' (first | exact All.nil | refine All.cons ?_ ?_ | (apply wC pk; exact rfl; exact rfl) | (apply wE pk; exact rfl; exact rfl) | (apply wX pk; exact rfl) | (apply wN pk; exact rfl) | (apply wD pk [] []; kernel_rfl; exact rfl; exact rfl) | exact Imp.one | exact Imp.same | refine Imp.left ?_ | exact ImpX.one | exact ImpX.same | exact ImpX.mk | refine ImpX.up ?_ | refine ImpX.old ?_ | (apply pwp_condC; simp only [cond_true, cond_false]) | (refine pwp_cond rfl (fun h => ?_) (fun h => ?_) <;> (try simp at h) <;> (first | done | (exfalso; omega) | skip)) | (refine pwp_ret ?_; refine ⟨_, _, _, rfl, Wk.refl _, StSub.refl _, ?_, rfl⟩; (first | rfl | ((simp_all [amountP]; done); done) | skip)) | (apply callS; exact rfl; exact rfl; exact rfl; (intro _; first | (apply ht <;> first | assumption | omega) | (apply (fits_spec r.lo) <;> first | assumption | omega)); rotate_left; exact rfl; exact rfl) | (apply callV; exact rfl; exact rfl; exact rfl; (intro _; first | (apply ht <;> first | assumption | omega) | (apply (fits_spec r.lo) <;> first | assumption | omega)); rotate_left; exact rfl; exact rfl) | (intros; omega) | (intros; simp only [List.length_map]; omega)))
theorem clash_spec (a b : Rt) : PF Try.prog 30 [.agg a.cells, .agg b.cells] (PV.val (Value.bool ((((((decide (a.kind = b.kind) && decide (a.table = b.table)) && decide (a.col = b.col)) && decide (a.kind ≠ 3)) && decide (a.lo < b.hi)) && decide (b.lo < a.hi))))) := by
  refine pf_of tt_ok Try.func30 (by kernel_rfl) rfl rfl rfl rfl (fun st => ?_)
  (try (apply wO pk; exact rfl)); (repeat' (first | exact All.nil | refine All.cons ?_ ?_ | (apply wC pk; exact rfl; exact rfl) | (apply wE pk; exact rfl; exact rfl) | (apply wX pk; exact rfl) | (apply wN pk; exact rfl) | (apply wD pk [] []; kernel_rfl; exact rfl; exact rfl) | exact Imp.one | exact Imp.same | refine Imp.left ?_ | exact ImpX.one | exact ImpX.same | exact ImpX.mk | refine ImpX.up ?_ | refine ImpX.old ?_ | (apply pwp_condC; simp only [cond_true, cond_false]) | (refine pwp_cond rfl (fun h => ?_) (fun h => ?_) <;> (try simp at h) <;> (first | done | (exfalso; omega) | skip)) | (refine pwp_ret ?_; refine ⟨_, _, _, rfl, Wk.refl _, StSub.refl _, ?_, rfl⟩; (first | rfl | (simp; done) | skip)) | (intros; omega) | (intros; simp only [List.length_map]; omega)))
def clashB (a b : Rt) : Bool := ((((decide (a.kind = b.kind) && decide (a.table = b.table)) && decide (a.col = b.col)) && decide (a.kind ≠ 3)) && decide (a.lo < b.hi)) && decide (b.lo < a.hi)
theorem canon1_spec (a b : Rt) : PF Try.prog 29 ([.agg a.cells] ++ [.rp b.cells]) (PV.val (Value.bool (clashB a b))) := by
  refine pf_of tt_ok Try.func29 (by kernel_rfl) rfl rfl rfl rfl (fun st => ?_)
  (try (apply wO pk; exact rfl)); (repeat' (first | exact All.nil | refine All.cons ?_ ?_ | (apply wC pk; exact rfl; exact rfl) | (apply wE pk; exact rfl; exact rfl) | (apply wX pk; exact rfl) | (apply wN pk; exact rfl) | (apply wD pk [] []; kernel_rfl; exact rfl; exact rfl) | exact Imp.one | exact Imp.same | refine Imp.left ?_ | exact ImpX.one | exact ImpX.same | exact ImpX.mk | refine ImpX.up ?_ | refine ImpX.old ?_ | (apply pwp_condC; simp only [cond_true, cond_false]) | (refine pwp_cond rfl (fun h => ?_) (fun h => ?_) <;> (try simp at h) <;> (first | done | (exfalso; omega) | skip)) | (refine pwp_ret ?_; refine ⟨_, _, _, rfl, Wk.refl _, StSub.refl _, ?_, rfl⟩; (first | rfl | skip)) | (apply callS; exact rfl; exact rfl; exact rfl; (intro _; first | (apply (clash_spec a b) <;> first | assumption | omega)); rotate_left; exact rfl; exact rfl) | (apply callV; exact rfl; exact rfl; exact rfl; (intro _; first | (apply (clash_spec a b) <;> first | assumption | omega)); rotate_left; exact rfl; exact rfl) | (intros; omega) | (intros; simp only [List.length_map]; omega)))
def behindP (a b : Rt) : Bool :=
  if cmpL [a.kind, a.table, a.col] [b.kind, b.table, b.col] ≠ 0 then decide (cmpL [a.kind, a.table, a.col] [b.kind, b.table, b.col] < 0) else if a.kind = 3 then decide (a.lo < b.lo) else decide (a.hi < b.lo)
theorem behind_spec (a b : Rt) : PF Try.prog 37 [.agg a.cells, .agg b.cells] (PV.val (Value.bool (behindP a b))) := by
  have hc := compare_spec [a.kind, a.table, a.col] [b.kind, b.table, b.col] (show 3 < 4611686018427387904 from by omega)
  unfold behindP
  generalize cmpL [a.kind, a.table, a.col] [b.kind, b.table, b.col] = n at *
  refine pf_of tt_ok Try.func37 (by kernel_rfl) rfl rfl rfl rfl (fun st => ?_)
  (try (apply wO pk; exact rfl)); (repeat' (first | exact All.nil | refine All.cons ?_ ?_ | (apply wC pk; exact rfl; exact rfl) | (apply wE pk; exact rfl; exact rfl) | (apply wX pk; exact rfl) | (apply wN pk; exact rfl) | (apply wD pk [] []; kernel_rfl; exact rfl; exact rfl) | exact Imp.one | exact Imp.same | refine Imp.left ?_ | exact ImpX.one | exact ImpX.same | exact ImpX.mk | refine ImpX.up ?_ | refine ImpX.old ?_ | (apply pwp_condC; simp only [cond_true, cond_false]) | (refine pwp_cond rfl (fun h => ?_) (fun h => ?_) <;> (try simp at h) <;> (first | done | (exfalso; omega) | skip)) | (refine pwp_ret ?_; refine ⟨_, _, _, rfl, Wk.refl _, StSub.refl _, ?_, rfl⟩; (first | rfl | ((simp_all; done); done) | skip)) | (apply callS; exact rfl; exact rfl; exact rfl; (intro _; first | (apply hc <;> first | assumption | omega)); rotate_left; exact rfl; exact rfl) | (apply callV; exact rfl; exact rfl; exact rfl; (intro _; first | (apply hc <;> first | assumption | omega)); rotate_left; exact rfl; exact rfl) | (intros; omega) | (intros; simp only [List.length_map]; omega)))
end Go.Proofs.Ytbcdgocepnkpeaa
