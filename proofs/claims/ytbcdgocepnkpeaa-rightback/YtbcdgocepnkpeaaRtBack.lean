import Derived.Test.YtbcdgocepnkpeaaRtBackL
import Derived.Test.YtbcdgocepnkpeaaRtFew
import Derived.Test.YtbcdgocepnkpeaaRtAwake
set_option linter.unusedSimpArgs false
set_option linter.unusedVariables false
namespace Go.Proofs.Ytbcdgocepnkpeaa
open Go Go.Abs
attribute [local irreducible] Ev PWp
set_option maxRecDepth 10000
set_option maxHeartbeats 4000000
theorem FewN.o2 {n : Nat} {o : List Ow} (h : FewN n o) (hn : n ≤ 1000) : FewO o := h.o hn
theorem budget_le {s : Sc} (hs : FewS s) {o : List Ow} (h : CanonO s o) (d t c g : Int) : budgetP s o d t c g ≤ 2199023255552 := by
  by_cases q : (1 ≤ d ∧ d ≤ 64) ∧ thereP s 3 t c = 0 ∧ -1099511627776 ≤ g ∧ g ≤ 1099511627776
  · rw [budget_sem h q.1 q.2.1 q.2.2]
    have hm := max_ok hs q.2.1
    have ha : amL (rtsOf o d) ⟨3, t, c, g⟩ ≤ 1099511627776 := by
      by_cases ha : amL (rtsOf o d) ⟨3, t, c, g⟩ = 0
      · omega
      · exact ((canon_sem.1 h).2.am d ⟨3, t, c, g⟩ ha).2.2.1
    split <;> omega
  · rw [budget_zero q]; omega
theorem back_spec (s : Sc) (o : List Ow) (a b : Int) (r : Rt) (c : Int) (hc : 0 ≤ c ∧ c ≤ 4294967295) : PF Try.prog 5 [.agg (scC s), .seq (o.map Ow.cells), (PV.val (Value.int .i64 (a))), (PV.val (Value.int .i64 (b))), .agg r.cells, .val (.int .u32 c)] (PV.val (Value.bool (true))) := by
  have haw := awake_spec
  have hf := few_spec s o
  cases hfw : fewB s o with
  | false =>
    rw [hfw] at hf
    refine pf_of tt_ok Try.func5 (by kernel_rfl) rfl rfl rfl rfl (fun st => ?_)
    (try (apply wO pk; exact rfl)); (repeat' (first | exact All.nil | refine All.cons ?_ ?_ | (apply wC pk; exact rfl; exact rfl) | (apply wE pk; exact rfl; exact rfl) | (apply wX pk; exact rfl) | (apply wN pk; exact rfl) | (apply wD pk [] []; kernel_rfl; exact rfl; exact rfl) | exact Imp.one | exact Imp.same | refine Imp.left ?_ | exact ImpX.one | exact ImpX.same | exact ImpX.mk | refine ImpX.up ?_ | refine ImpX.old ?_ | (apply pwp_condC; simp only [cond_true, cond_false]) | (refine pwp_cond rfl (fun h => ?_) (fun h => ?_) <;> (try simp at h) <;> (first | done | (exfalso; omega) | skip)) | (refine pwp_ret ?_; refine ⟨_, _, _, rfl, Wk.refl _, StSub.refl _, ?_, rfl⟩; (first | rfl | skip)) | (apply callS; exact rfl; exact rfl; exact rfl; (intro _; first | (apply haw <;> first | assumption | omega) | (apply hf <;> first | assumption | omega)); rotate_left; exact rfl; exact rfl) | (apply callV; exact rfl; exact rfl; exact rfl; (intro _; first | (apply haw <;> first | assumption | omega) | (apply hf <;> first | assumption | omega)); rotate_left; exact rfl; exact rfl) | (intros; omega) | (intros; simp only [List.length_map]; omega)))
  | true =>
  rw [hfw] at hf
  have hs := fewB_s hfw
  have ho := (fewB_o hfw).1
  have hn : FewN 20 o := ⟨(fewB_o hfw).2.1, (fewB_o hfw).2.2⟩
  have h1 := hand_spec s hs o ho a b r
  by_cases hG : ¬ HandG s o a b r
  · obtain ⟨e1, e2⟩ := handP_bad hG
    generalize handP s o a b r = z at *
    obtain ⟨l, e⟩ := z
    simp only at h1 e1 e2
    subst e2
    refine pf_of tt_ok Try.func5 (by kernel_rfl) rfl rfl rfl rfl (fun st => ?_)
    (try (apply wO pk; exact rfl)); (repeat' (first | ((exfalso; omega)) | exact All.nil | refine All.cons ?_ ?_ | (apply wC pk; exact rfl; exact rfl) | (apply wE pk; exact rfl; exact rfl) | (apply wX pk; exact rfl) | (apply wN pk; exact rfl) | (apply wD pk [] []; kernel_rfl; exact rfl; exact rfl) | exact Imp.one | exact Imp.same | refine Imp.left ?_ | exact ImpX.one | exact ImpX.same | exact ImpX.mk | refine ImpX.up ?_ | refine ImpX.old ?_ | (apply pwp_condC; simp only [cond_true, cond_false]) | (refine pwp_cond rfl (fun h => ?_) (fun h => ?_) <;> (try simp at h) <;> (first | done | (exfalso; omega) | skip)) | (refine pwp_ret ?_; refine ⟨_, _, _, rfl, Wk.refl _, StSub.refl _, ?_, rfl⟩; (first | rfl | skip)) | (apply callS; exact rfl; exact rfl; exact rfl; (intro _; first | (apply haw <;> first | assumption | omega) | (apply hf <;> first | assumption | omega) | (apply h1 <;> first | assumption | omega)); rotate_left; exact rfl; exact rfl) | (apply callV; exact rfl; exact rfl; exact rfl; (intro _; first | (apply haw <;> first | assumption | omega) | (apply hf <;> first | assumption | omega) | (apply h1 <;> first | assumption | omega)); rotate_left; exact rfl; exact rfl) | (intros; omega) | (intros; simp only [List.length_map]; omega)))
  replace hG := Classical.not_not.1 hG
  obtain ⟨e1, hS⟩ := handP_good hG
  have hr := handP_few (s := s) hn a b r
  generalize handP s o a b r = z at *
  obtain ⟨l, e⟩ := z
  simp only at h1 e1 hS hr
  subst e1
  have hlo := hr.o (by omega)
  have hlc := hG.next hs hS
  have hG2 := hG.back hs hS
  have h2 := hand_spec s hs l hlo b a r
  rw [handP_eq hG2 (hG.backS hS)] at h2
  have h3 := same2_spec o o (by have := hn.1; omega) (fun w hw => by have := hn.2 w hw; omega)
  rw [decide_eq_true rfl] at h3
  have h4 := canon_spec s hs l hlo
  rw [(canon_iff s l).2 hlc] at h4
  have h5 := holds_spec s hs l hlo b r
  rw [hG.got hs hS] at h5
  by_cases k3 : r.kind = 3
  · have h6 := budget_spec s hs l hlo a r.table r.col r.lo
    have h7 := budget_spec s hs o ho a r.table r.col r.lo
    rw [hG.budget hs hS k3] at h6
    have hB := budget_nn hs hG.canon a r.table r.col r.lo
    have hB2 := budget_le hs hG.canon a r.table r.col r.lo
    have hsb : 0 ≤ r.amt ∧ r.amt ≤ 1099511627776 := by
      have := (mayR_sum k3).1 (rightE_ok.1 hG.right).2
      omega
    generalize budgetP s o a r.table r.col r.lo = B at *
    refine pf_of tt_ok Try.func5 (by kernel_rfl) rfl rfl rfl rfl (fun st => ?_)
    (try (apply wO pk; exact rfl)); (repeat' (first | ((exfalso; omega)) | ((exfalso; exact absurd k3 (by assumption))) | exact All.nil | refine All.cons ?_ ?_ | (apply wC pk; exact rfl; exact rfl) | (apply wE pk; exact rfl; exact rfl) | (apply wX pk; exact rfl) | (apply wN pk; exact rfl) | (apply wD pk [] []; kernel_rfl; exact rfl; exact rfl) | exact Imp.one | exact Imp.same | refine Imp.left ?_ | exact ImpX.one | exact ImpX.same | exact ImpX.mk | refine ImpX.up ?_ | refine ImpX.old ?_ | (apply pwp_condC; simp only [cond_true, cond_false]) | (refine pwp_cond rfl (fun h => ?_) (fun h => ?_) <;> (try simp at h) <;> (first | done | (exfalso; omega) | skip)) | (refine pwp_ret ?_; refine ⟨_, _, _, rfl, Wk.refl _, StSub.refl _, ?_, rfl⟩; (first | rfl | ((simp; done); done) | skip)) | (apply callS; exact rfl; exact rfl; exact rfl; (intro _; first | (apply haw <;> first | assumption | omega) | (apply hf <;> first | assumption | omega) | (apply h1 <;> first | assumption | omega) | (apply h2 <;> first | assumption | omega) | (apply h3 <;> first | assumption | omega) | (apply h4 <;> first | assumption | omega) | (apply h5 <;> first | assumption | omega) | (apply h6 <;> first | assumption | omega) | (apply h7 <;> first | assumption | omega)); rotate_left; exact rfl; exact rfl) | (apply callV; exact rfl; exact rfl; exact rfl; (intro _; first | (apply haw <;> first | assumption | omega) | (apply hf <;> first | assumption | omega) | (apply h1 <;> first | assumption | omega) | (apply h2 <;> first | assumption | omega) | (apply h3 <;> first | assumption | omega) | (apply h4 <;> first | assumption | omega) | (apply h5 <;> first | assumption | omega) | (apply h6 <;> first | assumption | omega) | (apply h7 <;> first | assumption | omega)); rotate_left; exact rfl; exact rfl) | (intros; omega) | (intros; simp only [List.length_map]; omega)))
  have hlt := hG.lt k3
  have hspan := (mayR_span k3).1 (rightE_ok.1 hG.right).2
  by_cases hw : r.hi - r.lo < 2
  · have h6 := holds_spec s hs l hlo a r
    rw [hG.gone hs hS k3 rfl (Int.le_refl _) hlt hlt] at h6
    refine pf_of tt_ok Try.func5 (by kernel_rfl) rfl rfl rfl rfl (fun st => ?_)
    (try (apply wO pk; exact rfl)); (repeat' (first | ((exfalso; omega)) | ((exfalso; exact absurd (by assumption) k3)) | exact All.nil | refine All.cons ?_ ?_ | (apply wC pk; exact rfl; exact rfl) | (apply wE pk; exact rfl; exact rfl) | (apply wX pk; exact rfl) | (apply wN pk; exact rfl) | (apply wD pk [] []; kernel_rfl; exact rfl; exact rfl) | exact Imp.one | exact Imp.same | refine Imp.left ?_ | exact ImpX.one | exact ImpX.same | exact ImpX.mk | refine ImpX.up ?_ | refine ImpX.old ?_ | (apply pwp_condC; simp only [cond_true, cond_false]) | (refine pwp_cond rfl (fun h => ?_) (fun h => ?_) <;> (try simp at h) <;> (first | done | (exfalso; omega) | skip)) | (refine pwp_ret ?_; refine ⟨_, _, _, rfl, Wk.refl _, StSub.refl _, ?_, rfl⟩; (first | rfl | ((simp; done); done) | skip)) | (apply callS; exact rfl; exact rfl; exact rfl; (intro _; first | (apply haw <;> first | assumption | omega) | (apply hf <;> first | assumption | omega) | (apply h1 <;> first | assumption | omega) | (apply h2 <;> first | assumption | omega) | (apply h3 <;> first | assumption | omega) | (apply h4 <;> first | assumption | omega) | (apply h5 <;> first | assumption | omega) | (apply h6 <;> first | assumption | omega)); rotate_left; exact rfl; exact rfl) | (apply callV; exact rfl; exact rfl; exact rfl; (intro _; first | (apply haw <;> first | assumption | omega) | (apply hf <;> first | assumption | omega) | (apply h1 <;> first | assumption | omega) | (apply h2 <;> first | assumption | omega) | (apply h3 <;> first | assumption | omega) | (apply h4 <;> first | assumption | omega) | (apply h5 <;> first | assumption | omega) | (apply h6 <;> first | assumption | omega)); rotate_left; exact rfl; exact rfl) | (intros; omega) | (intros; simp only [List.length_map]; omega)))
  have hpos : 0 < r.hi - r.lo - 1 := by omega
  have hm1 := Int.emod_nonneg c (show r.hi - r.lo - 1 ≠ 0 by omega)
  have hm2 := Int.emod_lt_of_pos c hpos
  have hmlo : r.lo < (r.lo + 1 + c % (r.hi - r.lo - 1)) := by omega
  have hmhi : (r.lo + 1 + c % (r.hi - r.lo - 1)) < r.hi := by omega
  have hy := hG.part (x := ({ r with lo := (r.lo + 1 + c % (r.hi - r.lo - 1)) } : Rt)) k3 rfl rfl (by show r.lo ≤ (r.lo + 1 + c % (r.hi - r.lo - 1)); omega) (Int.le_refl _) hmhi
  have h6 := hand_spec s hs o ho a b ({ r with lo := (r.lo + 1 + c % (r.hi - r.lo - 1)) } : Rt)
  obtain ⟨e3, hS3⟩ := handP_good hy
  have hr3 := handP_few (s := s) hn a b ({ r with lo := (r.lo + 1 + c % (r.hi - r.lo - 1)) } : Rt)
  generalize handP s o a b ({ r with lo := (r.lo + 1 + c % (r.hi - r.lo - 1)) } : Rt) = z3 at *
  obtain ⟨l3, e3'⟩ := z3
  simp only at h6 e3 hS3 hr3
  subst e3
  obtain ⟨hx, hx2⟩ := hG.two hs k3 hmlo hmhi hS3
  have h7 := hand_spec s hs l3 (hr3.o (by omega)) a b ({ r with hi := (r.lo + 1 + c % (r.hi - r.lo - 1)) } : Rt)
  obtain ⟨e4, hS4⟩ := handP_good hx
  have e5 := (hx2 _ hS4).uniq hS
  have e6 : handP s l3 a b ({ r with hi := (r.lo + 1 + c % (r.hi - r.lo - 1)) } : Rt) = (l, 0) := by rw [← e4, ← e5]
  rw [e6] at h7
  clear e6 e5 e4 hS4
  have h8 := same2_spec l l (by have := hr.1; omega) (fun w hw => by have := hr.2 w hw; omega)
  rw [decide_eq_true rfl] at h8
  have h9 := holds_spec s hs l hlo a ({ r with hi := (r.lo + 1 + c % (r.hi - r.lo - 1)) } : Rt)
  rw [hG.gone hs hS (x := ({ r with hi := (r.lo + 1 + c % (r.hi - r.lo - 1)) } : Rt)) k3 rfl (Int.le_refl _) hlt hmlo] at h9
  have h10 := holds_spec s hs l hlo a ({ r with lo := (r.lo + 1 + c % (r.hi - r.lo - 1)) } : Rt)
  rw [hG.gone hs hS (x := ({ r with lo := (r.lo + 1 + c % (r.hi - r.lo - 1)) } : Rt)) k3 rfl (by show r.lo ≤ (r.lo + 1 + c % (r.hi - r.lo - 1)); omega) hmhi hmhi] at h10
  have hmb : -9223372036854775808 ≤ (r.lo + 1 + c % (r.hi - r.lo - 1)) ∧ (r.lo + 1 + c % (r.hi - r.lo - 1)) ≤ 9223372036854775807 := by omega
  refine pf_of tt_ok Try.func5 (by kernel_rfl) rfl rfl rfl rfl (fun st => ?_)
  (try (apply wO pk; exact rfl)); (repeat' (first | ((exfalso; omega)) | ((exfalso; exact absurd (by assumption) k3)) | exact All.nil | refine All.cons ?_ ?_ | (apply wC pk; exact rfl; exact rfl) | (apply wE pk; exact rfl; exact rfl) | (apply wX pk; exact rfl) | (apply wN pk; exact rfl) | (apply wD pk [] []; kernel_rfl; exact rfl; exact rfl) | exact Imp.one | exact Imp.same | refine Imp.left ?_ | exact ImpX.one | exact ImpX.same | exact ImpX.mk | refine ImpX.up ?_ | refine ImpX.old ?_ | (apply pwp_condC; simp only [cond_true, cond_false]) | (refine pwp_cond rfl (fun h => ?_) (fun h => ?_) <;> (try simp at h) <;> (first | done | (exfalso; omega) | skip)) | (refine pwp_ret ?_; refine ⟨_, _, _, rfl, Wk.refl _, StSub.refl _, ?_, rfl⟩; (first | rfl | ((simp; done); done) | skip)) | (apply callS; exact rfl; exact rfl; exact rfl; (intro _; first | (apply haw <;> first | assumption | omega) | (apply hf <;> first | assumption | omega) | (apply h1 <;> first | assumption | omega) | (apply h2 <;> first | assumption | omega) | (apply h3 <;> first | assumption | omega) | (apply h4 <;> first | assumption | omega) | (apply h5 <;> first | assumption | omega) | (apply h6 <;> first | assumption | omega) | (apply h7 <;> first | assumption | omega) | (apply h8 <;> first | assumption | omega) | (apply h9 <;> first | assumption | omega) | (apply h10 <;> first | assumption | omega)); rotate_left; exact rfl; exact rfl) | (apply callV; exact rfl; exact rfl; exact rfl; (intro _; first | (apply haw <;> first | assumption | omega) | (apply hf <;> first | assumption | omega) | (apply h1 <;> first | assumption | omega) | (apply h2 <;> first | assumption | omega) | (apply h3 <;> first | assumption | omega) | (apply h4 <;> first | assumption | omega) | (apply h5 <;> first | assumption | omega) | (apply h6 <;> first | assumption | omega) | (apply h7 <;> first | assumption | omega) | (apply h8 <;> first | assumption | omega) | (apply h9 <;> first | assumption | omega) | (apply h10 <;> first | assumption | omega)); rotate_left; exact rfl; exact rfl) | (apply cvA pk.htt; exact rfl; exact rfl; exact rfl; exact rfl; exact rfl; (refine ⟨?_, ?_⟩ <;> omega); exact rfl) | (exact hmb) | (intros; omega) | (intros; simp only [List.length_map]; omega)))
end Go.Proofs.Ytbcdgocepnkpeaa
