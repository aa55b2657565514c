import Derived.Test.YtbcdgocepnkpeaaRtBackL
import Derived.Test.YtbcdgocepnkpeaaRtFew
import Derived.Test.YtbcdgocepnkpeaaRtAwake
set_option linter.unusedSimpArgs false
set_option linter.unusedVariables false
namespace Go.Proofs.Ytbcdgocepnkpeaa
open Go Go.Abs
attribute [local irreducible] Ev PWp
set_option maxRecDepth 10000
set_option maxHeartbeats 4000000
theorem GiveG.budget {s : Sc} {o : List Ow} {a b : Int} (h : GiveG s o a b) {l : List Ow} (hl : GiveS o a b l) (hcl : CanonO s l) (t c g : Int) : budgetP s l b t c g = budgetP s o a t c g + budgetP s o b t c g := by
  by_cases q : thereP s 3 t c = 0 ∧ -1099511627776 ≤ g ∧ g ≤ 1099511627776
  · rw [budget_sem hcl h.hb q.1 q.2, budget_sem h.canon h.ha q.1 q.2, budget_sem h.canon h.hb q.1 q.2, hl.am, if_neg (fun e => h.ne e.symm), if_pos rfl, if_neg h.h1]; omega
  · rw [budget_zero (fun e => q e.2), budget_zero (fun e => q e.2), budget_zero (fun e => q e.2)]; rfl
theorem GiveG.none {s : Sc} {o : List Ow} {a b : Int} (h : GiveG s o a b) {l : List Ow} (hl : GiveS o a b l) (hcl : CanonO s l) (r : Rt) : holdsP s l a r = false := by
  rw [Bool.eq_false_iff]; intro hh
  obtain ⟨⟨hr, _⟩, h3, h4⟩ := (holds_sem hcl a r).1 hh
  obtain ⟨ht, hm⟩ := rightE_ok.1 hr
  by_cases k3 : r.kind = 3
  · have hm := (mayR_sum k3).1 hm
    rw [k3] at ht
    have := h3 k3
    rw [budget_sem hcl h.ha ht hm.1, hl.am, if_pos rfl, if_neg h.ne, if_neg h.h1] at this
    omega
  · have hm := (mayR_span k3).1 hm
    rcases (hl.cv a (keyS r) r.lo).1 (h4 k3 r.lo (Int.le_refl _) hm.2.1) with q | q
    · exact q.1 rfl
    · exact h.ne q.1
theorem GiveG.has {s : Sc} (hs : FewS s) {o : List Ow} {a b : Int} (h : GiveG s o a b) {l : List Ow} (hl : GiveS o a b l) (hcl : CanonO s l) (r : Rt) (hh : holdsP s o a r = true ∨ holdsP s o b r = true) : holdsP s l b r = true := by
  have hba := budget_nn hs h.canon a r.table r.col r.lo
  have hbb := budget_nn hs h.canon b r.table r.col r.lo
  have hne : b ≠ a := fun e => h.ne e.symm
  have key : rightE s r = 0 ∧ (r.kind = 3 → budgetP s l b r.table r.col r.lo ≥ r.amt) ∧ (r.kind ≠ 3 → ∀ n, r.lo ≤ n → n < r.hi → cvR (rtsOf l b) (keyS r) n) := by
    rcases hh with hh | hh
    · obtain ⟨⟨hr, _⟩, h3, h4⟩ := (holds_sem h.canon a r).1 hh
      refine ⟨hr, fun q => ?_, fun q n n1 n2 => (hl.cv b (keyS r) n).2 (.inr ⟨rfl, h4 q n n1 n2⟩)⟩
      rw [h.budget hl hcl]; have := h3 q; omega
    · obtain ⟨⟨hr, _⟩, h3, h4⟩ := (holds_sem h.canon b r).1 hh
      refine ⟨hr, fun q => ?_, fun q n n1 n2 => (hl.cv b (keyS r) n).2 (.inl ⟨hne, h4 q n n1 n2⟩)⟩
      rw [h.budget hl hcl]; have := h3 q; omega
  exact (holds_sem hcl b r).2 ⟨⟨key.1, h.hb⟩, key.2⟩
theorem GiveG.other {s : Sc} {o : List Ow} {a b : Int} (h : GiveG s o a b) {l : List Ow} (hl : GiveS o a b l) (hcl : CanonO s l) (r : Rt) {d : Int} (h1 : d ≠ a) (h2 : d ≠ b) : holdsP s l d r = holdsP s o d r := by
  have hcv : ∀ k n, cvR (rtsOf l d) k n ↔ cvR (rtsOf o d) k n := fun k n => by
    rw [hl.cv]
    exact ⟨fun q => q.elim (fun q => q.2) fun q => absurd q.1 h2, fun q => .inl ⟨h1, q⟩⟩
  have hbu : ∀ t c g, budgetP s l d t c g = budgetP s o d t c g := fun t c g => by
    by_cases q : (1 ≤ d ∧ d ≤ 64) ∧ thereP s 3 t c = 0 ∧ -1099511627776 ≤ g ∧ g ≤ 1099511627776
    · rw [budget_sem hcl q.1 q.2.1 q.2.2, budget_sem h.canon q.1 q.2.1 q.2.2, hl.am, if_neg h1, if_neg h2]; omega
    · rw [budget_zero q, budget_zero q]
  rw [Bool.eq_iff_iff, holds_sem hcl, holds_sem h.canon, hbu]
  simp only [hcv]
theorem budget_le {s : Sc} (hs : FewS s) {o : List Ow} (h : CanonO s o) (d t c g : Int) : budgetP s o d t c g ≤ 2199023255552 := by
  by_cases q : (1 ≤ d ∧ d ≤ 64) ∧ thereP s 3 t c = 0 ∧ -1099511627776 ≤ g ∧ g ≤ 1099511627776
  · rw [budget_sem h q.1 q.2.1 q.2.2]
    have hm := max_ok hs q.2.1
    have ha : amL (rtsOf o d) ⟨3, t, c, g⟩ ≤ 1099511627776 := by
      by_cases ha : amL (rtsOf o d) ⟨3, t, c, g⟩ = 0
      · omega
      · exact ((canon_sem.1 h).2.am d ⟨3, t, c, g⟩ ha).2.2.1
    split <;> omega
  · rw [budget_zero q]; omega
theorem given_spec (s : Sc) (o : List Ow) (a b : Int) (r : Rt) (d : Int) : PF Try.prog 6 [.agg (scC s), .seq (o.map Ow.cells), (PV.val (Value.int .i64 (a))), (PV.val (Value.int .i64 (b))), .agg r.cells, (PV.val (Value.int .i64 (d)))] (PV.val (Value.bool (true))) := by
  have haw := awake_spec
  have hf := few_spec s o
  cases hfw : fewB s o with
  | false =>
    rw [hfw] at hf
    refine pf_of tt_ok Try.func6 (by kernel_rfl) rfl rfl rfl rfl (fun st => ?_)
    (try (apply wO pk; exact rfl)); (repeat' (first | exact All.nil | refine All.cons ?_ ?_ | (apply wC pk; exact rfl; exact rfl) | (apply wE pk; exact rfl; exact rfl) | (apply wX pk; exact rfl) | (apply wN pk; exact rfl) | (apply wD pk [] []; kernel_rfl; exact rfl; exact rfl) | exact Imp.one | exact Imp.same | refine Imp.left ?_ | exact ImpX.one | exact ImpX.same | exact ImpX.mk | refine ImpX.up ?_ | refine ImpX.old ?_ | (apply pwp_condC; simp only [cond_true, cond_false]) | (refine pwp_cond rfl (fun h => ?_) (fun h => ?_) <;> (try simp at h) <;> (first | done | (exfalso; omega) | skip)) | (refine pwp_ret ?_; refine ⟨_, _, _, rfl, Wk.refl _, StSub.refl _, ?_, rfl⟩; (first | rfl | skip)) | (apply callS; exact rfl; exact rfl; exact rfl; (intro _; first | (apply haw <;> first | assumption | omega) | (apply hf <;> first | assumption | omega)); rotate_left; exact rfl; exact rfl) | (apply callV; exact rfl; exact rfl; exact rfl; (intro _; first | (apply haw <;> first | assumption | omega) | (apply hf <;> first | assumption | omega)); rotate_left; exact rfl; exact rfl) | (intros; omega) | (intros; simp only [List.length_map]; omega)))
  | true =>
  rw [hfw] at hf
  have hs := fewB_s hfw
  have ho := (fewB_o hfw).1
  have hn : FewN 20 o := ⟨(fewB_o hfw).2.1, (fewB_o hfw).2.2⟩
  have h1 := give_spec s hs o ho a b
  have hr := giveP_few (s := s) hn a b
  rcases (giveP_cases s hs o a b).symm with ⟨e1, e2⟩ | ⟨e1, hG, hS⟩
  · generalize giveP s o a b = z at *
    obtain ⟨l, e⟩ := z
    simp only at h1 e1 e2
    subst e2
    refine pf_of tt_ok Try.func6 (by kernel_rfl) rfl rfl rfl rfl (fun st => ?_)
    (try (apply wO pk; exact rfl)); (repeat' (first | ((exfalso; omega)) | exact All.nil | refine All.cons ?_ ?_ | (apply wC pk; exact rfl; exact rfl) | (apply wE pk; exact rfl; exact rfl) | (apply wX pk; exact rfl) | (apply wN pk; exact rfl) | (apply wD pk [] []; kernel_rfl; exact rfl; exact rfl) | exact Imp.one | exact Imp.same | refine Imp.left ?_ | exact ImpX.one | exact ImpX.same | exact ImpX.mk | refine ImpX.up ?_ | refine ImpX.old ?_ | (apply pwp_condC; simp only [cond_true, cond_false]) | (refine pwp_cond rfl (fun h => ?_) (fun h => ?_) <;> (try simp at h) <;> (first | done | (exfalso; omega) | skip)) | (refine pwp_ret ?_; refine ⟨_, _, _, rfl, Wk.refl _, StSub.refl _, ?_, rfl⟩; (first | rfl | skip)) | (apply callS; exact rfl; exact rfl; exact rfl; (intro _; first | (apply haw <;> first | assumption | omega) | (apply hf <;> first | assumption | omega) | (apply h1 <;> first | assumption | omega)); rotate_left; exact rfl; exact rfl) | (apply callV; exact rfl; exact rfl; exact rfl; (intro _; first | (apply haw <;> first | assumption | omega) | (apply hf <;> first | assumption | omega) | (apply h1 <;> first | assumption | omega)); rotate_left; exact rfl; exact rfl) | (intros; omega) | (intros; simp only [List.length_map]; omega)))
  generalize giveP s o a b = z at *
  obtain ⟨l, e⟩ := z
  simp only at h1 e1 hS hr
  subst e1
  have hlo := hr.o (by omega)
  have hcl := give_canon hs hG hS
  have h2 := holds_spec s hs l hlo a r
  rw [hG.none hS hcl r] at h2
  have h3 := canon_spec s hs l hlo
  rw [(canon_iff s l).2 hcl] at h3
  have h4 := holds_spec s hs o ho a r
  have h5 := holds_spec s hs o ho b r
  have h6 := holds_spec s hs l hlo b r
  have hhas := hG.has hs hS hcl r
  have h7 := budget_spec s hs o ho a r.table r.col r.lo
  have h8 := budget_spec s hs o ho b r.table r.col r.lo
  have h9 := budget_spec s hs l hlo b r.table r.col r.lo
  rw [hG.budget hS hcl] at h9
  have b1 := budget_nn hs hG.canon a r.table r.col r.lo
  have b2 := budget_nn hs hG.canon b r.table r.col r.lo
  have b3 := budget_le hs hG.canon a r.table r.col r.lo
  have b4 := budget_le hs hG.canon b r.table r.col r.lo
  have h10 := holds_spec s hs l hlo d r
  have h11 := holds_spec s hs o ho d r
  have hoth := hG.other hS hcl r (d := d)
  generalize budgetP s o a r.table r.col r.lo = B1 at *
  generalize budgetP s o b r.table r.col r.lo = B2 at *
  by_cases da : d = a
  · subst da
    rw [hG.none hS hcl r] at h10
    generalize holdsP s o d r = A at *
    generalize holdsP s o b r = B at *
    generalize holdsP s l b r = C at *
    clear hoth
    refine pf_of tt_ok Try.func6 (by kernel_rfl) rfl rfl rfl rfl (fun st => ?_)
    (try (apply wO pk; exact rfl)); (repeat' (first | ((exfalso; omega)) | exact All.nil | refine All.cons ?_ ?_ | (apply wC pk; exact rfl; exact rfl) | (apply wE pk; exact rfl; exact rfl) | (apply wX pk; exact rfl) | (apply wN pk; exact rfl) | (apply wD pk [] []; kernel_rfl; exact rfl; exact rfl) | exact Imp.one | exact Imp.same | refine Imp.left ?_ | exact ImpX.one | exact ImpX.same | exact ImpX.mk | refine ImpX.up ?_ | refine ImpX.old ?_ | (apply pwp_condC; simp only [cond_true, cond_false]) | (refine pwp_cond rfl (fun h => ?_) (fun h => ?_) <;> (try simp at h) <;> (first | done | (exfalso; omega) | skip)) | (refine pwp_ret ?_; refine ⟨_, _, _, rfl, Wk.refl _, StSub.refl _, ?_, rfl⟩; (first | rfl | ((first | (simp; done) | (exfalso; grind)); done) | skip)) | (apply callS; exact rfl; exact rfl; exact rfl; (intro _; first | (apply haw <;> first | assumption | omega) | (apply hf <;> first | assumption | omega) | (apply h1 <;> first | assumption | omega) | (apply h2 <;> first | assumption | omega) | (apply h3 <;> first | assumption | omega) | (apply h4 <;> first | assumption | omega) | (apply h5 <;> first | assumption | omega) | (apply h6 <;> first | assumption | omega) | (apply h7 <;> first | assumption | omega) | (apply h8 <;> first | assumption | omega) | (apply h9 <;> first | assumption | omega) | (apply h10 <;> first | assumption | omega) | (apply h11 <;> first | assumption | omega)); rotate_left; exact rfl; exact rfl) | (apply callV; exact rfl; exact rfl; exact rfl; (intro _; first | (apply haw <;> first | assumption | omega) | (apply hf <;> first | assumption | omega) | (apply h1 <;> first | assumption | omega) | (apply h2 <;> first | assumption | omega) | (apply h3 <;> first | assumption | omega) | (apply h4 <;> first | assumption | omega) | (apply h5 <;> first | assumption | omega) | (apply h6 <;> first | assumption | omega) | (apply h7 <;> first | assumption | omega) | (apply h8 <;> first | assumption | omega) | (apply h9 <;> first | assumption | omega) | (apply h10 <;> first | assumption | omega) | (apply h11 <;> first | assumption | omega)); rotate_left; exact rfl; exact rfl) | (intros; omega) | (intros; simp only [List.length_map]; omega)))
  by_cases db : d = b
  · subst db
    generalize holdsP s o a r = A at *
    generalize holdsP s o d r = B at *
    generalize holdsP s l d r = C at *
    clear hoth
    refine pf_of tt_ok Try.func6 (by kernel_rfl) rfl rfl rfl rfl (fun st => ?_)
    (try (apply wO pk; exact rfl)); (repeat' (first | ((exfalso; omega)) | exact All.nil | refine All.cons ?_ ?_ | (apply wC pk; exact rfl; exact rfl) | (apply wE pk; exact rfl; exact rfl) | (apply wX pk; exact rfl) | (apply wN pk; exact rfl) | (apply wD pk [] []; kernel_rfl; exact rfl; exact rfl) | exact Imp.one | exact Imp.same | refine Imp.left ?_ | exact ImpX.one | exact ImpX.same | exact ImpX.mk | refine ImpX.up ?_ | refine ImpX.old ?_ | (apply pwp_condC; simp only [cond_true, cond_false]) | (refine pwp_cond rfl (fun h => ?_) (fun h => ?_) <;> (try simp at h) <;> (first | done | (exfalso; omega) | skip)) | (refine pwp_ret ?_; refine ⟨_, _, _, rfl, Wk.refl _, StSub.refl _, ?_, rfl⟩; (first | rfl | ((first | (simp; done) | (exfalso; grind)); done) | skip)) | (apply callS; exact rfl; exact rfl; exact rfl; (intro _; first | (apply haw <;> first | assumption | omega) | (apply hf <;> first | assumption | omega) | (apply h1 <;> first | assumption | omega) | (apply h2 <;> first | assumption | omega) | (apply h3 <;> first | assumption | omega) | (apply h4 <;> first | assumption | omega) | (apply h5 <;> first | assumption | omega) | (apply h6 <;> first | assumption | omega) | (apply h7 <;> first | assumption | omega) | (apply h8 <;> first | assumption | omega) | (apply h9 <;> first | assumption | omega) | (apply h10 <;> first | assumption | omega) | (apply h11 <;> first | assumption | omega)); rotate_left; exact rfl; exact rfl) | (apply callV; exact rfl; exact rfl; exact rfl; (intro _; first | (apply haw <;> first | assumption | omega) | (apply hf <;> first | assumption | omega) | (apply h1 <;> first | assumption | omega) | (apply h2 <;> first | assumption | omega) | (apply h3 <;> first | assumption | omega) | (apply h4 <;> first | assumption | omega) | (apply h5 <;> first | assumption | omega) | (apply h6 <;> first | assumption | omega) | (apply h7 <;> first | assumption | omega) | (apply h8 <;> first | assumption | omega) | (apply h9 <;> first | assumption | omega) | (apply h10 <;> first | assumption | omega) | (apply h11 <;> first | assumption | omega)); rotate_left; exact rfl; exact rfl) | (intros; omega) | (intros; simp only [List.length_map]; omega)))
  have hoth := hoth da db
  rw [hoth] at h10
  generalize holdsP s o a r = A at *
  generalize holdsP s o b r = B at *
  generalize holdsP s l b r = C at *
  generalize holdsP s o d r = X at *
  refine pf_of tt_ok Try.func6 (by kernel_rfl) rfl rfl rfl rfl (fun st => ?_)
  (try (apply wO pk; exact rfl)); (repeat' (first | ((exfalso; omega)) | exact All.nil | refine All.cons ?_ ?_ | (apply wC pk; exact rfl; exact rfl) | (apply wE pk; exact rfl; exact rfl) | (apply wX pk; exact rfl) | (apply wN pk; exact rfl) | (apply wD pk [] []; kernel_rfl; exact rfl; exact rfl) | exact Imp.one | exact Imp.same | refine Imp.left ?_ | exact ImpX.one | exact ImpX.same | exact ImpX.mk | refine ImpX.up ?_ | refine ImpX.old ?_ | (apply pwp_condC; simp only [cond_true, cond_false]) | (refine pwp_cond rfl (fun h => ?_) (fun h => ?_) <;> (try simp at h) <;> (first | done | (exfalso; omega) | skip)) | (refine pwp_ret ?_; refine ⟨_, _, _, rfl, Wk.refl _, StSub.refl _, ?_, rfl⟩; (first | rfl | ((first | (simp; done) | (exfalso; grind)); done) | skip)) | (apply callS; exact rfl; exact rfl; exact rfl; (intro _; first | (apply haw <;> first | assumption | omega) | (apply hf <;> first | assumption | omega) | (apply h1 <;> first | assumption | omega) | (apply h2 <;> first | assumption | omega) | (apply h3 <;> first | assumption | omega) | (apply h4 <;> first | assumption | omega) | (apply h5 <;> first | assumption | omega) | (apply h6 <;> first | assumption | omega) | (apply h7 <;> first | assumption | omega) | (apply h8 <;> first | assumption | omega) | (apply h9 <;> first | assumption | omega) | (apply h10 <;> first | assumption | omega) | (apply h11 <;> first | assumption | omega)); rotate_left; exact rfl; exact rfl) | (apply callV; exact rfl; exact rfl; exact rfl; (intro _; first | (apply haw <;> first | assumption | omega) | (apply hf <;> first | assumption | omega) | (apply h1 <;> first | assumption | omega) | (apply h2 <;> first | assumption | omega) | (apply h3 <;> first | assumption | omega) | (apply h4 <;> first | assumption | omega) | (apply h5 <;> first | assumption | omega) | (apply h6 <;> first | assumption | omega) | (apply h7 <;> first | assumption | omega) | (apply h8 <;> first | assumption | omega) | (apply h9 <;> first | assumption | omega) | (apply h10 <;> first | assumption | omega) | (apply h11 <;> first | assumption | omega)); rotate_left; exact rfl; exact rfl) | (intros; omega) | (intros; simp only [List.length_map]; omega)))
end Go.Proofs.Ytbcdgocepnkpeaa
