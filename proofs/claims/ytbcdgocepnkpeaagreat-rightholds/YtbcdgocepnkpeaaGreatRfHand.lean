import Derived.Test.YtbcdgocepnkpeaaGreatRfHold
set_option linter.unusedSimpArgs false
set_option linter.unusedVariables false
namespace Go.Proofs.YtbcdgocepnkpeaaGreat
open Go Go.Abs
attribute [local irreducible] Ev PWp
set_option maxRecDepth 10000
set_option maxHeartbeats 2000000
theorem rholds_spec (s : Sc) (hs : FewS s) (o : List Ow) (ho : FewO o) (dev : Int) (r : Rt) : PF Tryz.prog 17 [.agg (scC s), .seq (o.map Ow.cells), (PV.val (Value.int .i64 (dev))), .agg r.cells] (PV.val (Value.bool (holdsP s o dev r))) := by
  have hc := rcanon_spec s hs o ho
  have ht := rright_spec s hs r
  have hb := rbudget_spec s hs o ho dev r.table r.col r.lo
  by_cases hg : ¬ (((canonP s o = true ∧ rightE s r = 0) ∧ 1 ≤ dev) ∧ dev ≤ 64)
  · have e : holdsP s o dev r = false := by
      rw [Bool.eq_false_iff]; intro q
      unfold holdsP at q
      simp only [Bool.and_eq_true, decide_eq_true_eq, deviceB] at q
      exact hg ⟨⟨⟨q.1.1.1, q.1.1.2⟩, q.1.2.1⟩, q.1.2.2⟩
    rw [e]
    generalize canonP s o = c at *
    generalize rightE s r = th at *
    by_cases hc1 : c = true
    · subst hc1
      by_cases ht0 : th = 0
      · subst ht0
        have hg2 : ¬ (1 ≤ dev ∧ dev ≤ 64) := fun q => hg ⟨⟨⟨rfl, rfl⟩, q.1⟩, q.2⟩
        refine pf_of tt_ok Tryz.func17 (by kernel_rfl) rfl rfl rfl rfl (fun st => ?_)
        (try (apply wO pk; exact rfl)); (repeat' (first | ((exfalso; omega)) | exact All.nil | refine All.cons ?_ ?_ | (apply wC pk; exact rfl; exact rfl) | (apply wE pk; exact rfl; exact rfl) | (apply wX pk; exact rfl) | (apply wN pk; exact rfl) | (apply wD pk [] []; kernel_rfl; exact rfl; exact rfl) | exact Imp.one | exact Imp.same | refine Imp.left ?_ | exact ImpX.one | exact ImpX.same | exact ImpX.mk | refine ImpX.up ?_ | refine ImpX.old ?_ | (apply pwp_condC; simp only [cond_true, cond_false]) | (refine pwp_cond rfl (fun h => ?_) (fun h => ?_) <;> (try simp at h) <;> (first | done | (exfalso; omega) | skip)) | (refine pwp_ret ?_; refine ⟨_, _, _, rfl, Wk.refl _, StSub.refl _, ?_, rfl⟩; (first | rfl | skip)) | (apply callS; exact rfl; exact rfl; exact rfl; (intro _; first | (apply hc <;> first | assumption | omega) | (apply ht <;> first | assumption | omega)); rotate_left; exact rfl; exact rfl) | (apply callV; exact rfl; exact rfl; exact rfl; (intro _; first | (apply hc <;> first | assumption | omega) | (apply ht <;> first | assumption | omega)); rotate_left; exact rfl; exact rfl) | (intros; omega) | (intros; simp only [List.length_map]; omega)))
      · refine pf_of tt_ok Tryz.func17 (by kernel_rfl) rfl rfl rfl rfl (fun st => ?_)
        (try (apply wO pk; exact rfl)); (repeat' (first | ((exfalso; omega)) | exact All.nil | refine All.cons ?_ ?_ | (apply wC pk; exact rfl; exact rfl) | (apply wE pk; exact rfl; exact rfl) | (apply wX pk; exact rfl) | (apply wN pk; exact rfl) | (apply wD pk [] []; kernel_rfl; exact rfl; exact rfl) | exact Imp.one | exact Imp.same | refine Imp.left ?_ | exact ImpX.one | exact ImpX.same | exact ImpX.mk | refine ImpX.up ?_ | refine ImpX.old ?_ | (apply pwp_condC; simp only [cond_true, cond_false]) | (refine pwp_cond rfl (fun h => ?_) (fun h => ?_) <;> (try simp at h) <;> (first | done | (exfalso; omega) | skip)) | (refine pwp_ret ?_; refine ⟨_, _, _, rfl, Wk.refl _, StSub.refl _, ?_, rfl⟩; (first | rfl | skip)) | (apply callS; exact rfl; exact rfl; exact rfl; (intro _; first | (apply hc <;> first | assumption | omega) | (apply ht <;> first | assumption | omega)); rotate_left; exact rfl; exact rfl) | (apply callV; exact rfl; exact rfl; exact rfl; (intro _; first | (apply hc <;> first | assumption | omega) | (apply ht <;> first | assumption | omega)); rotate_left; exact rfl; exact rfl) | (intros; omega) | (intros; simp only [List.length_map]; omega)))
    · have hc1 : c = false := by simpa using hc1
      subst hc1
      refine pf_of tt_ok Tryz.func17 (by kernel_rfl) rfl rfl rfl rfl (fun st => ?_)
      (try (apply wO pk; exact rfl)); (repeat' (first | ((exfalso; omega)) | exact All.nil | refine All.cons ?_ ?_ | (apply wC pk; exact rfl; exact rfl) | (apply wE pk; exact rfl; exact rfl) | (apply wX pk; exact rfl) | (apply wN pk; exact rfl) | (apply wD pk [] []; kernel_rfl; exact rfl; exact rfl) | exact Imp.one | exact Imp.same | refine Imp.left ?_ | exact ImpX.one | exact ImpX.same | exact ImpX.mk | refine ImpX.up ?_ | refine ImpX.old ?_ | (apply pwp_condC; simp only [cond_true, cond_false]) | (refine pwp_cond rfl (fun h => ?_) (fun h => ?_) <;> (try simp at h) <;> (first | done | (exfalso; omega) | skip)) | (refine pwp_ret ?_; refine ⟨_, _, _, rfl, Wk.refl _, StSub.refl _, ?_, rfl⟩; (first | rfl | skip)) | (apply callS; exact rfl; exact rfl; exact rfl; (intro _; first | (apply hc <;> first | assumption | omega) | (apply ht <;> first | assumption | omega)); rotate_left; exact rfl; exact rfl) | (apply callV; exact rfl; exact rfl; exact rfl; (intro _; first | (apply hc <;> first | assumption | omega) | (apply ht <;> first | assumption | omega)); rotate_left; exact rfl; exact rfl) | (intros; omega) | (intros; simp only [List.length_map]; omega)))
  replace hg := Decidable.of_not_not hg
  obtain ⟨⟨⟨g1, g2⟩, g3⟩, g4⟩ := hg
  have hn := ((canon_iff s o).1 g1).nfo
  have hd : deviceB dev = true := by simp [deviceB]; omega
  rw [g1] at hc
  rw [g2] at ht
  by_cases h3 : r.kind = 3
  · have e : holdsP s o dev r = decide (budgetP s o dev r.table r.col r.lo ≥ r.amt) := by unfold holdsP; simp [g1, g2, hd, h3]
    rw [e]
    generalize budgetP s o dev r.table r.col r.lo = bu at *
    refine pf_of tt_ok Tryz.func17 (by kernel_rfl) rfl rfl rfl rfl (fun st => ?_)
    (try (apply wO pk; exact rfl)); (repeat' (first | ((exfalso; omega)) | exact All.nil | refine All.cons ?_ ?_ | (apply wC pk; exact rfl; exact rfl) | (apply wE pk; exact rfl; exact rfl) | (apply wX pk; exact rfl) | (apply wN pk; exact rfl) | (apply wD pk [] []; kernel_rfl; exact rfl; exact rfl) | exact Imp.one | exact Imp.same | refine Imp.left ?_ | exact ImpX.one | exact ImpX.same | exact ImpX.mk | refine ImpX.up ?_ | refine ImpX.old ?_ | (apply pwp_condC; simp only [cond_true, cond_false]) | (refine pwp_cond rfl (fun h => ?_) (fun h => ?_) <;> (try simp at h) <;> (first | done | (exfalso; omega) | skip)) | (refine pwp_ret ?_; refine ⟨_, _, _, rfl, Wk.refl _, StSub.refl _, ?_, rfl⟩; (first | rfl | skip)) | (apply callS; exact rfl; exact rfl; exact rfl; (intro _; first | (apply hc <;> first | assumption | omega) | (apply ht <;> first | assumption | omega) | (apply hb <;> first | assumption | omega)); rotate_left; exact rfl; exact rfl) | (apply callV; exact rfl; exact rfl; exact rfl; (intro _; first | (apply hc <;> first | assumption | omega) | (apply ht <;> first | assumption | omega) | (apply hb <;> first | assumption | omega)); rotate_left; exact rfl; exact rfl) | (intros; omega) | (intros; simp only [List.length_map]; omega)))
  have e : holdsP s o dev r = (rtsOf o dev).any fun x => (sameB x r && decide (x.lo ≤ r.lo)) && decide (r.hi ≤ x.hi) := by
    rw [← holds_list hn dev r h3]
    unfold holdsP; simp [g1, g2, hd, h3]
  rw [e]
  have hl := list_spec o ho dev
  have hlen := rtsOf_few ho dev
  generalize rtsOf o dev = l at *
  clear hb e
  refine pf_of tt_ok Tryz.func17 (by kernel_rfl) rfl rfl rfl rfl (fun st => ?_)
  (try (apply wO pk; exact rfl)); (repeat' (first | ((exfalso; omega)) | exact All.nil | refine All.cons ?_ ?_ | (apply wC pk; exact rfl; exact rfl) | (apply wE pk; exact rfl; exact rfl) | (apply wX pk; exact rfl) | (apply wN pk; exact rfl) | (apply wD pk [] []; kernel_rfl; exact rfl; exact rfl) | exact Imp.one | exact Imp.same | refine Imp.left ?_ | exact ImpX.one | exact ImpX.same | exact ImpX.mk | refine ImpX.up ?_ | refine ImpX.old ?_ | (apply pwp_condC; simp only [cond_true, cond_false]) | (refine pwp_cond rfl (fun h => ?_) (fun h => ?_) <;> (try simp at h) <;> (first | done | (exfalso; omega) | skip)) | (refine pwp_ret ?_; refine ⟨_, _, _, rfl, Wk.refl _, StSub.refl _, ?_, rfl⟩; (first | rfl | skip)) | (apply callS; exact rfl; exact rfl; exact rfl; (intro _; first | (apply hc <;> first | assumption | omega) | (apply ht <;> first | assumption | omega) | (apply hl <;> first | assumption | omega)); rotate_left; exact rfl; exact rfl) | (apply callV; exact rfl; exact rfl; exact rfl; (intro _; first | (apply hc <;> first | assumption | omega) | (apply ht <;> first | assumption | omega) | (apply hl <;> first | assumption | omega)); rotate_left; exact rfl; exact rfl) | (intros; omega) | (intros; simp only [List.length_map]; omega)))
  refine pwp_loop (X := { x : Nat // x ≤ l.length ∧ ((l.drop x).any fun x => (sameB x r && decide (x.lo ≤ r.lo)) && decide (r.hi ≤ x.hi)) = l.any fun x => (sameB x r && decide (x.lo ≤ r.lo)) && decide (r.hi ≤ x.hi) }) (fun i => ((((St.nil 88 st).var 7 27 (r.cells)).pv 12 (.seq (l.map Rt.cells))).pv 13 ((PV.val (Value.int .i64 ((i.1 : Nat))))))) (fun i => l.length - i.1) ⟨0, by omega, rfl⟩ ?_ (fun i => ?_)
  · (first | exact Sub.nil _ _ _ (StSub.refl _) rfl | ((repeat (first | refine Sub.pv ?_ rfl | refine Sub.var ?_ rfl rfl)); (first | exact Sub.nil _ _ _ (StSub.refl _) rfl | exact Sub.nil _ _ _ (stsub_swap (by assumption)) rfl | exact Sub.nil _ _ _ (stsub_eq (by first | rfl | exact upd_eta (by assumption) | ((simp only [St.pv, St.put, St.sst, St.setv, St.nil, St.var, upd_upd]); first | done | rfl))) rfl | (refine Sub.nil _ _ _ (stsub_eq ?_) rfl; (simp only [St.pv, St.put, St.sst, St.setv, St.nil, St.var, upd_upd]); (rw [upd4 (by assumption)]); first | done | rfl))))
  obtain ⟨i, hi, hI⟩ := i
  dsimp only
  generalize (l.any fun x => (sameB x r && decide (x.lo ≤ r.lo)) && decide (r.hi ≤ x.hi)) = res at *
  by_cases hend : l.length ≤ i
  · rw [List.drop_eq_nil_of_le hend] at hI
    have hI : res = false := by rw [← hI]; rfl
    (try (apply wO pk; exact rfl)); (repeat' (first | exact All.nil | refine All.cons ?_ ?_ | (apply wC pk; exact rfl; exact rfl) | (apply wE pk; exact rfl; exact rfl) | (apply wX pk; exact rfl) | (apply wN pk; exact rfl) | (apply wD pk [] []; kernel_rfl; exact rfl; exact rfl) | exact Imp.one | exact Imp.same | refine Imp.left ?_ | exact ImpX.one | exact ImpX.same | exact ImpX.mk | refine ImpX.up ?_ | refine ImpX.old ?_ | (apply pwp_condC; simp only [cond_true, cond_false]) | (refine pwp_cond rfl (fun h => ?_) (fun h => ?_) <;> (try simp at h) <;> (first | done | (exfalso; omega) | skip)) | (refine pwp_ret ?_; refine ⟨_, _, _, rfl, Wk.refl _, StSub.refl _, ?_, rfl⟩; (first | rfl | ((rw [hI]); done) | skip)) | (intros; omega) | (intros; simp only [List.length_map]; omega)))
  have hlt : i < l.length := by omega
  rw [List.drop_eq_getElem_cons hlt, List.any_cons] at hI
  have hs := same_spec l[i] r
  generalize sameB l[i] r = sm at *
  have hF : (sm = true ∧ l[i].lo ≤ r.lo) ∧ r.hi ≤ l[i].hi → res = true := fun h => by
    rw [← hI, h.1.1, decide_eq_true h.1.2, decide_eq_true h.2]; rfl
  have hS : (sm = true → l[i].lo ≤ r.lo → l[i].hi < r.hi) → ((l.drop (i + 1)).any fun x => (sameB x r && decide (x.lo ≤ r.lo)) && decide (r.hi ≤ x.hi)) = res := fun h => by
    rw [← hI]
    have : ((sm && decide (l[i].lo ≤ r.lo)) && decide (r.hi ≤ l[i].hi)) = false := by
      rw [Bool.eq_false_iff]; intro q
      simp only [Bool.and_eq_true, decide_eq_true_eq] at q
      have := h q.1.1 q.1.2; omega
    rw [this, Bool.false_or]
  (try (apply wO pk; exact rfl)); (repeat' (first | exact All.nil | refine All.cons ?_ ?_ | (apply wC pk; exact rfl; exact rfl) | (apply wE pk; exact rfl; exact rfl) | (apply wX pk; exact rfl) | (apply wN pk; exact rfl) | (apply wD pk [] []; kernel_rfl; exact rfl; exact rfl) | exact Imp.one | exact Imp.same | refine Imp.left ?_ | exact ImpX.one | exact ImpX.same | exact ImpX.mk | refine ImpX.up ?_ | refine ImpX.old ?_ | (apply pwp_condC; simp only [cond_true, cond_false]) | (refine pwp_cond rfl (fun h => ?_) (fun h => ?_) <;> (try simp at h) <;> (first | done | (exfalso; omega) | skip)) | (refine pwp_ret ?_; refine ⟨_, _, _, rfl, Wk.refl _, StSub.refl _, ?_, rfl⟩; (first | rfl | ((rw [hF (by assumption)]); done) | skip)) | (apply callS; exact rfl; exact rfl; exact rfl; (intro _; first | (apply hs <;> first | assumption | omega)); rotate_left; exact rfl; exact rfl) | (apply callV; exact rfl; exact rfl; exact rfl; (intro _; first | (apply hs <;> first | assumption | omega)); rotate_left; exact rfl; exact rfl) | (apply idxS pk; exact rfl; exact rfl; exact rfl; exact rfl; exact rfl; exact rfl; rotate_left; exact rfl; (intro _; exact rfl); (intro _; apply get_map <;> omega); (intro _; exact rfl); exact rfl) | (refine ⟨⟨i + 1, by omega, hS (by assumption)⟩, ?_, by simp only; omega⟩; (first | exact Sub.nil _ _ _ (StSub.refl _) rfl | ((repeat (first | refine Sub.pv ?_ rfl | refine Sub.var ?_ rfl rfl)); (first | exact Sub.nil _ _ _ (StSub.refl _) rfl | exact Sub.nil _ _ _ (stsub_swap (by assumption)) rfl | exact Sub.nil _ _ _ (stsub_eq (by first | rfl | exact upd_eta (by assumption) | ((simp only [St.pv, St.put, St.sst, St.setv, St.nil, St.var, upd_upd]); first | done | rfl))) rfl | (refine Sub.nil _ _ _ (stsub_eq ?_) rfl; (simp only [St.pv, St.put, St.sst, St.setv, St.nil, St.var, upd_upd]); (rw [upd4 (by assumption)]); first | done | rfl))))) | (intros; omega) | (intros; simp only [List.length_map]; omega)))
theorem amb_canon {s : Sc} (hs : FewS s) {o : List Ow} (h : CanonO s o) (d : Int) : AmB (rtsOf o d) := fun x hx => by
  have hne : rtsOf o d ≠ [] := fun e => by rw [e] at hx; cases hx
  obtain ⟨w, hw, _, e⟩ := rtsOf_some hne
  rw [e] at hx
  have := (h.own w hw).rts x hx
  by_cases h3 : x.kind = 3
  · have ha := amL_of (h.nfo.get d) (r := x) (by rw [e]; exact hx) h3
    have hb := amtOf_ok hs h d (keyA x)
    rw [amt_open h.nfo, ha] at hb
    omega
  · have := (this.span h3).2.2.2; omega
theorem putA_len1 : ∀ (l : List Rt) (r : Rt), (putA r true l).length ≤ l.length
  | [], r => by simp [putA]
  | x :: l, r => by
    rw [putA]
    split
    · have := putA_len1 l { r with amt := r.amt + x.amt }; simp only [List.length_cons]; omega
    split
    · have := putA_len1 l { r with lo := min r.lo x.lo, hi := max r.hi x.hi }; simp only [List.length_cons]; omega
    split
    · rename_i h; simp at h
    · have := putA_len1 l r; simp only [List.length_cons]; omega
theorem putA_len : ∀ (l : List Rt) (r : Rt) (done : Bool), (putA r done l).length ≤ l.length + 1
  | [], r, done => by rw [putA]; split <;> simp
  | x :: l, r, done => by
    rw [putA]
    split
    · have := putA_len l { r with amt := r.amt + x.amt } done; simp only [List.length_cons]; omega
    split
    · have := putA_len l { r with lo := min r.lo x.lo, hi := max r.hi x.hi } done; simp only [List.length_cons]; omega
    split
    · have := putA_len1 l r; simp only [List.length_cons]; omega
    · have := putA_len l r done; simp only [List.length_cons]; omega
theorem putP_len (l : List Rt) (r : Rt) : (putP l r).length ≤ l.length + 1 := putA_len l r false
theorem cutP_len (r : Rt) : ∀ l : List Rt, (cutP l r).length ≤ 2 * l.length
  | [] => by simp [cutP]
  | x :: l => by
    have ih := cutP_len r l
    have e : cutP (x :: l) r = cutX r x ++ cutP l r := by unfold cutP; rw [List.flatMap_cons]
    have : (cutX r x).length ≤ 2 := by
      unfold cutX
      split
      · simp
      · split <;> split <;> simp
    rw [e, List.length_append, List.length_cons]; omega
theorem withP_len (o : List Ow) (dev : Int) (l : List Rt) : (withP o dev l).length ≤ o.length + 1 := by
  have h1 : ∀ o : List Ow, (withA dev l true o).length ≤ o.length := fun o => by rw [withA_done]; exact List.length_filter_le _ _
  have h2 : ∀ (o : List Ow) (done : Bool), (withA dev l done o).length ≤ o.length + 1 := fun o => by
    induction o with
    | nil => intro done; rw [withA]; split <;> simp
    | cons w o ih =>
      intro done
      rw [withA, List.length_append, List.length_append, List.length_cons]
      have h3 : (if w.dev ≠ dev then [w] else []).length ≤ 1 := by split <;> simp
      by_cases c : w.dev ≥ dev ∧ done = false
      · rw [if_pos c, show (done || decide (w.dev ≥ dev)) = true from by simp [c.1]]
        have := h1 o
        simp only [List.length_singleton]; omega
      · rw [if_neg c]
        have := ih (done || decide (w.dev ≥ dev))
        simp only [List.length_nil]; omega
  exact h2 o _
def FewN (n : Nat) (o : List Ow) : Prop := o.length ≤ n ∧ ∀ w ∈ o, w.rights.length ≤ n
theorem FewN.o {n : Nat} {o : List Ow} (h : FewN n o) (hn : n ≤ 1000) : FewO o := ⟨by have := h.1; omega, fun w hw => by have := h.2 w hw; omega⟩
theorem FewN.rts {n : Nat} {o : List Ow} (h : FewN n o) (d : Int) : (rtsOf o d).length ≤ n := by
  by_cases hq : rtsOf o d = []
  · rw [hq]; simp
  · obtain ⟨w, hw, _, e⟩ := rtsOf_some hq
    rw [e]; exact h.2 w hw
theorem FewN.with {n m : Nat} {o : List Ow} (h : FewN n o) (dev : Int) {l : List Rt} (hl : l.length ≤ m) (hm : n + 1 ≤ m) : FewN m (withP o dev l) := by
  refine ⟨by have := withP_len o dev l; have := h.1; omega, fun w hw => ?_⟩
  unfold withP at hw
  rcases withA_mem dev l o _ w hw with rfl | ⟨q, _⟩
  · exact hl
  · have := h.2 w q; omega
theorem sum_bound {s : Sc} {r : Rt} (h : rightE s r = 0) : 0 ≤ r.amt ∧ r.amt ≤ 1099511627776 := by
  obtain ⟨_, h⟩ := rightE_ok.1 h
  by_cases h3 : r.kind = 3
  · have := (mayR_sum h3).1 h; omega
  · have := (mayR_span h3).1 h; omega
theorem rhand_spec (s : Sc) (hs : FewS s) (o : List Ow) (hf : FewN 20 o) (a b : Int) (r : Rt) : PF Tryz.prog 23 [.agg (scC s), .seq (o.map Ow.cells), (PV.val (Value.int .i64 (a))), (PV.val (Value.int .i64 (b))), .agg r.cells] (.tup [.seq ((handP s o a b r).1.map Ow.cells), (PV.val (Value.int .i64 ((handP s o a b r).2)))]) := by
  have ho := hf.o (by omega)
  have hc := rcanon_spec s hs o ho
  have ht := rright_spec s hs r
  have hh := rholds_spec s hs o ho a r
  unfold handP
  by_cases hg : ¬ ((((canonP s o = true ∧ 1 ≤ a) ∧ a ≤ 64) ∧ (1 ≤ b ∧ b ≤ 64)) ∧ a ≠ b)
  · rw [if_pos (fun q => hg ⟨⟨⟨⟨q.1.1.1, by have := q.1.1.2; simp [deviceB] at this; omega⟩, by have := q.1.1.2; simp [deviceB] at this; omega⟩, by have := q.1.2; simpa [deviceB] using this⟩, q.2⟩)]
    generalize canonP s o = c at *
    by_cases hc1 : c = true
    · subst hc1
      have hg2 : ¬ (((1 ≤ a ∧ a ≤ 64) ∧ (1 ≤ b ∧ b ≤ 64)) ∧ a ≠ b) := fun q => hg ⟨⟨⟨⟨rfl, q.1.1.1⟩, q.1.1.2⟩, q.1.2⟩, q.2⟩
      refine pf_of tt_ok Tryz.func23 (by kernel_rfl) rfl rfl rfl rfl (fun st => ?_)
      (try (apply wO pk; exact rfl)); (repeat' (first | ((exfalso; omega)) | ((refine pwp_ret ?_; exact ⟨_, _, st, rfl, Wk.soft _, StSub.refl _, rfl, rfl⟩)) | exact All.nil | refine All.cons ?_ ?_ | (apply wC pk; exact rfl; exact rfl) | (apply wE pk; exact rfl; exact rfl) | (apply wX pk; exact rfl) | (apply wN pk; exact rfl) | (apply wD pk [] []; kernel_rfl; exact rfl; exact rfl) | exact Imp.one | exact Imp.same | refine Imp.left ?_ | exact ImpX.one | exact ImpX.same | exact ImpX.mk | refine ImpX.up ?_ | refine ImpX.old ?_ | (apply pwp_condC; simp only [cond_true, cond_false]) | (refine pwp_cond rfl (fun h => ?_) (fun h => ?_) <;> (try simp at h) <;> (first | done | (exfalso; omega) | skip)) | (refine pwp_ret ?_; refine ⟨_, _, _, rfl, Wk.refl _, StSub.refl _, ?_, rfl⟩; (first | rfl | skip)) | (apply callS; exact rfl; exact rfl; exact rfl; (intro _; first | (apply hc <;> first | assumption | omega)); rotate_left; exact rfl; exact rfl) | (apply callV; exact rfl; exact rfl; exact rfl; (intro _; first | (apply hc <;> first | assumption | omega)); rotate_left; exact rfl; exact rfl) | (intros; omega) | (intros; simp only [List.length_map]; omega)))
    · have hc1 : c = false := by simpa using hc1
      subst hc1
      refine pf_of tt_ok Tryz.func23 (by kernel_rfl) rfl rfl rfl rfl (fun st => ?_)
      (try (apply wO pk; exact rfl)); (repeat' (first | ((exfalso; omega)) | ((refine pwp_ret ?_; exact ⟨_, _, st, rfl, Wk.soft _, StSub.refl _, rfl, rfl⟩)) | exact All.nil | refine All.cons ?_ ?_ | (apply wC pk; exact rfl; exact rfl) | (apply wE pk; exact rfl; exact rfl) | (apply wX pk; exact rfl) | (apply wN pk; exact rfl) | (apply wD pk [] []; kernel_rfl; exact rfl; exact rfl) | exact Imp.one | exact Imp.same | refine Imp.left ?_ | exact ImpX.one | exact ImpX.same | exact ImpX.mk | refine ImpX.up ?_ | refine ImpX.old ?_ | (apply pwp_condC; simp only [cond_true, cond_false]) | (refine pwp_cond rfl (fun h => ?_) (fun h => ?_) <;> (try simp at h) <;> (first | done | (exfalso; omega) | skip)) | (refine pwp_ret ?_; refine ⟨_, _, _, rfl, Wk.refl _, StSub.refl _, ?_, rfl⟩; (first | rfl | skip)) | (apply callS; exact rfl; exact rfl; exact rfl; (intro _; first | (apply hc <;> first | assumption | omega)); rotate_left; exact rfl; exact rfl) | (apply callV; exact rfl; exact rfl; exact rfl; (intro _; first | (apply hc <;> first | assumption | omega)); rotate_left; exact rfl; exact rfl) | (intros; omega) | (intros; simp only [List.length_map]; omega)))
  replace hg := Decidable.of_not_not hg
  obtain ⟨⟨⟨⟨g1, g2⟩, g3⟩, g4, g5⟩, g6⟩ := hg
  have hCO := (canon_iff s o).1 g1
  have hn := hCO.nfo
  rw [if_neg (fun q => q ⟨⟨⟨g1, by simp [deviceB]; omega⟩, by simp [deviceB]; omega⟩, g6⟩)]
  rw [g1] at hc
  by_cases hr : rightE s r ≠ 0
  · rw [if_pos hr]
    generalize rightE s r = re at *
    refine pf_of tt_ok Tryz.func23 (by kernel_rfl) rfl rfl rfl rfl (fun st => ?_)
    (try (apply wO pk; exact rfl)); (repeat' (first | ((exfalso; omega)) | ((refine pwp_ret ?_; exact ⟨_, _, st, rfl, Wk.soft _, StSub.refl _, rfl, rfl⟩)) | exact All.nil | refine All.cons ?_ ?_ | (apply wC pk; exact rfl; exact rfl) | (apply wE pk; exact rfl; exact rfl) | (apply wX pk; exact rfl) | (apply wN pk; exact rfl) | (apply wD pk [] []; kernel_rfl; exact rfl; exact rfl) | exact Imp.one | exact Imp.same | refine Imp.left ?_ | exact ImpX.one | exact ImpX.same | exact ImpX.mk | refine ImpX.up ?_ | refine ImpX.old ?_ | (apply pwp_condC; simp only [cond_true, cond_false]) | (refine pwp_cond rfl (fun h => ?_) (fun h => ?_) <;> (try simp at h) <;> (first | done | (exfalso; omega) | skip)) | (refine pwp_ret ?_; refine ⟨_, _, _, rfl, Wk.refl _, StSub.refl _, ?_, rfl⟩; (first | rfl | skip)) | (apply callS; exact rfl; exact rfl; exact rfl; (intro _; first | (apply hc <;> first | assumption | omega) | (apply ht <;> first | assumption | omega)); rotate_left; exact rfl; exact rfl) | (apply callV; exact rfl; exact rfl; exact rfl; (intro _; first | (apply hc <;> first | assumption | omega) | (apply ht <;> first | assumption | omega)); rotate_left; exact rfl; exact rfl) | (intros; omega) | (intros; simp only [List.length_map]; omega)))
  rw [if_neg hr]
  have hr : rightE s r = 0 := Decidable.of_not_not hr
  rw [hr] at ht
  cases hho : holdsP s o a r with
  | false =>
    rw [if_pos rfl]
    rw [hho] at hh
    refine pf_of tt_ok Tryz.func23 (by kernel_rfl) rfl rfl rfl rfl (fun st => ?_)
    (try (apply wO pk; exact rfl)); (repeat' (first | ((exfalso; omega)) | ((refine pwp_ret ?_; exact ⟨_, _, st, rfl, Wk.soft _, StSub.refl _, rfl, rfl⟩)) | exact All.nil | refine All.cons ?_ ?_ | (apply wC pk; exact rfl; exact rfl) | (apply wE pk; exact rfl; exact rfl) | (apply wX pk; exact rfl) | (apply wN pk; exact rfl) | (apply wD pk [] []; kernel_rfl; exact rfl; exact rfl) | exact Imp.one | exact Imp.same | refine Imp.left ?_ | exact ImpX.one | exact ImpX.same | exact ImpX.mk | refine ImpX.up ?_ | refine ImpX.old ?_ | (apply pwp_condC; simp only [cond_true, cond_false]) | (refine pwp_cond rfl (fun h => ?_) (fun h => ?_) <;> (try simp at h) <;> (first | done | (exfalso; omega) | skip)) | (refine pwp_ret ?_; refine ⟨_, _, _, rfl, Wk.refl _, StSub.refl _, ?_, rfl⟩; (first | rfl | skip)) | (apply callS; exact rfl; exact rfl; exact rfl; (intro _; first | (apply hc <;> first | assumption | omega) | (apply ht <;> first | assumption | omega) | (apply hh <;> first | assumption | omega)); rotate_left; exact rfl; exact rfl) | (apply callV; exact rfl; exact rfl; exact rfl; (intro _; first | (apply hc <;> first | assumption | omega) | (apply ht <;> first | assumption | omega) | (apply hh <;> first | assumption | omega)); rotate_left; exact rfl; exact rfl) | (intros; omega) | (intros; simp only [List.length_map]; omega)))
  | true =>
  rw [if_neg (by simp)]
  rw [hho] at hh
  have hrg := rg_of hr
  have hsb := sum_bound hr
  have hla := list_spec o ho a
  have hlena := hf.rts a
  by_cases h3 : r.kind = 3
  · rw [if_pos h3]
    have ham := amt_spec o ho b r
    rw [amG_amL h3] at ham
    have hbd := amtOf_ok hs hCO b (keyA r)
    rw [amt_open hn] at hbd
    by_cases hov : amL (rtsOf o b) (keyA r) + r.amt > 1099511627776
    · rw [if_pos hov]
      generalize amL (rtsOf o b) (keyA r) = am at *
      refine pf_of tt_ok Tryz.func23 (by kernel_rfl) rfl rfl rfl rfl (fun st => ?_)
      (try (apply wO pk; exact rfl)); (repeat' (first | ((exfalso; omega)) | ((refine pwp_ret ?_; exact ⟨_, _, st, rfl, Wk.soft _, StSub.refl _, rfl, rfl⟩)) | exact All.nil | refine All.cons ?_ ?_ | (apply wC pk; exact rfl; exact rfl) | (apply wE pk; exact rfl; exact rfl) | (apply wX pk; exact rfl) | (apply wN pk; exact rfl) | (apply wD pk [] []; kernel_rfl; exact rfl; exact rfl) | exact Imp.one | exact Imp.same | refine Imp.left ?_ | exact ImpX.one | exact ImpX.same | exact ImpX.mk | refine ImpX.up ?_ | refine ImpX.old ?_ | (apply pwp_condC; simp only [cond_true, cond_false]) | (refine pwp_cond rfl (fun h => ?_) (fun h => ?_) <;> (try simp at h) <;> (first | done | (exfalso; omega) | skip)) | (refine pwp_ret ?_; refine ⟨_, _, _, rfl, Wk.refl _, StSub.refl _, ?_, rfl⟩; (first | rfl | skip)) | (apply callS; exact rfl; exact rfl; exact rfl; (intro _; first | (apply hc <;> first | assumption | omega) | (apply ht <;> first | assumption | omega) | (apply hh <;> first | assumption | omega) | (apply ham <;> first | assumption | omega)); rotate_left; exact rfl; exact rfl) | (apply callV; exact rfl; exact rfl; exact rfl; (intro _; first | (apply hc <;> first | assumption | omega) | (apply ht <;> first | assumption | omega) | (apply hh <;> first | assumption | omega) | (apply ham <;> first | assumption | omega)); rotate_left; exact rfl; exact rfl) | (intros; omega) | (intros; simp only [List.length_map]; omega)))
    rw [if_neg hov]
    have hp1 := put_spec (rtsOf o a) (negA r) (by omega) (amb_canon hs hCO a) (by show _ ≤ 0 - r.amt ∧ 0 - r.amt ≤ _; omega)
    have hput1 := put_sem (hn.get a) (r := negA r) ⟨fun q => absurd h3 q, fun _ => hrg.sum h3⟩
    have hpl1 := putP_len (rtsOf o a) (negA r)
    have hw1 := with_spec o a (putP (rtsOf o a) (negA r)) (by have := hf.1; omega) (by omega)
    have hwf1 : FewN 30 (withP o a (putP (rtsOf o a) (negA r))) := hf.with a (by omega) (by omega)
    have hws1 := with_sem hn a hput1.nf
    have hlb := list_spec _ (hwf1.o (by omega)) b
    have hlbl := hwf1.rts b
    have he1 : rtsOf (withP o a (putP (rtsOf o a) (negA r))) b = rtsOf o b := by rw [hws1.rts, if_neg (fun q => g6 q.symm)]
    have hp2 := put_spec (rtsOf (withP o a (putP (rtsOf o a) (negA r))) b) r (by omega) (by rw [he1]; exact amb_canon hs hCO b) (by omega)
    have hpl2 := putP_len (rtsOf (withP o a (putP (rtsOf o a) (negA r))) b) r
    have hw2 := with_spec (withP o a (putP (rtsOf o a) (negA r))) b (putP (rtsOf (withP o a (putP (rtsOf o a) (negA r))) b) r) (by have := hwf1.1; omega) (by omega)
    unfold handO
    generalize putP (rtsOf (withP o a (putP (rtsOf o a) (negA r))) b) r = l4 at *
    generalize rtsOf (withP o a (putP (rtsOf o a) (negA r))) b = l3 at *
    generalize withP o a (putP (rtsOf o a) (negA r)) = o2 at *
    generalize putP (rtsOf o a) (negA r) = l2 at *
    generalize rtsOf o a = l1 at *
    generalize withP o2 b l4 = o3 at *
    clear hpl1 hpl2 hput1 hws1 hwf1 he1
    refine pf_of tt_ok Tryz.func23 (by kernel_rfl) rfl rfl rfl rfl (fun st => ?_)
    (try (apply wO pk; exact rfl)); (repeat' (first | ((exfalso; omega)) | ((refine pwp_ret ?_; exact ⟨_, _, st, rfl, Wk.soft _, StSub.refl _, rfl, rfl⟩)) | exact All.nil | refine All.cons ?_ ?_ | (apply wC pk; exact rfl; exact rfl) | (apply wE pk; exact rfl; exact rfl) | (apply wX pk; exact rfl) | (apply wN pk; exact rfl) | (apply wD pk [] []; kernel_rfl; exact rfl; exact rfl) | exact Imp.one | exact Imp.same | refine Imp.left ?_ | exact ImpX.one | exact ImpX.same | exact ImpX.mk | refine ImpX.up ?_ | refine ImpX.old ?_ | (apply pwp_condC; simp only [cond_true, cond_false]) | (refine pwp_cond rfl (fun h => ?_) (fun h => ?_) <;> (try simp at h) <;> (first | done | (exfalso; omega) | skip)) | (refine pwp_ret ?_; refine ⟨_, _, _, rfl, Wk.refl _, StSub.refl _, ?_, rfl⟩; (first | rfl | skip)) | (apply callS; exact rfl; exact rfl; exact rfl; (intro _; first | (apply hc <;> first | assumption | omega) | (apply ht <;> first | assumption | omega) | (apply hh <;> first | assumption | omega) | (apply ham <;> first | assumption | omega) | (apply hla <;> first | assumption | omega) | (apply hp1 <;> first | assumption | omega) | (apply hw1 <;> first | assumption | omega) | (apply hlb <;> first | assumption | omega) | (apply hp2 <;> first | assumption | omega) | (apply hw2 <;> first | assumption | omega)); rotate_left; exact rfl; exact rfl) | (apply callV; exact rfl; exact rfl; exact rfl; (intro _; first | (apply hc <;> first | assumption | omega) | (apply ht <;> first | assumption | omega) | (apply hh <;> first | assumption | omega) | (apply ham <;> first | assumption | omega) | (apply hla <;> first | assumption | omega) | (apply hp1 <;> first | assumption | omega) | (apply hw1 <;> first | assumption | omega) | (apply hlb <;> first | assumption | omega) | (apply hp2 <;> first | assumption | omega) | (apply hw2 <;> first | assumption | omega)); rotate_left; exact rfl; exact rfl) | (intros; omega) | (intros; simp only [List.length_map]; omega)))
  · rw [if_neg h3]
    have hp1 := cut_spec (rtsOf o a) r (by omega)
    have hput1 := cut_sem hrg h3 (hn.get a)
    have hpl1 := cutP_len r (rtsOf o a)
    have hw1 := with_spec o a (cutP (rtsOf o a) r) (by have := hf.1; omega) (by omega)
    have hwf1 : FewN 50 (withP o a (cutP (rtsOf o a) r)) := hf.with a (by omega) (by omega)
    have hws1 := with_sem hn a hput1.nf
    have hlb := list_spec _ (hwf1.o (by omega)) b
    have hlbl := hwf1.rts b
    have he1 : rtsOf (withP o a (cutP (rtsOf o a) r)) b = rtsOf o b := by rw [hws1.rts, if_neg (fun q => g6 q.symm)]
    have hp2 := put_spec (rtsOf (withP o a (cutP (rtsOf o a) r)) b) r (by omega) (by rw [he1]; exact amb_canon hs hCO b) (by omega)
    have hpl2 := putP_len (rtsOf (withP o a (cutP (rtsOf o a) r)) b) r
    have hw2 := with_spec (withP o a (cutP (rtsOf o a) r)) b (putP (rtsOf (withP o a (cutP (rtsOf o a) r)) b) r) (by have := hwf1.1; omega) (by omega)
    unfold handO
    generalize putP (rtsOf (withP o a (cutP (rtsOf o a) r)) b) r = l4 at *
    generalize rtsOf (withP o a (cutP (rtsOf o a) r)) b = l3 at *
    generalize withP o a (cutP (rtsOf o a) r) = o2 at *
    generalize cutP (rtsOf o a) r = l2 at *
    generalize rtsOf o a = l1 at *
    generalize withP o2 b l4 = o3 at *
    clear hpl1 hpl2 hput1 hws1 hwf1 he1
    refine pf_of tt_ok Tryz.func23 (by kernel_rfl) rfl rfl rfl rfl (fun st => ?_)
    (try (apply wO pk; exact rfl)); (repeat' (first | ((exfalso; omega)) | ((refine pwp_ret ?_; exact ⟨_, _, st, rfl, Wk.soft _, StSub.refl _, rfl, rfl⟩)) | exact All.nil | refine All.cons ?_ ?_ | (apply wC pk; exact rfl; exact rfl) | (apply wE pk; exact rfl; exact rfl) | (apply wX pk; exact rfl) | (apply wN pk; exact rfl) | (apply wD pk [] []; kernel_rfl; exact rfl; exact rfl) | exact Imp.one | exact Imp.same | refine Imp.left ?_ | exact ImpX.one | exact ImpX.same | exact ImpX.mk | refine ImpX.up ?_ | refine ImpX.old ?_ | (apply pwp_condC; simp only [cond_true, cond_false]) | (refine pwp_cond rfl (fun h => ?_) (fun h => ?_) <;> (try simp at h) <;> (first | done | (exfalso; omega) | skip)) | (refine pwp_ret ?_; refine ⟨_, _, _, rfl, Wk.refl _, StSub.refl _, ?_, rfl⟩; (first | rfl | skip)) | (apply callS; exact rfl; exact rfl; exact rfl; (intro _; first | (apply hc <;> first | assumption | omega) | (apply ht <;> first | assumption | omega) | (apply hh <;> first | assumption | omega) | (apply hla <;> first | assumption | omega) | (apply hp1 <;> first | assumption | omega) | (apply hw1 <;> first | assumption | omega) | (apply hlb <;> first | assumption | omega) | (apply hp2 <;> first | assumption | omega) | (apply hw2 <;> first | assumption | omega)); rotate_left; exact rfl; exact rfl) | (apply callV; exact rfl; exact rfl; exact rfl; (intro _; first | (apply hc <;> first | assumption | omega) | (apply ht <;> first | assumption | omega) | (apply hh <;> first | assumption | omega) | (apply hla <;> first | assumption | omega) | (apply hp1 <;> first | assumption | omega) | (apply hw1 <;> first | assumption | omega) | (apply hlb <;> first | assumption | omega) | (apply hp2 <;> first | assumption | omega) | (apply hw2 <;> first | assumption | omega)); rotate_left; exact rfl; exact rfl) | (intros; omega) | (intros; simp only [List.length_map]; omega)))
end Go.Proofs.YtbcdgocepnkpeaaGreat
