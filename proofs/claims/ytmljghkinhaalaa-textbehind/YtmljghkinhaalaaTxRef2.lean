import Derived.Test.YtmljghkinhaalaaTxRef
set_option linter.unusedSimpArgs false
set_option linter.unusedVariables false
namespace Go.Proofs.Ytmljghkinhaalaa
open Go Go.Abs
attribute [local irreducible] Ev PWp
set_option maxRecDepth 10000
set_option maxHeartbeats 4000000
/-- What the reference asks of each part. -/
def okAt (l : List Pt) (i : Nat) (h : i < l.length) : Prop :=
  formedP l[i] = true ∧ atP l (nameOf l[i]) = i ∧ (∀ k (hk : k < i), (l[k]'(by omega)).dot = l[i].dot → (l[k]'(by omega)).time = l[i].time) ∧
    (l[i].after = Dt.zero ∨ ∃ u, ∃ hu : u < l.length, l.findIdx? (fun p => decide (nameOf p = parentOf l[i])) = some u ∧ aheadP l[u] l[i] = true)
theorem atP_self {l : List Pt} (hn : (l.map nameOf).Nodup) {i : Nat} (h : i < l.length) : atP l (nameOf l[i]) = i := by
  have : l.findIdx? (fun p => decide (nameOf p = nameOf l[i])) = some i := idx_at h (by simp) fun j hj h2 => by
    rw [decide_eq_false_iff_not]
    intro e
    have := (List.pairwise_iff_getElem.1 hn) j i (by simpa using h2) (by simpa using h) hj
    simp only [List.getElem_map] at this
    exact this e
  rw [atP, this]
theorem root_iff {p : Pt} (h : formedP p = true) : p.after = Dt.zero ↔ parentOf p = Nm.zero := by
  have h1 : parentOf p = Nm.zero ∨ mayN (parentOf p) = true := by
    simp only [formedP, Bool.and_eq_true, Bool.or_eq_true, decide_eq_true_eq] at h; exact h.2
  constructor
  · intro e
    rcases h1 with h1 | h1
    · exact h1
    · simp only [mayN, withinB, Bool.and_eq_true, decide_eq_true_eq] at h1
      have := h1.1.1.1
      rw [show (parentOf p).dot = p.after from rfl, e] at this
      have h2 : (1 : Int) ≤ 0 := this
      omega
  · intro e; exact congrArg Nm.dot e
theorem okAt_whole {l : List Pt} : Whole l ↔ ∀ i (h : i < l.length), okAt l i h := by
  constructor
  · intro hW i h
    refine ⟨hW.formed _ (List.getElem_mem h), atP_self hW.nodup h, fun k hk e => hW.times _ (List.getElem_mem _) _ (List.getElem_mem h) e, ?_⟩
    rcases hW.up _ (List.getElem_mem h) with e | ⟨u, hu, e, ha⟩
    · exact .inl ((root_iff (hW.formed _ (List.getElem_mem h))).2 e)
    · right
      obtain ⟨j, hj, rfl⟩ := List.getElem_of_mem hu
      refine ⟨j, hj, ?_, ha⟩
      have := atP_self hW.nodup hj
      rw [atP, e] at this
      split at this
      · rename_i j' hj'; rw [hj']; congr 1; omega
      · omega
  · intro H
    have hnd : (l.map nameOf).Nodup := by
      rw [List.Nodup, List.pairwise_iff_getElem]
      intro i j hi hj hij
      simp only [List.length_map] at hi hj
      simp only [List.getElem_map]
      intro e
      have h1 := (H j hj).2.1
      rw [atP, ← e] at h1
      split at h1
      · rename_i k hk
        have hk' : k = j := by omega
        subst hk'
        have := (List.findIdx?_eq_some_iff_getElem.1 hk).2.2 i hij
        simp at this
      · omega
    refine ⟨⟨fun p hp => ?_, hnd, fun p hp q hq e => ?_⟩, fun p hp => ?_⟩
    · obtain ⟨i, hi, rfl⟩ := List.getElem_of_mem hp; exact (H i hi).1
    · obtain ⟨i, hi, rfl⟩ := List.getElem_of_mem hp
      obtain ⟨j, hj, rfl⟩ := List.getElem_of_mem hq
      rcases Nat.lt_trichotomy i j with h | h | h
      · exact (H j hj).2.2.1 i h e
      · subst h; rfl
      · exact ((H i hi).2.2.1 j h e.symm).symm
    · obtain ⟨i, hi, rfl⟩ := List.getElem_of_mem hp
      rcases (H i hi).2.2.2 with e | ⟨u, hu, h1, h2⟩
      · exact .inl ((root_iff (H i hi).1).1 e)
      · right
        obtain ⟨hu', h3, _⟩ := List.findIdx?_eq_some_iff_getElem.1 h1
        exact ⟨l[u], List.getElem_mem hu, by simpa using h3, h2⟩
theorem whole_no {l : List Pt} {i : Nat} (h : i < l.length) (hn : ¬ okAt l i h) : wholeP l = false := by
  rw [← Bool.not_eq_true, wholeP_iff, okAt_whole]; exact fun H => hn (H i h)
theorem rwhole_spec (l : List Pt) (hl : l.length < 1000000000000) : PF Try.prog 26 [.seq (l.map Pt.cells)] (PV.val (Value.bool (wholeP l))) := by
  refine pf_of tt_ok Try.func26 (by kernel_rfl) rfl rfl rfl rfl (fun st => ?_)
  (try (apply wO pk; exact rfl)); (repeat' (first | exact All.nil | refine All.cons ?_ ?_ | (apply wC pk; exact rfl; exact rfl) | (apply wE pk; exact rfl; exact rfl) | (apply wX pk; exact rfl) | (apply wN pk; exact rfl) | (apply wD pk [] []; kernel_rfl; exact rfl; exact rfl) | exact Imp.one | exact Imp.same | refine Imp.left ?_ | exact ImpX.one | exact ImpX.same | exact ImpX.mk | refine ImpX.up ?_ | refine ImpX.old ?_ | (apply pwp_condC; simp only [cond_true, cond_false]) | (refine pwp_cond rfl (fun h => ?_) (fun h => ?_) <;> (try simp at h) <;> (first | done | (exfalso; omega) | skip)) | (refine pwp_ret ?_; refine ⟨_, _, _, rfl, Wk.refl _, StSub.refl _, ?_, rfl⟩; (first | rfl | skip)) | (intros; omega) | (intros; simp only [List.length_map]; omega)))
  refine pwp_loop (X := { x : Nat // x ≤ l.length ∧ ∀ j (h : j < x) (h2 : j < l.length), okAt l j h2 }) (fun i => (((St.nil 122 st).pv 0 (.seq (l.map Pt.cells))).pv 3 ((PV.val (Value.int .i64 ((i.1 : Nat))))))) (fun i => l.length - i.1) ⟨0, by omega, by omega⟩ ?_ (fun i => ?_)
  · (first | exact Sub.nil _ _ _ (StSub.refl _) rfl | ((repeat (first | refine Sub.pv ?_ rfl | refine Sub.var ?_ rfl rfl)); (first | exact Sub.nil _ _ _ (StSub.refl _) rfl | exact Sub.nil _ _ _ (stsub_swap (by assumption)) rfl | exact Sub.nil _ _ _ (stsub_eq (by first | rfl | exact upd_eta (by assumption) | ((simp only [St.pv, St.put, St.sst, St.setv, St.nil, St.var, upd_upd]); first | done | rfl))) rfl | (refine Sub.nil _ _ _ (stsub_eq ?_) rfl; (simp only [St.pv, St.put, St.sst, St.setv, St.nil, St.var, upd_upd]); (rw [upd4 (by assumption)]); first | done | rfl))))
  obtain ⟨i, hi, hinv⟩ := i
  dsimp only
  by_cases him : i < l.length
  · have hn := fun h => whole_no him h
    have hz : (l[i]'him).after = Dt.zero ↔ (l[i]'him).after.dev = 0 ∧ (l[i]'him).after.seq = 0 := Dt.ext_iff _ _
    have hsucc : okAt l i him → ∀ j (h : j < i + 1) (h2 : j < l.length), okAt l j h2 := fun ho j h1 h2 => by
      rcases Nat.lt_succ_iff_lt_or_eq.1 h1 with q | q
      · exact hinv j q h2
      · subst q; exact ho
    have hat := rat_spec l (l[i]'him).dot (l[i]'him).at_ hl
    have hup := rat_spec l (l[i]'him).after (l[i]'him).afterAt hl
    (try (apply wO pk; exact rfl)); (repeat' (first | exact All.nil | refine All.cons ?_ ?_ | (apply wC pk; exact rfl; exact rfl) | (apply wE pk; exact rfl; exact rfl) | (apply wX pk; exact rfl) | (apply wN pk; exact rfl) | (apply wD pk [] []; kernel_rfl; exact rfl; exact rfl) | exact Imp.one | exact Imp.same | refine Imp.left ?_ | exact ImpX.one | exact ImpX.same | exact ImpX.mk | refine ImpX.up ?_ | refine ImpX.old ?_ | (apply pwp_condC; simp only [cond_true, cond_false]) | (refine pwp_cond rfl (fun h => ?_) (fun h => ?_) <;> (try simp at h) <;> (first | done | (exfalso; omega) | skip)) | (refine pwp_ret ?_; refine ⟨_, _, _, rfl, Wk.refl _, StSub.refl _, ?_, rfl⟩; (first | rfl | ((first | (rw [hn (fun q => by have h1 := q.1; have h2 : atP l ⟨l[i].dot, l[i].at_⟩ = i := q.2.1; grind)]; done)); done) | skip)) | (apply callS; exact rfl; exact rfl; exact rfl; (intro _; first | (apply (rformed_spec (l[i]'him)) <;> first | assumption | omega) | (apply hat <;> first | assumption | omega)); rotate_left; exact rfl; exact rfl) | (apply callV; exact rfl; exact rfl; exact rfl; (intro _; first | (apply (rformed_spec (l[i]'him)) <;> first | assumption | omega) | (apply hat <;> first | assumption | omega)); rotate_left; exact rfl; exact rfl) | (apply idxS pk; exact rfl; exact rfl; exact rfl; exact rfl; exact rfl; exact rfl; rotate_left; exact rfl; (intro _; exact rfl); (intro _; apply get_map <;> omega); (intro _; exact rfl); exact rfl) | (intros; omega) | (intros; simp only [List.length_map]; omega)))
    have hf : formedP (l[i]'him) = true ∧ atP l (nameOf (l[i]'him)) = i := h
    refine pwp_loop (X := { k : Nat // k ≤ i ∧ ∀ m (hm : m < k) (hml : m < l.length), (l[m]'hml).dot = (l[i]'him).dot → (l[m]'hml).time = (l[i]'him).time }) (fun y => ((((St.nil 122 st).pv 0 (.seq (l.map Pt.cells))).pv 3 ((PV.val (Value.int .i64 ((i : Nat)))))).pv 5 ((PV.val (Value.int .i64 ((y.1 : Nat))))))) (fun y => i - y.1) ⟨0, by omega, by omega⟩ ?_ (fun y => ?_)
    · (first | exact Sub.nil _ _ _ (StSub.refl _) rfl | ((repeat (first | refine Sub.pv ?_ rfl | refine Sub.var ?_ rfl rfl)); (first | exact Sub.nil _ _ _ (StSub.refl _) rfl | exact Sub.nil _ _ _ (stsub_swap (by assumption)) rfl | exact Sub.nil _ _ _ (stsub_eq (by first | rfl | exact upd_eta (by assumption) | ((simp only [St.pv, St.put, St.sst, St.setv, St.nil, St.var, upd_upd]); first | done | rfl))) rfl | (refine Sub.nil _ _ _ (stsub_eq ?_) rfl; (simp only [St.pv, St.put, St.sst, St.setv, St.nil, St.var, upd_upd]); (rw [upd4 (by assumption)]); first | done | rfl))))
    obtain ⟨k, hk, hkinv⟩ := y
    dsimp only
    have hkl : k < l.length ∨ ¬ k < i := by omega
    by_cases hki : k < i
    · have hkl : k < l.length := by omega
      have hd := Dt.ext_iff (l[k]'hkl).dot (l[i]'him).dot
      (try (apply wO pk; exact rfl)); (repeat' (first | exact All.nil | refine All.cons ?_ ?_ | (apply wC pk; exact rfl; exact rfl) | (apply wE pk; exact rfl; exact rfl) | (apply wX pk; exact rfl) | (apply wN pk; exact rfl) | (apply wD pk [] []; kernel_rfl; exact rfl; exact rfl) | exact Imp.one | exact Imp.same | refine Imp.left ?_ | exact ImpX.one | exact ImpX.same | exact ImpX.mk | refine ImpX.up ?_ | refine ImpX.old ?_ | (apply pwp_condC; simp only [cond_true, cond_false]) | (refine pwp_cond rfl (fun h => ?_) (fun h => ?_) <;> (try simp at h) <;> (first | done | (exfalso; omega) | skip)) | (refine pwp_ret ?_; refine ⟨_, _, _, rfl, Wk.refl _, StSub.refl _, ?_, rfl⟩; (first | rfl | ((first | (rw [hn (fun q => by have h1 := q.2.2.1 k hki; grind)]; done)); done) | skip)) | (apply idxS pk; exact rfl; exact rfl; exact rfl; exact rfl; exact rfl; exact rfl; rotate_left; exact rfl; (intro _; exact rfl); (intro _; apply get_map <;> omega); (intro _; exact rfl); exact rfl) | (refine ⟨⟨k + 1, by omega, fun m h1 h2 => by rcases Nat.lt_succ_iff_lt_or_eq.1 h1 with q | q; exact hkinv m q h2; subst q; grind⟩, ?_, by simp only; omega⟩; (first | exact Sub.nil _ _ _ (StSub.refl _) rfl | ((repeat (first | refine Sub.pv ?_ rfl | refine Sub.var ?_ rfl rfl)); (first | exact Sub.nil _ _ _ (StSub.refl _) rfl | exact Sub.nil _ _ _ (stsub_swap (by assumption)) rfl | exact Sub.nil _ _ _ (stsub_eq (by first | rfl | exact upd_eta (by assumption) | ((simp only [St.pv, St.put, St.sst, St.setv, St.nil, St.var, upd_upd]); first | done | rfl))) rfl | (refine Sub.nil _ _ _ (stsub_eq ?_) rfl; (simp only [St.pv, St.put, St.sst, St.setv, St.nil, St.var, upd_upd]); (rw [upd4 (by assumption)]); first | done | rfl))))) | (intros; omega) | (intros; simp only [List.length_map]; omega)))
    · have ht : ∀ m (hm : m < i), (l[m]'(by omega)).dot = (l[i]'him).dot → (l[m]'(by omega)).time = (l[i]'him).time := fun m hm => hkinv m (by omega) (by omega)
      cases hI : l.findIdx? (fun p => decide (nameOf p = parentOf (l[i]'him))) with
      | none =>
        have e : atP l ⟨(l[i]'him).after, (l[i]'him).afterAt⟩ = -1 := by rw [atP, show (⟨(l[i]'him).after, (l[i]'him).afterAt⟩ : Nm) = parentOf (l[i]'him) from rfl, hI]
        rw [e] at hup
        (try (apply wO pk; exact rfl)); (repeat' (first | exact All.nil | refine All.cons ?_ ?_ | (apply wC pk; exact rfl; exact rfl) | (apply wE pk; exact rfl; exact rfl) | (apply wX pk; exact rfl) | (apply wN pk; exact rfl) | (apply wD pk [] []; kernel_rfl; exact rfl; exact rfl) | exact Imp.one | exact Imp.same | refine Imp.left ?_ | exact ImpX.one | exact ImpX.same | exact ImpX.mk | refine ImpX.up ?_ | refine ImpX.old ?_ | (apply pwp_condC; simp only [cond_true, cond_false]) | (refine pwp_cond rfl (fun h => ?_) (fun h => ?_) <;> (try simp at h) <;> (first | done | (exfalso; omega) | skip)) | (refine pwp_ret ?_; refine ⟨_, _, _, rfl, Wk.refl _, StSub.refl _, ?_, rfl⟩; (first | rfl | ((first | (rw [hn (fun q => by rcases q.2.2.2 with q | ⟨u, hu, q, _⟩; (rw [hz] at q; grind); (rw [hI] at q; cases q))]; done)); done) | skip)) | (apply callS; exact rfl; exact rfl; exact rfl; (intro _; first | (apply hup <;> first | assumption | omega)); rotate_left; exact rfl; exact rfl) | (apply callV; exact rfl; exact rfl; exact rfl; (intro _; first | (apply hup <;> first | assumption | omega)); rotate_left; exact rfl; exact rfl) | (apply idxS pk; exact rfl; exact rfl; exact rfl; exact rfl; exact rfl; exact rfl; rotate_left; exact rfl; (intro _; exact rfl); (intro _; apply get_map <;> omega); (intro _; exact rfl); exact rfl) | (refine ⟨⟨i + 1, by omega, hsucc ⟨hf.1, hf.2, ht, .inl (hz.2 (by grind))⟩⟩, ?_, by simp only; omega⟩; (first | exact Sub.nil _ _ _ (StSub.refl _) rfl | ((repeat (first | refine Sub.pv ?_ rfl | refine Sub.var ?_ rfl rfl)); (first | exact Sub.nil _ _ _ (StSub.refl _) rfl | exact Sub.nil _ _ _ (stsub_swap (by assumption)) rfl | exact Sub.nil _ _ _ (stsub_eq (by first | rfl | exact upd_eta (by assumption) | ((simp only [St.pv, St.put, St.sst, St.setv, St.nil, St.var, upd_upd]); first | done | rfl))) rfl | (refine Sub.nil _ _ _ (stsub_eq ?_) rfl; (simp only [St.pv, St.put, St.sst, St.setv, St.nil, St.var, upd_upd]); (rw [upd4 (by assumption)]); first | done | rfl))))) | (intros; omega) | (intros; simp only [List.length_map]; omega)))
      | some u =>
        have e : atP l ⟨(l[i]'him).after, (l[i]'him).afterAt⟩ = (u : Int) := by rw [atP, show (⟨(l[i]'him).after, (l[i]'him).afterAt⟩ : Nm) = parentOf (l[i]'him) from rfl, hI]
        rw [e] at hup
        obtain ⟨hul, _, _⟩ := List.findIdx?_eq_some_iff_getElem.1 hI
        have hS := Sp.ext_iff (stampOf (l[u]'hul)) (stampOf (l[i]'him))
        have ha : aheadP (l[u]'hul) (l[i]'him) = (lessS (stampOf (l[u]'hul)) (stampOf (l[i]'him)) || (decide (stampOf (l[u]'hul) = stampOf (l[i]'him)) && decide ((l[u]'hul).at_ < (l[i]'him).at_))) := rfl
        (try (apply wO pk; exact rfl)); (repeat' (first | exact All.nil | refine All.cons ?_ ?_ | (apply wC pk; exact rfl; exact rfl) | (apply wE pk; exact rfl; exact rfl) | (apply wX pk; exact rfl) | (apply wN pk; exact rfl) | (apply wD pk [] []; kernel_rfl; exact rfl; exact rfl) | exact Imp.one | exact Imp.same | refine Imp.left ?_ | exact ImpX.one | exact ImpX.same | exact ImpX.mk | refine ImpX.up ?_ | refine ImpX.old ?_ | (apply pwp_condC; simp only [cond_true, cond_false]) | (refine pwp_cond rfl (fun h => ?_) (fun h => ?_) <;> (try simp at h) <;> (first | done | (exfalso; omega) | skip)) | (refine pwp_ret ?_; refine ⟨_, _, _, rfl, Wk.refl _, StSub.refl _, ?_, rfl⟩; (first | rfl | ((first | (rw [hn (fun q => by rcases q.2.2.2 with q | ⟨u', hu', q, q2⟩; (rw [hz] at q; grind); (rw [hI] at q; injection q with q; subst q; rw [ha] at q2; grind))]; done)); done) | skip)) | (apply callS; exact rfl; exact rfl; exact rfl; (intro _; first | (apply hup <;> first | assumption | omega) | (apply (rstamp_spec (l[u]'hul)) <;> first | assumption | omega) | (apply (rstamp_spec (l[i]'him)) <;> first | assumption | omega) | (apply (rless_spec (stampOf (l[u]'hul)) (stampOf (l[i]'him))) <;> first | assumption | omega)); rotate_left; exact rfl; exact rfl) | (apply callV; exact rfl; exact rfl; exact rfl; (intro _; first | (apply hup <;> first | assumption | omega) | (apply (rstamp_spec (l[u]'hul)) <;> first | assumption | omega) | (apply (rstamp_spec (l[i]'him)) <;> first | assumption | omega) | (apply (rless_spec (stampOf (l[u]'hul)) (stampOf (l[i]'him))) <;> first | assumption | omega)); rotate_left; exact rfl; exact rfl) | (apply idxS pk; exact rfl; exact rfl; exact rfl; exact rfl; exact rfl; exact rfl; rotate_left; exact rfl; (intro _; exact rfl); (intro _; apply get_map <;> omega); (intro _; exact rfl); exact rfl) | (refine ⟨⟨i + 1, by omega, hsucc ⟨hf.1, hf.2, ht, .inl (hz.2 (by grind))⟩⟩, ?_, by simp only; omega⟩; (first | exact Sub.nil _ _ _ (StSub.refl _) rfl | ((repeat (first | refine Sub.pv ?_ rfl | refine Sub.var ?_ rfl rfl)); (first | exact Sub.nil _ _ _ (StSub.refl _) rfl | exact Sub.nil _ _ _ (stsub_swap (by assumption)) rfl | exact Sub.nil _ _ _ (stsub_eq (by first | rfl | exact upd_eta (by assumption) | ((simp only [St.pv, St.put, St.sst, St.setv, St.nil, St.var, upd_upd]); first | done | rfl))) rfl | (refine Sub.nil _ _ _ (stsub_eq ?_) rfl; (simp only [St.pv, St.put, St.sst, St.setv, St.nil, St.var, upd_upd]); (rw [upd4 (by assumption)]); first | done | rfl))))) | (refine ⟨⟨i + 1, by omega, hsucc ⟨hf.1, hf.2, ht, .inr ⟨u, hul, hI, by rw [ha]; grind⟩⟩⟩, ?_, by simp only; omega⟩; (first | exact Sub.nil _ _ _ (StSub.refl _) rfl | ((repeat (first | refine Sub.pv ?_ rfl | refine Sub.var ?_ rfl rfl)); (first | exact Sub.nil _ _ _ (StSub.refl _) rfl | exact Sub.nil _ _ _ (stsub_swap (by assumption)) rfl | exact Sub.nil _ _ _ (stsub_eq (by first | rfl | exact upd_eta (by assumption) | ((simp only [St.pv, St.put, St.sst, St.setv, St.nil, St.var, upd_upd]); first | done | rfl))) rfl | (refine Sub.nil _ _ _ (stsub_eq ?_) rfl; (simp only [St.pv, St.put, St.sst, St.setv, St.nil, St.var, upd_upd]); (rw [upd4 (by assumption)]); first | done | rfl))))) | (intros; omega) | (intros; simp only [List.length_map]; omega)))
  · (try (apply wO pk; exact rfl)); (repeat' (first | exact All.nil | refine All.cons ?_ ?_ | (apply wC pk; exact rfl; exact rfl) | (apply wE pk; exact rfl; exact rfl) | (apply wX pk; exact rfl) | (apply wN pk; exact rfl) | (apply wD pk [] []; kernel_rfl; exact rfl; exact rfl) | exact Imp.one | exact Imp.same | refine Imp.left ?_ | exact ImpX.one | exact ImpX.same | exact ImpX.mk | refine ImpX.up ?_ | refine ImpX.old ?_ | (apply pwp_condC; simp only [cond_true, cond_false]) | (refine pwp_cond rfl (fun h => ?_) (fun h => ?_) <;> (try simp at h) <;> (first | done | (exfalso; omega) | skip)) | (refine pwp_ret ?_; refine ⟨_, _, _, rfl, Wk.refl _, StSub.refl _, ?_, rfl⟩; (first | rfl | ((rw [(wholeP_iff l).2 (okAt_whole.2 fun j h => hinv j (by omega) h)]); done) | skip)) | (intros; omega) | (intros; simp only [List.length_map]; omega)))
end Go.Proofs.Ytmljghkinhaalaa
