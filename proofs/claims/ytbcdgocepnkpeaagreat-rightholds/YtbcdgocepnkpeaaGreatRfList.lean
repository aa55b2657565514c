import Derived.Test.YtbcdgocepnkpeaaGreatRfSame
import Derived.Test.YtbcdgocepnkpeaaGreatRtEq
set_option linter.unusedSimpArgs false
set_option linter.unusedVariables false
namespace Go.Proofs.YtbcdgocepnkpeaaGreat
open Go Go.Abs
attribute [local irreducible] Ev PWp
set_option maxRecDepth 10000
set_option maxHeartbeats 2000000
theorem rtsOf_hit {o : List Ow} {i : Nat} {d : Int} (h : i < o.length) (e : o[i].dev = d) : rtsOf (o.drop i) d = o[i].rights := by
  rw [List.drop_eq_getElem_cons h, rtsOf, if_pos e]
theorem rtsOf_miss {o : List Ow} {i : Nat} {d : Int} (h : i < o.length) (e : ¬ o[i].dev = d) : rtsOf (o.drop i) d = rtsOf (o.drop (i + 1)) d := by
  rw [List.drop_eq_getElem_cons h, rtsOf, if_neg e]
theorem list_spec (o : List Ow) (ho : FewO o) (d : Int) : PF Tryz.prog 44 [.seq (o.map Ow.cells), (PV.val (Value.int .i64 (d)))] (.seq ((rtsOf o d).map Rt.cells)) := by
  have hlen := ho.len
  refine pf_of tt_ok Tryz.func44 (by kernel_rfl) rfl rfl rfl rfl (fun st => ?_)
  (try (apply wO pk; exact rfl)); (repeat' (first | exact All.nil | refine All.cons ?_ ?_ | (apply wC pk; exact rfl; exact rfl) | (apply wE pk; exact rfl; exact rfl) | (apply wX pk; exact rfl) | (apply wN pk; exact rfl) | (apply wD pk [] []; kernel_rfl; exact rfl; exact rfl) | exact Imp.one | exact Imp.same | refine Imp.left ?_ | exact ImpX.one | exact ImpX.same | exact ImpX.mk | refine ImpX.up ?_ | refine ImpX.old ?_ | (apply pwp_condC; simp only [cond_true, cond_false]) | (refine pwp_cond rfl (fun h => ?_) (fun h => ?_) <;> (try simp at h) <;> (first | done | (exfalso; omega) | skip)) | (refine pwp_ret ?_; refine ⟨_, _, _, rfl, Wk.refl _, StSub.refl _, ?_, rfl⟩; (first | rfl | skip)) | (intros; omega) | (intros; simp only [List.length_map]; omega)))
  refine pwp_loop (X := { x : Nat // x ≤ o.length ∧ rtsOf (o.drop x) d = rtsOf o d }) (fun i => ((((St.nil 24 st).pv 0 (.seq (o.map Ow.cells))).pv 1 ((PV.val (Value.int .i64 (d))))).pv 5 ((PV.val (Value.int .i64 ((i.1 : Nat))))))) (fun i => o.length - i.1) ⟨0, by omega, rfl⟩ ?_ (fun i => ?_)
  · (first | exact Sub.nil _ _ _ (StSub.refl _) rfl | ((repeat (first | refine Sub.pv ?_ rfl | refine Sub.var ?_ rfl rfl)); (first | exact Sub.nil _ _ _ (StSub.refl _) rfl | exact Sub.nil _ _ _ (stsub_swap (by assumption)) rfl | exact Sub.nil _ _ _ (stsub_eq (by first | rfl | exact upd_eta (by assumption) | ((simp only [St.pv, St.put, St.sst, St.setv, St.nil, St.var, upd_upd]); first | done | rfl))) rfl | (refine Sub.nil _ _ _ (stsub_eq ?_) rfl; (simp only [St.pv, St.put, St.sst, St.setv, St.nil, St.var, upd_upd]); (rw [upd4 (by assumption)]); first | done | rfl))))
  obtain ⟨i, hi, hI⟩ := i
  dsimp only
  by_cases hend : o.length ≤ i
  · rw [List.drop_eq_nil_of_le hend] at hI
    have hI : rtsOf o d = [] := hI.symm
    rw [hI]
    (try (apply wO pk; exact rfl)); (repeat' (first | ((refine pwp_ret ?_; exact ⟨_, _, st, rfl, Wk.soft _, StSub.refl _, rfl, rfl⟩)) | exact All.nil | refine All.cons ?_ ?_ | (apply wC pk; exact rfl; exact rfl) | (apply wE pk; exact rfl; exact rfl) | (apply wX pk; exact rfl) | (apply wN pk; exact rfl) | (apply wD pk [] []; kernel_rfl; exact rfl; exact rfl) | exact Imp.one | exact Imp.same | refine Imp.left ?_ | exact ImpX.one | exact ImpX.same | exact ImpX.mk | refine ImpX.up ?_ | refine ImpX.old ?_ | (apply pwp_condC; simp only [cond_true, cond_false]) | (refine pwp_cond rfl (fun h => ?_) (fun h => ?_) <;> (try simp at h) <;> (first | done | (exfalso; omega) | skip)) | (refine pwp_ret ?_; refine ⟨_, _, _, rfl, Wk.refl _, StSub.refl _, ?_, rfl⟩; (first | rfl | skip)) | (intros; omega) | (intros; simp only [List.length_map]; omega)))
  have hlt : i < o.length := by omega
  have hF : o[i].dev = d → rtsOf o d = o[i].rights := fun h => by rw [← hI, rtsOf_hit hlt h]
  have hS : ¬ o[i].dev = d → rtsOf (o.drop (i + 1)) d = rtsOf o d := fun h => by rw [← hI, rtsOf_miss hlt h]
  (try (apply wO pk; exact rfl)); (repeat' (first | exact All.nil | refine All.cons ?_ ?_ | (apply wC pk; exact rfl; exact rfl) | (apply wE pk; exact rfl; exact rfl) | (apply wX pk; exact rfl) | (apply wN pk; exact rfl) | (apply wD pk [] []; kernel_rfl; exact rfl; exact rfl) | exact Imp.one | exact Imp.same | refine Imp.left ?_ | exact ImpX.one | exact ImpX.same | exact ImpX.mk | refine ImpX.up ?_ | refine ImpX.old ?_ | (apply pwp_condC; simp only [cond_true, cond_false]) | (refine pwp_cond rfl (fun h => ?_) (fun h => ?_) <;> (try simp at h) <;> (first | done | (exfalso; omega) | skip)) | (refine pwp_ret ?_; refine ⟨_, _, _, rfl, Wk.refl _, StSub.refl _, ?_, rfl⟩; (first | rfl | ((rw [hF (by assumption)]); done) | skip)) | (apply idxS pk; exact rfl; exact rfl; exact rfl; exact rfl; exact rfl; exact rfl; rotate_left; exact rfl; (intro _; exact rfl); (intro _; apply get_map <;> omega); (intro _; exact rfl); exact rfl) | (refine ⟨⟨i + 1, by omega, hS (by assumption)⟩, ?_, by simp only; omega⟩; (first | exact Sub.nil _ _ _ (StSub.refl _) rfl | ((repeat (first | refine Sub.pv ?_ rfl | refine Sub.var ?_ rfl rfl)); (first | exact Sub.nil _ _ _ (StSub.refl _) rfl | exact Sub.nil _ _ _ (stsub_swap (by assumption)) rfl | exact Sub.nil _ _ _ (stsub_eq (by first | rfl | exact upd_eta (by assumption) | ((simp only [St.pv, St.put, St.sst, St.setv, St.nil, St.var, upd_upd]); first | done | rfl))) rfl | (refine Sub.nil _ _ _ (stsub_eq ?_) rfl; (simp only [St.pv, St.put, St.sst, St.setv, St.nil, St.var, upd_upd]); (rw [upd4 (by assumption)]); first | done | rfl))))) | (intros; omega) | (intros; simp only [List.length_map]; omega)))
def amG : List Rt → Rt → Int
  | [], _ => 0
  | x :: l, r => if sameB x r = true then x.amt else amG l r
theorem amG_amL {r : Rt} (h3 : r.kind = 3) : ∀ l : List Rt, amG l r = amL l (keyA r)
  | [] => rfl
  | x :: l => by
    rw [amG, amL, amG_amL h3 l]
    have : sameB x r = true ↔ x.kind = 3 ∧ keyA x = keyA r := by
      rw [same_iff, keyA_iff]; omega
    by_cases h : sameB x r = true
    · rw [if_pos h, if_pos (this.1 h)]
    · rw [if_neg h, if_neg fun q => h (this.2 q)]
theorem rtsOf_few {o : List Ow} (ho : FewO o) (d : Int) : (rtsOf o d).length ≤ 1000 := by
  by_cases h : rtsOf o d = []
  · rw [h]; simp
  · obtain ⟨w, hw, _, e⟩ := rtsOf_some h
    rw [e]; exact ho.rts w hw
theorem amt_spec (o : List Ow) (ho : FewO o) (d : Int) (r : Rt) : PF Tryz.prog 45 [.seq (o.map Ow.cells), (PV.val (Value.int .i64 (d))), .agg r.cells] (PV.val (Value.int .i64 (amG (rtsOf o d) r))) := by
  have hl := list_spec o ho d
  have hlen := rtsOf_few ho d
  generalize rtsOf o d = l at *
  refine pf_of tt_ok Tryz.func45 (by kernel_rfl) rfl rfl rfl rfl (fun st => ?_)
  (try (apply wO pk; exact rfl)); (repeat' (first | exact All.nil | refine All.cons ?_ ?_ | (apply wC pk; exact rfl; exact rfl) | (apply wE pk; exact rfl; exact rfl) | (apply wX pk; exact rfl) | (apply wN pk; exact rfl) | (apply wD pk [] []; kernel_rfl; exact rfl; exact rfl) | exact Imp.one | exact Imp.same | refine Imp.left ?_ | exact ImpX.one | exact ImpX.same | exact ImpX.mk | refine ImpX.up ?_ | refine ImpX.old ?_ | (apply pwp_condC; simp only [cond_true, cond_false]) | (refine pwp_cond rfl (fun h => ?_) (fun h => ?_) <;> (try simp at h) <;> (first | done | (exfalso; omega) | skip)) | (refine pwp_ret ?_; refine ⟨_, _, _, rfl, Wk.refl _, StSub.refl _, ?_, rfl⟩; (first | rfl | skip)) | (apply callS; exact rfl; exact rfl; exact rfl; (intro _; first | (apply hl <;> first | assumption | omega)); rotate_left; exact rfl; exact rfl) | (apply callV; exact rfl; exact rfl; exact rfl; (intro _; first | (apply hl <;> first | assumption | omega)); rotate_left; exact rfl; exact rfl) | (intros; omega) | (intros; simp only [List.length_map]; omega)))
  refine pwp_loop (X := { x : Nat // x ≤ l.length ∧ amG (l.drop x) r = amG l r }) (fun i => ((((St.nil 31 st).var 5 27 (r.cells)).pv 7 (.seq (l.map Rt.cells))).pv 8 ((PV.val (Value.int .i64 ((i.1 : Nat))))))) (fun i => l.length - i.1) ⟨0, by omega, rfl⟩ ?_ (fun i => ?_)
  · (first | exact Sub.nil _ _ _ (StSub.refl _) rfl | ((repeat (first | refine Sub.pv ?_ rfl | refine Sub.var ?_ rfl rfl)); (first | exact Sub.nil _ _ _ (StSub.refl _) rfl | exact Sub.nil _ _ _ (stsub_swap (by assumption)) rfl | exact Sub.nil _ _ _ (stsub_eq (by first | rfl | exact upd_eta (by assumption) | ((simp only [St.pv, St.put, St.sst, St.setv, St.nil, St.var, upd_upd]); first | done | rfl))) rfl | (refine Sub.nil _ _ _ (stsub_eq ?_) rfl; (simp only [St.pv, St.put, St.sst, St.setv, St.nil, St.var, upd_upd]); (rw [upd4 (by assumption)]); first | done | rfl))))
  obtain ⟨i, hi, hI⟩ := i
  dsimp only
  by_cases hend : l.length ≤ i
  · rw [List.drop_eq_nil_of_le hend] at hI
    rw [← hI]
    (try (apply wO pk; exact rfl)); (repeat' (first | exact All.nil | refine All.cons ?_ ?_ | (apply wC pk; exact rfl; exact rfl) | (apply wE pk; exact rfl; exact rfl) | (apply wX pk; exact rfl) | (apply wN pk; exact rfl) | (apply wD pk [] []; kernel_rfl; exact rfl; exact rfl) | exact Imp.one | exact Imp.same | refine Imp.left ?_ | exact ImpX.one | exact ImpX.same | exact ImpX.mk | refine ImpX.up ?_ | refine ImpX.old ?_ | (apply pwp_condC; simp only [cond_true, cond_false]) | (refine pwp_cond rfl (fun h => ?_) (fun h => ?_) <;> (try simp at h) <;> (first | done | (exfalso; omega) | skip)) | (refine pwp_ret ?_; refine ⟨_, _, _, rfl, Wk.refl _, StSub.refl _, ?_, rfl⟩; (first | rfl | skip)) | (intros; omega) | (intros; simp only [List.length_map]; omega)))
  have hlt : i < l.length := by omega
  rw [List.drop_eq_getElem_cons hlt, amG] at hI
  have hs := same_spec l[i] r
  generalize sameB l[i] r = sm at *
  cases sm with
  | true =>
    rw [if_pos rfl] at hI
    (try (apply wO pk; exact rfl)); (repeat' (first | exact All.nil | refine All.cons ?_ ?_ | (apply wC pk; exact rfl; exact rfl) | (apply wE pk; exact rfl; exact rfl) | (apply wX pk; exact rfl) | (apply wN pk; exact rfl) | (apply wD pk [] []; kernel_rfl; exact rfl; exact rfl) | exact Imp.one | exact Imp.same | refine Imp.left ?_ | exact ImpX.one | exact ImpX.same | exact ImpX.mk | refine ImpX.up ?_ | refine ImpX.old ?_ | (apply pwp_condC; simp only [cond_true, cond_false]) | (refine pwp_cond rfl (fun h => ?_) (fun h => ?_) <;> (try simp at h) <;> (first | done | (exfalso; omega) | skip)) | (refine pwp_ret ?_; refine ⟨_, _, _, rfl, Wk.refl _, StSub.refl _, ?_, rfl⟩; (first | rfl | ((rw [← hI]); done) | skip)) | (apply callS; exact rfl; exact rfl; exact rfl; (intro _; first | (apply hs <;> first | assumption | omega)); rotate_left; exact rfl; exact rfl) | (apply callV; exact rfl; exact rfl; exact rfl; (intro _; first | (apply hs <;> first | assumption | omega)); rotate_left; exact rfl; exact rfl) | (apply idxS pk; exact rfl; exact rfl; exact rfl; exact rfl; exact rfl; exact rfl; rotate_left; exact rfl; (intro _; exact rfl); (intro _; apply get_map <;> omega); (intro _; exact rfl); exact rfl) | (intros; omega) | (intros; simp only [List.length_map]; omega)))
  | false =>
    rw [if_neg (by simp)] at hI
    (try (apply wO pk; exact rfl)); (repeat' (first | exact All.nil | refine All.cons ?_ ?_ | (apply wC pk; exact rfl; exact rfl) | (apply wE pk; exact rfl; exact rfl) | (apply wX pk; exact rfl) | (apply wN pk; exact rfl) | (apply wD pk [] []; kernel_rfl; exact rfl; exact rfl) | exact Imp.one | exact Imp.same | refine Imp.left ?_ | exact ImpX.one | exact ImpX.same | exact ImpX.mk | refine ImpX.up ?_ | refine ImpX.old ?_ | (apply pwp_condC; simp only [cond_true, cond_false]) | (refine pwp_cond rfl (fun h => ?_) (fun h => ?_) <;> (try simp at h) <;> (first | done | (exfalso; omega) | skip)) | (refine pwp_ret ?_; refine ⟨_, _, _, rfl, Wk.refl _, StSub.refl _, ?_, rfl⟩; (first | rfl | skip)) | (apply callS; exact rfl; exact rfl; exact rfl; (intro _; first | (apply hs <;> first | assumption | omega)); rotate_left; exact rfl; exact rfl) | (apply callV; exact rfl; exact rfl; exact rfl; (intro _; first | (apply hs <;> first | assumption | omega)); rotate_left; exact rfl; exact rfl) | (apply idxS pk; exact rfl; exact rfl; exact rfl; exact rfl; exact rfl; exact rfl; rotate_left; exact rfl; (intro _; exact rfl); (intro _; apply get_map <;> omega); (intro _; exact rfl); exact rfl) | (refine ⟨⟨i + 1, by omega, hI⟩, ?_, by simp only; omega⟩; (first | exact Sub.nil _ _ _ (StSub.refl _) rfl | ((repeat (first | refine Sub.pv ?_ rfl | refine Sub.var ?_ rfl rfl)); (first | exact Sub.nil _ _ _ (StSub.refl _) rfl | exact Sub.nil _ _ _ (stsub_swap (by assumption)) rfl | exact Sub.nil _ _ _ (stsub_eq (by first | rfl | exact upd_eta (by assumption) | ((simp only [St.pv, St.put, St.sst, St.setv, St.nil, St.var, upd_upd]); first | done | rfl))) rfl | (refine Sub.nil _ _ _ (stsub_eq ?_) rfl; (simp only [St.pv, St.put, St.sst, St.setv, St.nil, St.var, upd_upd]); (rw [upd4 (by assumption)]); first | done | rfl))))) | (intros; omega) | (intros; simp only [List.length_map]; omega)))
def AmB (l : List Rt) : Prop := ∀ x ∈ l, -4398046511104 ≤ x.amt ∧ x.amt ≤ 4398046511104
theorem fresh_two {st : Store} {id id' j : Nat} {o o2 : AObj} (h0 : st id = none) (h : upd (upd (upd st id (some o)) id none) id' (some o2) j = none) : st j = none := by
  have h1 := fresh_upd h
  by_cases e : j = id
  · rw [e]; exact h0
  · rwa [upd_ne e, upd_ne e] at h1
theorem stsub_swap2 {st : Store} {id id' i2 : Nat} {o o2 o3 : AObj} (h : st id = none) (h' : st id' = none) : StSub (upd st i2 (some o)) (upd (upd (upd (upd (upd st id (some o2)) id none) id' (some o3)) id' none) i2 (some o)) := fun j => by
  by_cases h1 : j = i2
  · right; rw [h1, upd_same, upd_same]
  · rw [upd_ne h1, upd_ne h1]
    by_cases h2 : j = id'
    · left; rw [h2]; exact h'
    · rw [upd_ne h2, upd_ne h2]
      by_cases h3 : j = id
      · left; rw [h3]; exact h
      · right; rw [upd_ne h3, upd_ne h3]
theorem put_spec (l : List Rt) (r : Rt) (hl : l.length ≤ 2000) (hb : AmB l) (hr : -4398046511104 ≤ r.amt ∧ r.amt ≤ 4398046511104) : PF Tryz.prog 49 [.seq (l.map Rt.cells), .agg r.cells] (.seq ((putP l r).map Rt.cells)) := by
  have hB := bytesR
  refine pf_of tt_ok Tryz.func49 (by kernel_rfl) rfl rfl rfl rfl (fun st => ?_)
  (try (apply wO pk; exact rfl)); (repeat' (first | exact All.nil | refine All.cons ?_ ?_ | (apply wC pk; exact rfl; exact rfl) | (apply wE pk; exact rfl; exact rfl) | (apply wX pk; exact rfl) | (apply wN pk; exact rfl) | (apply wD pk [] []; kernel_rfl; exact rfl; exact rfl) | exact Imp.one | exact Imp.same | refine Imp.left ?_ | exact ImpX.one | exact ImpX.same | exact ImpX.mk | refine ImpX.up ?_ | refine ImpX.old ?_ | (apply pwp_condC; simp only [cond_true, cond_false]) | (refine pwp_cond rfl (fun h => ?_) (fun h => ?_) <;> (try simp at h) <;> (first | done | (exfalso; omega) | skip)) | (refine pwp_ret ?_; refine ⟨_, _, _, rfl, Wk.refl _, StSub.refl _, ?_, rfl⟩; (first | rfl | skip)) | (intros; omega) | (intros; simp only [List.length_map]; omega)))
  refine pwp_own 5 27 rfl rfl (fun id hid => ?_)
  have hid : st id = none := hid
  refine pwp_loop (X := { x : Nat × Rt × Bool × List Rt × Nat // x.1 ≤ l.length ∧ st x.2.2.2.2 = none ∧ x.2.2.2.1 ++ putA x.2.1 x.2.2.1 (l.drop x.1) = putP l r ∧ x.2.2.2.1.length ≤ 2 * x.1 ∧ (-4398046511104 - 4398046511104 * (x.1 : Int) ≤ x.2.1.amt ∧ x.2.1.amt ≤ 4398046511104 + 4398046511104 * (x.1 : Int)) }) (fun i => ((((((St.nil 126 (upd st i.1.2.2.2.2 (some (.tok 27)))).pv 0 (.seq (l.map Rt.cells))).var 3 27 (i.1.2.1.cells)).pv 5 (.own i.1.2.2.2.2 (i.1.2.2.2.1.map Rt.cells))).pv 6 ((PV.val (Value.bool (i.1.2.2.1))))).pv 7 ((PV.val (Value.int .i64 ((i.1.1 : Nat))))))) (fun i => l.length - i.1.1) ⟨(0, r, false, [], id), by simp, hid, rfl, by simp, by simpa using hr⟩ ?_ (fun i => ?_)
  · (first | exact Sub.nil _ _ _ (StSub.refl _) rfl | ((repeat (first | refine Sub.pv ?_ rfl | refine Sub.var ?_ rfl rfl | refine Sub.pv' ?_ rfl (by first | rfl | simp) | refine Sub.var' ?_ rfl rfl (by first | rfl | simp))); (first | exact Sub.nil _ _ _ (StSub.refl _) rfl | exact Sub.nil _ _ _ (stsub_swap (by assumption)) rfl | exact Sub.nil _ _ _ (stsub_eq (by first | rfl | exact upd_eta (by assumption) | ((simp only [St.pv, St.put, St.sst, St.setv, St.nil, St.var, upd_upd]); first | done | rfl))) rfl | (refine Sub.nil _ _ _ (stsub_eq ?_) rfl; (simp only [St.pv, St.put, St.sst, St.setv, St.nil, St.var, upd_upd]); (rw [upd4 (by assumption)]); first | done | rfl))))
  obtain ⟨⟨i, r2, done, acc, id⟩, hi, hid, hI, hacc, hr2⟩ := i
  simp only at hi hid hI hacc hr2
  dsimp only
  by_cases hend : l.length ≤ i
  · rw [List.drop_eq_nil_of_le hend, putA] at hI
    have h1 : (done = false ∧ (¬ r2.kind = 3 ∨ ¬ r2.amt = 0)) → acc ++ [r2] = putP l r := fun h => by
      rw [if_pos (by rw [Bool.and_eq_true, Bool.not_eq_true']; exact ⟨h.1, by unfold liveB; simpa using h.2⟩)] at hI; exact hI
    have h2 : ¬ (done = false ∧ (¬ r2.kind = 3 ∨ ¬ r2.amt = 0)) → acc = putP l r := fun h => by
      rw [if_neg (by rw [Bool.and_eq_true, Bool.not_eq_true']; exact fun q => h ⟨q.1, by unfold liveB at q; simpa using q.2⟩), List.append_nil] at hI; exact hI
    (try (apply wO pk; exact rfl)); (repeat' (first | ((refine pwp_ret ?_; refine ⟨_, _, st, rfl, Wk.soft _, stsub_over (stsub_over (stsub_drop hid) hid) (fresh_upd hid'), ?_, rfl⟩; rw [← h1 (by assumption)]; rfl)) | ((refine pwp_ret ?_; refine ⟨_, _, st, rfl, Wk.soft _, stsub_drop hid, ?_, rfl⟩; rw [← h2 (by grind)]; rfl)) | exact All.nil | refine All.cons ?_ ?_ | (apply wC pk; exact rfl; exact rfl) | (apply wE pk; exact rfl; exact rfl) | (apply wX pk; exact rfl) | (apply wN pk; exact rfl) | (apply wD pk [] []; kernel_rfl; exact rfl; exact rfl) | exact Imp.one | exact Imp.same | refine Imp.left ?_ | exact ImpX.one | exact ImpX.same | exact ImpX.mk | refine ImpX.up ?_ | refine ImpX.old ?_ | (apply pwp_condC; simp only [cond_true, cond_false]) | (refine pwp_cond rfl (fun h => ?_) (fun h => ?_) <;> (try simp at h) <;> (first | done | (exfalso; omega) | skip)) | (refine pwp_ret ?_; first | (refine ⟨_, _, _, rfl, Wk.refl _, StSub.refl _, ?_, rfl⟩; (first | rfl)) | (refine ⟨_, _, _, rfl, Wk.refl _, stsub_drop (by assumption), ?_, rfl⟩; (first | rfl)) | (refine ⟨_, _, _, rfl, Wk.soft _, StSub.refl _, ?_, rfl⟩; (first | rfl)) | (refine ⟨_, _, _, rfl, Wk.soft _, stsub_drop (by assumption), ?_, rfl⟩; (first | rfl)) | (refine ⟨_, _, _, rfl, Wk.refl _, StSub.refl _, ?_, rfl⟩) | (refine ⟨_, _, _, rfl, Wk.soft _, stsub_drop (by assumption), ?_, rfl⟩)) | (apply apM pk (f := Rt.cells) [r2] 48; exact rfl; exact rfl; exact rfl; exact rfl; exact rfl; exact rfl; exact rfl; exact rfl; exact rfl; exact upd_same _ _ _; exact fun _ => rfl; exact fun _ => rfl; exact hB; (simp; omega); (simp; omega); exact rfl; intro id' hid') | (intros; omega) | (intros; simp only [List.length_map]; omega)))
  have hlt : i < l.length := by omega
  have hxb := hb _ (List.getElem_mem hlt)
  have hs := same_spec l[i] r2
  have ha := ahead_spec l[i] r2
  rw [List.drop_eq_getElem_cons hlt, putA] at hI
  generalize sameB l[i] r2 = sm at *
  generalize aheadB l[i] r2 = ah at *
  have hlv : liveB r2 = true ↔ (¬ r2.kind = 3 ∨ ¬ r2.amt = 0) := by unfold liveB; simp
  have H1 : sm = true ∧ r2.kind = 3 → acc ++ putA { r2 with amt := r2.amt + l[i].amt } done (l.drop (i + 1)) = putP l r := fun h => by
    rw [if_pos (by simp [h.1, h.2])] at hI; exact hI
  have H2 : (sm = true → ¬ r2.kind = 3) → (sm = true ∧ l[i].lo ≤ r2.hi) ∧ r2.lo ≤ l[i].hi → acc ++ putA { r2 with lo := min r2.lo l[i].lo, hi := max r2.hi l[i].hi } done (l.drop (i + 1)) = putP l r := fun h h2 => by
    replace h : ¬ (sm = true ∧ r2.kind = 3) := fun q => h q.1 q.2
    rw [if_neg (by simpa using h), if_pos (by simp [h2.1.1, h2.1.2, h2.2])] at hI; exact hI
  have H3 : (sm = true → ¬ r2.kind = 3) → (sm = true → l[i].lo ≤ r2.hi → l[i].hi < r2.lo) → (ah = false ∧ done = false) ∧ (¬ r2.kind = 3 ∨ ¬ r2.amt = 0) → ((acc ++ [r2]) ++ [l[i]]) ++ putA r2 true (l.drop (i + 1)) = putP l r := fun h h2 h3 => by
    replace h : ¬ (sm = true ∧ r2.kind = 3) := fun q => h q.1 q.2
    replace h2 : ¬ ((sm = true ∧ l[i].lo ≤ r2.hi) ∧ r2.lo ≤ l[i].hi) := fun q => by have := h2 q.1.1 q.1.2; omega
    rw [if_neg (by simpa using h), if_neg (by simpa using h2), if_pos (by rw [Bool.and_eq_true, hlv]; exact ⟨by simp [h3.1.1, h3.1.2], h3.2⟩)] at hI
    rw [← hI]; simp
  have H4 : (sm = true → ¬ r2.kind = 3) → (sm = true → l[i].lo ≤ r2.hi → l[i].hi < r2.lo) → (ah = false → done = false → r2.kind = 3 ∧ r2.amt = 0) → (acc ++ [l[i]]) ++ putA r2 done (l.drop (i + 1)) = putP l r := fun h h2 h3 => by
    replace h : ¬ (sm = true ∧ r2.kind = 3) := fun q => h q.1 q.2
    replace h2 : ¬ ((sm = true ∧ l[i].lo ≤ r2.hi) ∧ r2.lo ≤ l[i].hi) := fun q => by have := h2 q.1.1 q.1.2; omega
    replace h3 : ¬ ((ah = false ∧ done = false) ∧ (¬ r2.kind = 3 ∨ ¬ r2.amt = 0)) := fun q => by have := h3 q.1.1 q.1.2; omega
    rw [if_neg (by simpa using h), if_neg (by simpa using h2), if_neg (by rw [Bool.and_eq_true, hlv, Bool.and_eq_true, Bool.not_eq_true', Bool.not_eq_true']; exact h3)] at hI
    rw [← hI]; simp
  clear hlv hI
  (try (apply wO pk; exact rfl)); (repeat' (first | exact All.nil | refine All.cons ?_ ?_ | (apply wC pk; exact rfl; exact rfl) | (apply wE pk; exact rfl; exact rfl) | (apply wX pk; exact rfl) | (apply wN pk; exact rfl) | (apply wD pk [] []; kernel_rfl; exact rfl; exact rfl) | exact Imp.one | exact Imp.same | refine Imp.left ?_ | exact ImpX.one | exact ImpX.same | exact ImpX.mk | refine ImpX.up ?_ | refine ImpX.old ?_ | (apply pwp_condC; simp only [cond_true, cond_false]) | (refine pwp_cond rfl (fun h => ?_) (fun h => ?_) <;> (try simp at h) <;> (first | done | (exfalso; omega) | skip)) | (refine pwp_ret ?_; first | (refine ⟨_, _, _, rfl, Wk.refl _, StSub.refl _, ?_, rfl⟩; (first | rfl)) | (refine ⟨_, _, _, rfl, Wk.refl _, stsub_drop (by assumption), ?_, rfl⟩; (first | rfl)) | (refine ⟨_, _, _, rfl, Wk.soft _, StSub.refl _, ?_, rfl⟩; (first | rfl)) | (refine ⟨_, _, _, rfl, Wk.soft _, stsub_drop (by assumption), ?_, rfl⟩; (first | rfl)) | (refine ⟨_, _, _, rfl, Wk.refl _, StSub.refl _, ?_, rfl⟩) | (refine ⟨_, _, _, rfl, Wk.soft _, stsub_drop (by assumption), ?_, rfl⟩)) | (apply callS; exact rfl; exact rfl; exact rfl; (intro _; first | (apply hs <;> first | assumption | omega) | (apply ha <;> first | assumption | omega)); rotate_left; exact rfl; exact rfl) | (apply callV; exact rfl; exact rfl; exact rfl; (intro _; first | (apply hs <;> first | assumption | omega) | (apply ha <;> first | assumption | omega)); rotate_left; exact rfl; exact rfl) | (apply idxS pk; exact rfl; exact rfl; exact rfl; exact rfl; exact rfl; exact rfl; rotate_left; exact rfl; (intro _; exact rfl); (intro _; apply get_map <;> omega); (intro _; exact rfl); exact rfl) | (apply apM pk (f := Rt.cells) [r2] 48; exact rfl; exact rfl; exact rfl; exact rfl; exact rfl; exact rfl; exact rfl; exact rfl; exact rfl; exact upd_same _ _ _; exact fun _ => rfl; exact fun _ => rfl; exact hB; (simp; omega); (simp; omega); exact rfl; intro id' hid') | (apply apM pk (f := Rt.cells) [l[i]'(by assumption)] 48; exact rfl; exact rfl; exact rfl; exact rfl; exact rfl; exact rfl; exact rfl; exact rfl; exact rfl; exact upd_same _ _ _; exact fun _ => rfl; exact fun _ => rfl; exact hB; (simp; omega); (simp; omega); exact rfl; intro id2 hid2) | (refine ⟨⟨(i + 1, { r2 with amt := r2.amt + (l[i]'(by assumption)).amt }, done, acc, id), by simp only; omega, hid, H1 (by assumption), by simp only; omega, by simp only; omega⟩, ?_, by simp only; omega⟩; (first | exact Sub.nil _ _ _ (StSub.refl _) rfl | ((repeat (first | refine Sub.pv ?_ rfl | refine Sub.var ?_ rfl rfl)); (first | exact Sub.nil _ _ _ (StSub.refl _) rfl | exact Sub.nil _ _ _ (stsub_swap (by assumption)) rfl | exact Sub.nil _ _ _ (stsub_eq (by first | rfl | exact upd_eta (by assumption) | ((simp only [St.pv, St.put, St.sst, St.setv, St.nil, St.var, upd_upd]); first | done | rfl))) rfl | (refine Sub.nil _ _ _ (stsub_eq ?_) rfl; (simp only [St.pv, St.put, St.sst, St.setv, St.nil, St.var, upd_upd]); (rw [upd4 (by assumption)]); first | done | rfl))))) | (refine ⟨⟨(i + 1, { r2 with lo := min r2.lo (l[i]'(by assumption)).lo, hi := max r2.hi (l[i]'(by assumption)).hi }, done, acc, id), by simp only; omega, hid, H2 (by assumption) (by assumption), by simp only; omega, by simp only; omega⟩, ?_, by simp only; omega⟩; (first | exact Sub.nil _ _ _ (StSub.refl _) rfl | ((repeat (first | refine Sub.pv ?_ rfl | refine Sub.var ?_ rfl rfl)); (first | exact Sub.nil _ _ _ (StSub.refl _) rfl | exact Sub.nil _ _ _ (stsub_swap (by assumption)) rfl | exact Sub.nil _ _ _ (stsub_eq (by first | rfl | exact upd_eta (by assumption) | ((simp only [St.pv, St.put, St.sst, St.setv, St.nil, St.var, upd_upd]); first | done | rfl))) rfl | (refine Sub.nil _ _ _ (stsub_eq ?_) rfl; (simp only [St.pv, St.put, St.sst, St.setv, St.nil, St.var, upd_upd]); (rw [upd4 (by assumption)]); first | done | rfl))))) | (refine ⟨⟨(i + 1, r2, done, acc ++ [l[i]'(by assumption)], id2), by simp only; omega, fresh_upd hid2, H4 (by assumption) (by assumption) (by assumption), by simp; omega, by simp only; omega⟩, ?_, by simp only; omega⟩; (first | exact Sub.nil _ _ _ (StSub.refl _) rfl | ((repeat (first | refine Sub.pv ?_ rfl | refine Sub.var ?_ rfl rfl)); (first | exact Sub.nil _ _ _ (StSub.refl _) rfl | exact Sub.nil _ _ _ (stsub_swap (by assumption)) rfl | exact Sub.nil _ _ _ (stsub_eq (by first | rfl | exact upd_eta (by assumption) | ((simp only [St.pv, St.put, St.sst, St.setv, St.nil, St.var, upd_upd]); first | done | rfl))) rfl | (refine Sub.nil _ _ _ (stsub_eq ?_) rfl; (simp only [St.pv, St.put, St.sst, St.setv, St.nil, St.var, upd_upd]); (rw [upd4 (by assumption)]); first | done | rfl))))) | (intros; omega) | (intros; simp only [List.length_map]; omega)))
  have hf1 : st id' = none := fresh_upd hid'
  have hf2 : st id2 = none := fresh_two hid hid2
  refine ⟨⟨(i + 1, r2, true, (acc ++ [r2]) ++ [l[i]], id2), by simp only; omega, hf2, H3 (by assumption) (by assumption) (by assumption), by simp; omega, by simp only; omega⟩, ?_, by simp only; omega⟩
  (repeat (first | refine Sub.pv ?_ rfl | refine Sub.var ?_ rfl rfl))
  exact Sub.nil _ _ _ (stsub_swap2 hid hf1) rfl
end Go.Proofs.YtbcdgocepnkpeaaGreat
