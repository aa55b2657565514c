import Derived.Test.YtbcdgocepnkpeaaGreatRtClosed
set_option linter.unusedSimpArgs false
set_option linter.unusedVariables false
namespace Go.Proofs.YtbcdgocepnkpeaaGreat
open Go Go.Abs
attribute [local irreducible] Ev PWp
set_option maxRecDepth 10000
set_option maxHeartbeats 4000000
def two (x y : Sn) : List Sn := [⟨y.lo, min y.hi x.lo⟩, ⟨max y.lo x.hi, y.hi⟩]
def keepS (l : List Sn) : List Sn := l.filter fun z => decide (z.lo < z.hi)
def lessP (x : Sn) : List Sn → List Sn
  | [] => []
  | y :: l => keepS (two x y) ++ lessP x l
theorem lessP_len (x : Sn) (l : List Sn) : (lessP x l).length ≤ 2 * l.length := by
  induction l with
  | nil => simp [lessP]
  | cons y l ih =>
    have : (keepS (two x y)).length ≤ 2 := List.length_filter_le _ _
    rw [lessP, List.length_append, List.length_cons]; omega
structure LS (st : Store) (b : Option (Nat × List Sn)) (S : Store) : Prop where
  arr : ∀ y, b = some y → S y.1 = some (.arr 77 (y.2.map Sn.cells)) ∧ st y.1 = none
  old : ∀ j, st j ≠ none → S j = st j
theorem LS.zero {st : Store} {b : Option (Nat × List Sn)} {S : Store} (h : LS st b S) {i' : Nat} (hi : S i' = none) (l : List Sn) : LS st (some (i', l)) (upd S i' (some (.arr 77 (l.map Sn.cells)))) := by
  have hs : st i' = none := Decidable.byContradiction fun q => q (by rw [← h.old _ q]; exact hi)
  refine ⟨fun y e => ?_, fun j hj => by rw [upd_ne fun e => hj (by rw [e]; exact hs)]; exact h.old j hj⟩
  injection e with e; subst e
  exact ⟨upd_same _ _ _, hs⟩
theorem LS.grow {st : Store} {y : Nat × List Sn} {S : Store} (h : LS st (some y) S) {i' : Nat} (hi : S i' = none) (l : List Sn) : LS st (some (i', l)) (upd (upd S y.1 none) i' (some (.arr 77 (l.map Sn.cells)))) := by
  have hs : st i' = none := Decidable.byContradiction fun q => q (by rw [← h.old _ q]; exact hi)
  refine ⟨fun y e => ?_, fun j hj => ?_⟩
  · injection e with e; subst e
    exact ⟨upd_same _ _ _, hs⟩
  · rw [upd_ne fun e => hj (by rw [e]; exact hs), upd_ne fun e => hj (by rw [e]; exact (h.arr y rfl).2)]; exact h.old j hj
theorem less_pc (l : List Sn) (x : Sn) (hl : l.length ≤ 100000) (st : Store) : PC Tryz.prog 50 [.seq (l.map Sn.cells), .agg x.cells] st fun r S => ∃ b, r = spF (shp b) ∧ lst b = lessP x l ∧ LS st b S := by
  have hB := bytesS
  refine pc_of tt_ok Tryz.func50 (by kernel_rfl) rfl rfl rfl rfl ?_
  (try (apply wO pk; exact rfl)); (repeat' (first | exact All.nil | refine All.cons ?_ ?_ | (apply wC pk; exact rfl; exact rfl) | (apply wE pk; exact rfl; exact rfl) | (apply wX pk; exact rfl) | (apply wN pk; exact rfl) | (apply wD pk [] []; kernel_rfl; exact rfl; exact rfl) | exact Imp.one | exact Imp.same | refine Imp.left ?_ | exact ImpX.one | exact ImpX.same | exact ImpX.mk | refine ImpX.up ?_ | refine ImpX.old ?_ | (apply pwp_condC; simp only [cond_true, cond_false]) | (refine pwp_cond rfl (fun h => ?_) (fun h => ?_) <;> (try simp at h) <;> (first | done | (exfalso; omega) | skip)) | (refine pwp_ret ?_; refine ⟨_, _, _, rfl, Wk.refl _, StSub.refl _, ?_, rfl⟩; (first | rfl | skip)) | (intros; omega) | (intros; simp only [List.length_map]; omega)))
  refine pwp_loop (X := { w : Nat × Option (Nat × List Sn) × Store // w.1 ≤ l.length ∧ LS st w.2.1 w.2.2 ∧ lst w.2.1 ++ lessP x (l.drop w.1) = lessP x l }) (fun i => ((((((St.nil 50 (i.1.2.2)).var 3 77 (x.cells)).pv 5 (spF (shp i.1.2.1))).pv 10 (.seq (l.map Sn.cells))).pv 11 ((PV.val (Value.int .i64 ((((l.map Sn.cells)).length : Nat)))))).pv 12 ((PV.val (Value.int .i64 ((i.1.1 : Nat))))))) (fun i => l.length - i.1.1) ⟨(0, none, st), by simp, ⟨fun _ e => (by cases e), fun _ _ => rfl⟩, rfl⟩ ?_ (fun i => ?_)
  · (first | exact Sub.nil _ _ _ (StSub.refl _) rfl | ((repeat (first | refine Sub.pv ?_ rfl | refine Sub.var ?_ rfl rfl)); (first | exact Sub.nil _ _ _ (StSub.refl _) rfl | exact Sub.nil _ _ _ (stsub_swap (by assumption)) rfl | exact Sub.nil _ _ _ (stsub_eq (by first | rfl | exact upd_eta (by assumption) | ((simp only [St.pv, St.put, St.sst, St.setv, St.nil, St.var, upd_upd]); first | done | rfl))) rfl | (refine Sub.nil _ _ _ (stsub_eq ?_) rfl; (simp only [St.pv, St.put, St.sst, St.setv, St.nil, St.var, upd_upd]); (rw [upd4 (by assumption)]); first | done | rfl))))
  obtain ⟨⟨i, b, S⟩, hi, hS, hinv⟩ := i
  simp only at hi hS hinv
  dsimp only
  have hlen := lessP_len x l
  by_cases hend : l.length ≤ i
  · have e : l.drop i = [] := List.drop_eq_nil_of_le hend
    rw [e, lessP, List.append_nil] at hinv
    (try (apply wO pk; exact rfl)); (repeat' (first | exact All.nil | refine All.cons ?_ ?_ | (apply wC pk; exact rfl; exact rfl) | (apply wE pk; exact rfl; exact rfl) | (apply wX pk; exact rfl) | (apply wN pk; exact rfl) | (apply wDx pk; exact rfl; kernel_rfl; exact rfl; exact rfl) | exact Imp.one | exact Imp.same | refine Imp.left ?_ | exact ImpX.one | exact ImpX.same | exact ImpX.mk | refine ImpX.up ?_ | refine ImpX.old ?_ | (apply pwp_condC; simp only [cond_true, cond_false]) | (refine pwp_cond rfl (fun h => ?_) (fun h => ?_) <;> (try simp at h) <;> (first | done | (exfalso; omega) | skip)) | ((try refine pwp_ret ?_); (first | (refine ⟨_, _, _, rfl, Wk.refl _, StSub.refl _, ?_⟩; (exact ⟨b, rfl, hinv, hS⟩); done) | (refine ⟨_, _, ?zs, rfl, Wk.refl _, ?zh, ?zr⟩; (case zh => (refine stsub_over ?_ (by assumption); (repeat refine stsub_over ?_ (by assumption)); exact StSub.refl _)); (case zr => (exact ⟨b, rfl, hinv, hS⟩))) | refine ⟨_, _, _, rfl, Wk.refl _, StSub.refl _, ?_⟩)) | (apply ncA; exact rfl; exact rfl; exact rfl; rotate_left; exact rfl; exact rfl) | (apply ldR pk; exact rfl; exact rfl; rotate_left; exact rfl; (first | exact upd_same _ _ _ | assumption | (focus ((repeat (first | exact upd_same _ _ _ | assumption | refine (upd_ne (by assumption)).trans ?_)); done))); exact rfl; exact rfl) | (apply stR pk; exact rfl; exact rfl; (first | exact upd_same _ _ _ | assumption | (focus ((repeat (first | exact upd_same _ _ _ | assumption | refine (upd_ne (by assumption)).trans ?_)); done))); exact rfl; exact rfl) | (intros; omega) | (intros; simp only [List.length_map]; omega)))
  have hlt : i < l.length := by omega
  rw [List.drop_eq_getElem_cons hlt, lessP] at hinv
  (try (apply wO pk; exact rfl)); (repeat' (first | exact All.nil | refine All.cons ?_ ?_ | (apply wC pk; exact rfl; exact rfl) | (apply wE pk; exact rfl; exact rfl) | (apply wX pk; exact rfl) | (apply wN pk; exact rfl) | (apply wD pk [] []; kernel_rfl; exact rfl; exact rfl) | exact Imp.one | exact Imp.same | refine Imp.left ?_ | exact ImpX.one | exact ImpX.same | exact ImpX.mk | refine ImpX.up ?_ | refine ImpX.old ?_ | (apply pwp_condC; simp only [cond_true, cond_false]) | (refine pwp_cond rfl (fun h => ?_) (fun h => ?_) <;> (try simp at h) <;> (first | done | (exfalso; omega) | skip)) | (refine pwp_ret ?_; refine ⟨_, _, _, rfl, Wk.refl _, StSub.refl _, ?_, rfl⟩; (first | rfl | skip)) | (apply idxS pk; exact rfl; exact rfl; exact rfl; exact rfl; exact rfl; exact rfl; rotate_left; exact rfl; (intro _; exact rfl); (intro _; apply get_map <;> omega); (intro _; exact rfl); exact rfl) | (intros; omega) | (intros; simp only [List.length_map]; omega)))
  refine pwp_loop (X := { w : Nat × Option (Nat × List Sn) × Store // w.1 ≤ 2 ∧ LS st w.2.1 w.2.2 ∧ lst w.2.1 ++ (keepS ((two x l[i]).drop w.1) ++ lessP x (l.drop (i + 1))) = lessP x l }) (fun y => (((((((((St.nil 50 (y.1.2.2)).var 3 77 (x.cells)).pv 5 (spF (shp y.1.2.1))).pv 10 (.seq (l.map Sn.cells))).pv 11 ((PV.val (Value.int .i64 ((((l.map Sn.cells)).length : Nat)))))).pv 12 ((PV.val (Value.int .i64 ((i : Nat)))))).pv 32 (.seq ((two x l[i]).map Sn.cells))).pv 33 ((PV.val (Value.int .i64 (2))))).pv 34 ((PV.val (Value.int .i64 ((y.1.1 : Nat))))))) (fun y => 2 - y.1.1) ⟨(0, b, S), by simp, hS, hinv⟩ ?_ (fun y => ?_)
  · (first | exact Sub.nil _ _ _ (StSub.refl _) rfl | ((repeat (first | refine Sub.pv ?_ rfl | refine Sub.var ?_ rfl rfl | refine Sub.pv' ?_ rfl (by first | rfl | simp) | refine Sub.var' ?_ rfl rfl (by first | rfl | simp))); (first | exact Sub.nil _ _ _ (StSub.refl _) rfl | exact Sub.nil _ _ _ (stsub_swap (by assumption)) rfl | exact Sub.nil _ _ _ (stsub_eq (by first | rfl | exact upd_eta (by assumption) | ((simp only [St.pv, St.put, St.sst, St.setv, St.nil, St.var, upd_upd]); first | done | rfl))) rfl | (refine Sub.nil _ _ _ (stsub_eq ?_) rfl; (simp only [St.pv, St.put, St.sst, St.setv, St.nil, St.var, upd_upd]); (rw [upd4 (by assumption)]); first | done | rfl))))
  obtain ⟨⟨j, c, S2⟩, hj, hS2, hinv2⟩ := y
  simp only at hj hS2 hinv2
  dsimp only
  have hcl : (lst c).length ≤ 200000 := by
    have := congrArg List.length hinv2
    rw [List.length_append] at this
    omega
  by_cases hend2 : 2 ≤ j
  · have e : (two x l[i]).drop j = [] := List.drop_eq_nil_of_le (by simpa [two] using hend2)
    rw [e] at hinv2
    have hinv2 : lst c ++ lessP x (l.drop (i + 1)) = lessP x l := hinv2
    (try (apply wO pk; exact rfl)); (repeat' (first | exact All.nil | refine All.cons ?_ ?_ | (apply wC pk; exact rfl; exact rfl) | (apply wE pk; exact rfl; exact rfl) | (apply wX pk; exact rfl) | (apply wN pk; exact rfl) | (apply wD pk [] []; kernel_rfl; exact rfl; exact rfl) | exact Imp.one | exact Imp.same | refine Imp.left ?_ | exact ImpX.one | exact ImpX.same | exact ImpX.mk | refine ImpX.up ?_ | refine ImpX.old ?_ | (apply pwp_condC; simp only [cond_true, cond_false]) | (refine pwp_cond rfl (fun h => ?_) (fun h => ?_) <;> (try simp at h) <;> (first | done | (exfalso; omega) | skip)) | (refine pwp_ret ?_; refine ⟨_, _, _, rfl, Wk.refl _, StSub.refl _, ?_, rfl⟩; (first | rfl | skip)) | (refine ⟨⟨(i + 1, c, S2), by simp only; omega, hS2, hinv2⟩, ?_, by simp only; omega⟩; (first | exact Sub.nil _ _ _ (StSub.refl _) rfl | ((repeat (first | refine Sub.pv ?_ rfl | refine Sub.var ?_ rfl rfl)); (first | exact Sub.nil _ _ _ (StSub.refl _) rfl | exact Sub.nil _ _ _ (stsub_swap (by assumption)) rfl | exact Sub.nil _ _ _ (stsub_eq (by first | rfl | exact upd_eta (by assumption) | ((simp only [St.pv, St.put, St.sst, St.setv, St.nil, St.var, upd_upd]); first | done | rfl))) rfl | (refine Sub.nil _ _ _ (stsub_eq ?_) rfl; (simp only [St.pv, St.put, St.sst, St.setv, St.nil, St.var, upd_upd]); (rw [upd4 (by assumption)]); first | done | rfl))))) | (intros; omega) | (intros; simp only [List.length_map]; omega)))
  have hl2 : (two x l[i]).length = 2 := rfl
  have hj2 : j < (two x l[i]).length := by omega
  have hrow : ((two x l[i]).map Sn.cells)[j]? = some ((two x l[i])[j]).cells := by simp [hj2]
  rw [List.drop_eq_getElem_cons hj2] at hinv2
  generalize (two x l[i])[j] = z at *
  have hyes : z.lo < z.hi → (lst c ++ [z]) ++ (keepS ((two x l[i]).drop (j + 1)) ++ lessP x (l.drop (i + 1))) = lessP x l := fun h => by
    rw [keepS, List.filter_cons_of_pos (by simpa using h)] at hinv2
    rw [← hinv2]; simp [keepS]
  have hno : ¬ z.lo < z.hi → lst c ++ (keepS ((two x l[i]).drop (j + 1)) ++ lessP x (l.drop (i + 1))) = lessP x l := fun h => by
    rw [keepS, List.filter_cons_of_neg (by simpa using h)] at hinv2
    exact hinv2
  cases c with
  | none =>
    (try (apply wO pk; exact rfl)); (repeat' (first | exact All.nil | refine All.cons ?_ ?_ | (apply wC pk; exact rfl; exact rfl) | (apply wE pk; exact rfl; exact rfl) | (apply wX pk; exact rfl) | (apply wN pk; exact rfl) | (apply wD pk [] []; kernel_rfl; exact rfl; exact rfl) | exact Imp.one | exact Imp.same | refine Imp.left ?_ | exact ImpX.one | exact ImpX.same | exact ImpX.mk | refine ImpX.up ?_ | refine ImpX.old ?_ | (apply pwp_condC; simp only [cond_true, cond_false]) | (refine pwp_cond rfl (fun h => ?_) (fun h => ?_) <;> (try simp at h) <;> (first | done | (exfalso; omega) | skip)) | (refine pwp_ret ?_; refine ⟨_, _, _, rfl, Wk.refl _, StSub.refl _, ?_, rfl⟩; (first | rfl | skip)) | (apply idxS pk; exact rfl; exact rfl; exact rfl; exact rfl; exact rfl; exact rfl; rotate_left; exact rfl; (intro _; exact rfl); (intro _; apply hrow <;> omega); (intro _; exact rfl); exact rfl) | (apply apV pk (f := Sn.cells) [z] 16; exact rfl; exact rfl; exact rfl; exact rfl; exact rfl; exact rfl; exact rfl; exact rfl; exact rfl; (first | exact upd_same _ _ _ | assumption | (focus ((repeat (first | exact upd_same _ _ _ | assumption | refine (upd_ne (by assumption)).trans ?_)); done))); (first | omega | assumption | (focus (simp; done)) | (focus (simp; omega)) | (focus (simp at *; omega))); exact fun _ => rfl; exact fun _ => rfl; exact hB; (first | omega | assumption | (focus (simp; done)) | (focus (simp; omega)) | (focus (simp at *; omega))); (first | omega | assumption | (focus (simp; done)) | (focus (simp; omega)) | (focus (simp at *; omega))); exact rfl; intro id' hid') | (apply ap0 pk (f := Sn.cells) [z] 16; exact rfl; exact rfl; exact rfl; exact rfl; exact rfl; exact rfl; exact rfl; exact rfl; exact rfl; exact rfl; exact fun _ => rfl; exact fun _ => rfl; exact hB; (first | omega | assumption | (focus (simp; done)) | (focus (simp; omega)) | (focus (simp at *; omega))); (first | omega | assumption | (focus (simp; done)) | (focus (simp; omega)) | (focus (simp at *; omega))); exact rfl; intro id' hid') | (refine ⟨⟨(j + 1, none, S2), by simp only; omega, hS2, hno (by omega)⟩, ?_, by simp only; omega⟩; (first | exact Sub.nil _ _ _ (StSub.refl _) rfl | ((repeat (first | refine Sub.pv ?_ rfl | refine Sub.var ?_ rfl rfl)); (first | exact Sub.nil _ _ _ (StSub.refl _) rfl | exact Sub.nil _ _ _ (stsub_swap (by assumption)) rfl | exact Sub.nil _ _ _ (stsub_eq (by first | rfl | exact upd_eta (by assumption) | ((simp only [St.pv, St.put, St.sst, St.setv, St.nil, St.var, upd_upd]); first | done | rfl))) rfl | (refine Sub.nil _ _ _ (stsub_eq ?_) rfl; (simp only [St.pv, St.put, St.sst, St.setv, St.nil, St.var, upd_upd]); (rw [upd4 (by assumption)]); first | done | rfl))))) | (refine ⟨⟨(j + 1, some (id', [z]), _), by simp only; omega, hS2.zero hid' [z], hyes (by omega)⟩, ?_, by simp only; omega⟩; (first | exact Sub.nil _ _ _ (StSub.refl _) rfl | ((repeat (first | refine Sub.pv ?_ rfl | refine Sub.var ?_ rfl rfl)); (first | exact Sub.nil _ _ _ (StSub.refl _) rfl | exact Sub.nil _ _ _ (stsub_swap (by assumption)) rfl | exact Sub.nil _ _ _ (stsub_eq (by first | rfl | exact upd_eta (by assumption) | ((simp only [St.pv, St.put, St.sst, St.setv, St.nil, St.var, upd_upd]); first | done | rfl))) rfl | (refine Sub.nil _ _ _ (stsub_eq ?_) rfl; (simp only [St.pv, St.put, St.sst, St.setv, St.nil, St.var, upd_upd]); (rw [upd4 (by assumption)]); first | done | rfl))))) | (intros; omega) | (intros; simp only [List.length_map]; omega)))
  | some y =>
    have hy := (hS2.arr y rfl).1
    have hyl : y.2.length ≤ 200000 := hcl
    (try (apply wO pk; exact rfl)); (repeat' (first | exact All.nil | refine All.cons ?_ ?_ | (apply wC pk; exact rfl; exact rfl) | (apply wE pk; exact rfl; exact rfl) | (apply wX pk; exact rfl) | (apply wN pk; exact rfl) | (apply wD pk [] []; kernel_rfl; exact rfl; exact rfl) | exact Imp.one | exact Imp.same | refine Imp.left ?_ | exact ImpX.one | exact ImpX.same | exact ImpX.mk | refine ImpX.up ?_ | refine ImpX.old ?_ | (apply pwp_condC; simp only [cond_true, cond_false]) | (refine pwp_cond rfl (fun h => ?_) (fun h => ?_) <;> (try simp at h) <;> (first | done | (exfalso; omega) | skip)) | (refine pwp_ret ?_; refine ⟨_, _, _, rfl, Wk.refl _, StSub.refl _, ?_, rfl⟩; (first | rfl | skip)) | (apply idxS pk; exact rfl; exact rfl; exact rfl; exact rfl; exact rfl; exact rfl; rotate_left; exact rfl; (intro _; exact rfl); (intro _; apply hrow <;> omega); (intro _; exact rfl); exact rfl) | (apply apV pk (f := Sn.cells) (xs := y.2) [z] 16; exact rfl; exact rfl; exact rfl; exact rfl; exact rfl; exact rfl; exact rfl; exact rfl; exact rfl; exact hy; exact rfl; exact fun _ => rfl; exact fun _ => rfl; exact hB; (simp only [List.length_cons, List.length_nil]; omega); (simp only [List.length_cons, List.length_nil]; omega); exact rfl; intro id' hid') | (refine ⟨⟨(j + 1, some y, S2), by simp only; omega, hS2, hno (by omega)⟩, ?_, by simp only; omega⟩; (first | exact Sub.nil _ _ _ (StSub.refl _) rfl | ((repeat (first | refine Sub.pv ?_ rfl | refine Sub.var ?_ rfl rfl)); (first | exact Sub.nil _ _ _ (StSub.refl _) rfl | exact Sub.nil _ _ _ (stsub_swap (by assumption)) rfl | exact Sub.nil _ _ _ (stsub_eq (by first | rfl | exact upd_eta (by assumption) | ((simp only [St.pv, St.put, St.sst, St.setv, St.nil, St.var, upd_upd]); first | done | rfl))) rfl | (refine Sub.nil _ _ _ (stsub_eq ?_) rfl; (simp only [St.pv, St.put, St.sst, St.setv, St.nil, St.var, upd_upd]); (rw [upd4 (by assumption)]); first | done | rfl))))) | (intros; omega) | (intros; simp only [List.length_map]; omega)))
    have hg := hS2.grow hid' (y.2 ++ [z])
    refine ⟨⟨(j + 1, some (id', y.2 ++ [z]), _), by simp only; omega, hg, hyes (by omega)⟩, ?_, by simp only; omega⟩
    rw [show shp (some (id', y.2 ++ [z])) = some (id', y.2.length + [z].length) from by simp [shp]]
    (first | exact Sub.nil _ _ _ (StSub.refl _) rfl | ((repeat (first | refine Sub.pv ?_ rfl | refine Sub.var ?_ rfl rfl)); (first | exact Sub.nil _ _ _ (StSub.refl _) rfl | exact Sub.nil _ _ _ (stsub_swap (by assumption)) rfl | exact Sub.nil _ _ _ (stsub_eq (by first | rfl | exact upd_eta (by assumption) | ((simp only [St.pv, St.put, St.sst, St.setv, St.nil, St.var, upd_upd]); first | done | rfl))) rfl | (refine Sub.nil _ _ _ (stsub_eq ?_) rfl; (simp only [St.pv, St.put, St.sst, St.setv, St.nil, St.var, upd_upd]); (rw [upd4 (by assumption)]); first | done | rfl))))
end Go.Proofs.YtbcdgocepnkpeaaGreat
