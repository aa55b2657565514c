import Derived.Test.YtbcdgocepnkpeaaRtHand
set_option linter.unusedSimpArgs false
set_option linter.unusedVariables false
namespace Go.Proofs.Ytbcdgocepnkpeaa
open Go Go.Abs
attribute [local irreducible] Ev PWp
set_option maxRecDepth 10000
set_option maxHeartbeats 4000000
theorem lessV_pc (l : List Sn) (x : Sn) (hl : l.length ≤ 100000) {id n : Nat} (st : Store) (hst : st id = some (.arr 80 (l.map Sn.cells))) (hn : l.length = n) : PC Try.prog 34 [.vec id 2 0 n, .agg x.cells] st fun r S => ∃ b, r = spF (shp b) ∧ lst b = lessP x l ∧ LS st b S := by
  have hB := bytesS
  have hne : st id ≠ none := by rw [hst]; simp
  refine pc_of tt_ok Try.func34 (by kernel_rfl) rfl rfl rfl rfl ?_
  (try (apply wO pk; exact rfl)); (repeat' (first | exact All.nil | refine All.cons ?_ ?_ | (apply wC pk; exact rfl; exact rfl) | (apply wE pk; exact rfl; exact rfl) | (apply wX pk; exact rfl) | (apply wN pk; exact rfl) | (apply wD pk [] []; kernel_rfl; exact rfl; exact rfl) | exact Imp.one | exact Imp.same | refine Imp.left ?_ | exact ImpX.one | exact ImpX.same | exact ImpX.mk | refine ImpX.up ?_ | refine ImpX.old ?_ | (apply pwp_condC; simp only [cond_true, cond_false]) | (refine pwp_cond rfl (fun h => ?_) (fun h => ?_) <;> (try simp at h) <;> (first | done | (exfalso; omega) | skip)) | (refine pwp_ret ?_; refine ⟨_, _, _, rfl, Wk.refl _, StSub.refl _, ?_, rfl⟩; (first | rfl | skip)) | (intros; omega) | (intros; simp only [List.length_map]; omega)))
  refine pwp_loop (X := { w : Nat × Option (Nat × List Sn) × Store // w.1 ≤ l.length ∧ LS st w.2.1 w.2.2 ∧ lst w.2.1 ++ lessP x (l.drop w.1) = lessP x l }) (fun i => ((((((St.nil 50 (i.1.2.2)).var 3 80 (x.cells)).pv 5 (spF (shp i.1.2.1))).pv 10 (.vec id 2 0 n)).pv 11 ((PV.val (Value.int .i64 ((n : Nat)))))).pv 12 ((PV.val (Value.int .i64 ((i.1.1 : Nat))))))) (fun i => l.length - i.1.1) ⟨(0, none, st), by simp, ⟨fun _ e => (by cases e), fun _ _ => rfl⟩, rfl⟩ ?_ (fun i => ?_)
  · (first | exact Sub.nil _ _ _ (StSub.refl _) rfl | ((repeat (first | refine Sub.pv ?_ rfl | refine Sub.var ?_ rfl rfl)); (first | exact Sub.nil _ _ _ (StSub.refl _) rfl | exact Sub.nil _ _ _ (stsub_swap (by assumption)) rfl | exact Sub.nil _ _ _ (stsub_eq (by first | rfl | exact upd_eta (by assumption) | ((simp only [St.pv, St.put, St.sst, St.setv, St.nil, St.var, upd_upd]); first | done | rfl))) rfl | (refine Sub.nil _ _ _ (stsub_eq ?_) rfl; (simp only [St.pv, St.put, St.sst, St.setv, St.nil, St.var, upd_upd]); (rw [upd4 (by assumption)]); first | done | rfl))))
  obtain ⟨⟨i, b, S⟩, hi, hS, hinv⟩ := i
  simp only at hi hS hinv
  dsimp only
  have hlen := lessP_len x l
  have hSa := (hS.old id hne).trans hst
  by_cases hend : l.length ≤ i
  · have e : l.drop i = [] := List.drop_eq_nil_of_le hend
    rw [e, lessP, List.append_nil] at hinv
    (try (apply wO pk; exact rfl)); (repeat' (first | exact All.nil | refine All.cons ?_ ?_ | (apply wC pk; exact rfl; exact rfl) | (apply wE pk; exact rfl; exact rfl) | (apply wX pk; exact rfl) | (apply wN pk; exact rfl) | (apply wDx pk; exact rfl; kernel_rfl; exact rfl; exact rfl) | exact Imp.one | exact Imp.same | refine Imp.left ?_ | exact ImpX.one | exact ImpX.same | exact ImpX.mk | refine ImpX.up ?_ | refine ImpX.old ?_ | (apply pwp_condC; simp only [cond_true, cond_false]) | (refine pwp_cond rfl (fun h => ?_) (fun h => ?_) <;> (try simp at h) <;> (first | done | (exfalso; omega) | skip)) | ((try refine pwp_ret ?_); (first | (refine ⟨_, _, _, rfl, Wk.refl _, StSub.refl _, ?_⟩; (exact ⟨b, rfl, hinv, hS⟩); done) | (refine ⟨_, _, ?zs, rfl, Wk.refl _, ?zh, ?zr⟩; (case zh => (refine stsub_over ?_ (by assumption); (repeat refine stsub_over ?_ (by assumption)); exact StSub.refl _)); (case zr => (exact ⟨b, rfl, hinv, hS⟩))) | refine ⟨_, _, _, rfl, Wk.refl _, StSub.refl _, ?_⟩)) | (apply ncA; exact rfl; exact rfl; exact rfl; rotate_left; exact rfl; exact rfl) | (apply ldR pk; exact rfl; exact rfl; rotate_left; exact rfl; (first | exact upd_same _ _ _ | assumption | (focus ((repeat (first | exact upd_same _ _ _ | assumption | refine (upd_ne (by assumption)).trans ?_)); done))); exact rfl; exact rfl) | (apply stR pk; exact rfl; exact rfl; (first | exact upd_same _ _ _ | assumption | (focus ((repeat (first | exact upd_same _ _ _ | assumption | refine (upd_ne (by assumption)).trans ?_)); done))); exact rfl; exact rfl) | (intros; omega) | (intros; simp only [List.length_map]; omega)))
  have hlt : i < l.length := by omega
  rw [List.drop_eq_getElem_cons hlt, lessP] at hinv
  (try (apply wO pk; exact rfl)); (repeat' (first | exact All.nil | refine All.cons ?_ ?_ | (apply wC pk; exact rfl; exact rfl) | (apply wE pk; exact rfl; exact rfl) | (apply wX pk; exact rfl) | (apply wN pk; exact rfl) | (apply wDx pk; exact rfl; kernel_rfl; exact rfl; exact rfl) | exact Imp.one | exact Imp.same | refine Imp.left ?_ | exact ImpX.one | exact ImpX.same | exact ImpX.mk | refine ImpX.up ?_ | refine ImpX.old ?_ | (apply pwp_condC; simp only [cond_true, cond_false]) | (refine pwp_cond rfl (fun h => ?_) (fun h => ?_) <;> (try simp at h) <;> (first | done | (exfalso; omega) | skip)) | (refine pwp_ret ?_; refine ⟨_, _, _, rfl, Wk.refl _, StSub.refl _, ?_, rfl⟩; (first | rfl | skip)) | (apply ncA; exact rfl; exact rfl; exact rfl; rotate_left; exact rfl; exact rfl) | (apply ldR pk; exact rfl; exact rfl; rotate_left; exact rfl; (first | exact upd_same _ _ _ | assumption | (focus ((repeat (first | exact upd_same _ _ _ | assumption | refine (upd_ne (by assumption)).trans ?_)); done))); exact rfl; exact rfl) | (apply stR pk; exact rfl; exact rfl; (first | exact upd_same _ _ _ | assumption | (focus ((repeat (first | exact upd_same _ _ _ | assumption | refine (upd_ne (by assumption)).trans ?_)); done))); exact rfl; exact rfl) | (apply ldL pk Sn.elem (a := (l[i]'(by assumption))); exact rfl; exact rfl; rotate_left; exact rfl; (first | exact upd_same _ _ _ | assumption | (focus ((repeat (first | exact upd_same _ _ _ | assumption | refine (upd_ne (by assumption)).trans ?_)); done))); (intro _; exact (by simp [hlt])); exact rfl) | (apply ixA pk; exact rfl; exact rfl; exact rfl; exact rfl; exact rfl; rotate_left; exact rfl; (intro hw; (first | exact (show _ = ((i : Nat) : Int) from by omega) | (simp [gw] at hw; first | exact (show _ = ((i : Nat) : Int) from by omega) | (refine (show _ = ((0 : Nat) : Int) from ?_); omega)) | exact rfl)); (intro hw; (first | omega | (simp [gw] at hw; omega) | (simp only [Array.size_setIfInBounds]; omega))); exact rfl; exact Nat.zero_add _) | (apply ldA pk Sn.elem; exact rfl; exact rfl; rotate_left; exact rfl; (first | exact upd_same _ _ _ | assumption | (focus ((repeat (first | exact upd_same _ _ _ | assumption | refine (upd_ne (by assumption)).trans ?_)); done))); (intro hw; (first | omega | (simp [gw] at hw; omega) | (simp only [Array.size_setIfInBounds]; omega))); exact rfl) | (apply stA pk Sn.elem; exact rfl; exact rfl; exact rfl; (first | exact upd_same _ _ _ | assumption | (focus ((repeat (first | exact upd_same _ _ _ | assumption | refine (upd_ne (by assumption)).trans ?_)); done))); (first | omega | (simp only [Array.size_setIfInBounds]; omega)); exact rfl) | (intros; omega) | (intros; simp only [List.length_map]; omega)))
  refine pwp_loop (X := { w : Nat × Option (Nat × List Sn) × Store // w.1 ≤ 2 ∧ LS st w.2.1 w.2.2 ∧ lst w.2.1 ++ (keepS ((two x l[i]).drop w.1) ++ lessP x (l.drop (i + 1))) = lessP x l }) (fun y => (((((((((St.nil 50 (y.1.2.2)).var 3 80 (x.cells)).pv 5 (spF (shp y.1.2.1))).pv 10 (.vec id 2 0 n)).pv 11 ((PV.val (Value.int .i64 ((n : Nat)))))).pv 12 ((PV.val (Value.int .i64 ((i : Nat)))))).pv 32 (.seq ((two x l[i]).map Sn.cells))).pv 33 ((PV.val (Value.int .i64 (2))))).pv 34 ((PV.val (Value.int .i64 ((y.1.1 : Nat))))))) (fun y => 2 - y.1.1) ⟨(0, b, S), by simp, hS, hinv⟩ ?_ (fun y => ?_)
  · (first | exact Sub.nil _ _ _ (StSub.refl _) rfl | ((repeat (first | refine Sub.pv ?_ rfl | refine Sub.var ?_ rfl rfl | refine Sub.pv' ?_ rfl (by first | rfl | simp) | refine Sub.var' ?_ rfl rfl (by first | rfl | simp))); (first | exact Sub.nil _ _ _ (StSub.refl _) rfl | exact Sub.nil _ _ _ (stsub_swap (by assumption)) rfl | exact Sub.nil _ _ _ (stsub_eq (by first | rfl | exact upd_eta (by assumption) | ((simp only [St.pv, St.put, St.sst, St.setv, St.nil, St.var, upd_upd]); first | done | rfl))) rfl | (refine Sub.nil _ _ _ (stsub_eq ?_) rfl; (simp only [St.pv, St.put, St.sst, St.setv, St.nil, St.var, upd_upd]); (rw [upd4 (by assumption)]); first | done | rfl))))
  obtain ⟨⟨j, c, S2⟩, hj, hS2, hinv2⟩ := y
  simp only at hj hS2 hinv2
  dsimp only
  have hcl : (lst c).length ≤ 200000 := by
    have := congrArg List.length hinv2
    rw [List.length_append] at this
    omega
  by_cases hend2 : 2 ≤ j
  · have e : (two x l[i]).drop j = [] := List.drop_eq_nil_of_le (by simpa [two] using hend2)
    rw [e] at hinv2
    have hinv2 : lst c ++ lessP x (l.drop (i + 1)) = lessP x l := hinv2
    (try (apply wO pk; exact rfl)); (repeat' (first | exact All.nil | refine All.cons ?_ ?_ | (apply wC pk; exact rfl; exact rfl) | (apply wE pk; exact rfl; exact rfl) | (apply wX pk; exact rfl) | (apply wN pk; exact rfl) | (apply wD pk [] []; kernel_rfl; exact rfl; exact rfl) | exact Imp.one | exact Imp.same | refine Imp.left ?_ | exact ImpX.one | exact ImpX.same | exact ImpX.mk | refine ImpX.up ?_ | refine ImpX.old ?_ | (apply pwp_condC; simp only [cond_true, cond_false]) | (refine pwp_cond rfl (fun h => ?_) (fun h => ?_) <;> (try simp at h) <;> (first | done | (exfalso; omega) | skip)) | (refine pwp_ret ?_; refine ⟨_, _, _, rfl, Wk.refl _, StSub.refl _, ?_, rfl⟩; (first | rfl | skip)) | (refine ⟨⟨(i + 1, c, S2), by simp only; omega, hS2, hinv2⟩, ?_, by simp only; omega⟩; (first | exact Sub.nil _ _ _ (StSub.refl _) rfl | ((repeat (first | refine Sub.pv ?_ rfl | refine Sub.var ?_ rfl rfl)); (first | exact Sub.nil _ _ _ (StSub.refl _) rfl | exact Sub.nil _ _ _ (stsub_swap (by assumption)) rfl | exact Sub.nil _ _ _ (stsub_eq (by first | rfl | exact upd_eta (by assumption) | ((simp only [St.pv, St.put, St.sst, St.setv, St.nil, St.var, upd_upd]); first | done | rfl))) rfl | (refine Sub.nil _ _ _ (stsub_eq ?_) rfl; (simp only [St.pv, St.put, St.sst, St.setv, St.nil, St.var, upd_upd]); (rw [upd4 (by assumption)]); first | done | rfl))))) | (intros; omega) | (intros; simp only [List.length_map]; omega)))
  have hl2 : (two x l[i]).length = 2 := rfl
  have hj2 : j < (two x l[i]).length := by omega
  have hrow : ((two x l[i]).map Sn.cells)[j]? = some ((two x l[i])[j]).cells := by simp [hj2]
  rw [List.drop_eq_getElem_cons hj2] at hinv2
  generalize (two x l[i])[j] = z at *
  have hyes : z.lo < z.hi → (lst c ++ [z]) ++ (keepS ((two x l[i]).drop (j + 1)) ++ lessP x (l.drop (i + 1))) = lessP x l := fun h => by
    rw [keepS, List.filter_cons_of_pos (by simpa using h)] at hinv2
    rw [← hinv2]; simp [keepS]
  have hno : ¬ z.lo < z.hi → lst c ++ (keepS ((two x l[i]).drop (j + 1)) ++ lessP x (l.drop (i + 1))) = lessP x l := fun h => by
    rw [keepS, List.filter_cons_of_neg (by simpa using h)] at hinv2
    exact hinv2
  cases c with
  | none =>
    (try (apply wO pk; exact rfl)); (repeat' (first | exact All.nil | refine All.cons ?_ ?_ | (apply wC pk; exact rfl; exact rfl) | (apply wE pk; exact rfl; exact rfl) | (apply wX pk; exact rfl) | (apply wN pk; exact rfl) | (apply wD pk [] []; kernel_rfl; exact rfl; exact rfl) | exact Imp.one | exact Imp.same | refine Imp.left ?_ | exact ImpX.one | exact ImpX.same | exact ImpX.mk | refine ImpX.up ?_ | refine ImpX.old ?_ | (apply pwp_condC; simp only [cond_true, cond_false]) | (refine pwp_cond rfl (fun h => ?_) (fun h => ?_) <;> (try simp at h) <;> (first | done | (exfalso; omega) | skip)) | (refine pwp_ret ?_; refine ⟨_, _, _, rfl, Wk.refl _, StSub.refl _, ?_, rfl⟩; (first | rfl | skip)) | (apply idxS pk; exact rfl; exact rfl; exact rfl; exact rfl; exact rfl; exact rfl; rotate_left; exact rfl; (intro _; exact rfl); (intro _; apply hrow <;> omega); (intro _; exact rfl); exact rfl) | (apply apV pk (f := Sn.cells) [z] 16; exact rfl; exact rfl; exact rfl; exact rfl; exact rfl; exact rfl; exact rfl; exact rfl; exact rfl; (first | exact upd_same _ _ _ | assumption | (focus ((repeat (first | exact upd_same _ _ _ | assumption | refine (upd_ne (by assumption)).trans ?_)); done))); (first | omega | assumption | (focus (simp; done)) | (focus (simp; omega)) | (focus (simp at *; omega))); exact fun _ => rfl; exact fun _ => rfl; exact hB; (first | omega | assumption | (focus (simp; done)) | (focus (simp; omega)) | (focus (simp at *; omega))); (first | omega | assumption | (focus (simp; done)) | (focus (simp; omega)) | (focus (simp at *; omega))); exact rfl; intro id' hid') | (apply ap0 pk (f := Sn.cells) [z] 16; exact rfl; exact rfl; exact rfl; exact rfl; exact rfl; exact rfl; exact rfl; exact rfl; exact rfl; exact rfl; exact fun _ => rfl; exact fun _ => rfl; exact hB; (first | omega | assumption | (focus (simp; done)) | (focus (simp; omega)) | (focus (simp at *; omega))); (first | omega | assumption | (focus (simp; done)) | (focus (simp; omega)) | (focus (simp at *; omega))); exact rfl; intro id' hid') | (refine ⟨⟨(j + 1, none, S2), by simp only; omega, hS2, hno (by omega)⟩, ?_, by simp only; omega⟩; (first | exact Sub.nil _ _ _ (StSub.refl _) rfl | ((repeat (first | refine Sub.pv ?_ rfl | refine Sub.var ?_ rfl rfl)); (first | exact Sub.nil _ _ _ (StSub.refl _) rfl | exact Sub.nil _ _ _ (stsub_swap (by assumption)) rfl | exact Sub.nil _ _ _ (stsub_eq (by first | rfl | exact upd_eta (by assumption) | ((simp only [St.pv, St.put, St.sst, St.setv, St.nil, St.var, upd_upd]); first | done | rfl))) rfl | (refine Sub.nil _ _ _ (stsub_eq ?_) rfl; (simp only [St.pv, St.put, St.sst, St.setv, St.nil, St.var, upd_upd]); (rw [upd4 (by assumption)]); first | done | rfl))))) | (refine ⟨⟨(j + 1, some (id', [z]), _), by simp only; omega, hS2.zero hid' [z], hyes (by omega)⟩, ?_, by simp only; omega⟩; (first | exact Sub.nil _ _ _ (StSub.refl _) rfl | ((repeat (first | refine Sub.pv ?_ rfl | refine Sub.var ?_ rfl rfl)); (first | exact Sub.nil _ _ _ (StSub.refl _) rfl | exact Sub.nil _ _ _ (stsub_swap (by assumption)) rfl | exact Sub.nil _ _ _ (stsub_eq (by first | rfl | exact upd_eta (by assumption) | ((simp only [St.pv, St.put, St.sst, St.setv, St.nil, St.var, upd_upd]); first | done | rfl))) rfl | (refine Sub.nil _ _ _ (stsub_eq ?_) rfl; (simp only [St.pv, St.put, St.sst, St.setv, St.nil, St.var, upd_upd]); (rw [upd4 (by assumption)]); first | done | rfl))))) | (intros; omega) | (intros; simp only [List.length_map]; omega)))
  | some y =>
    have hy := (hS2.arr y rfl).1
    have hyl : y.2.length ≤ 200000 := hcl
    (try (apply wO pk; exact rfl)); (repeat' (first | exact All.nil | refine All.cons ?_ ?_ | (apply wC pk; exact rfl; exact rfl) | (apply wE pk; exact rfl; exact rfl) | (apply wX pk; exact rfl) | (apply wN pk; exact rfl) | (apply wD pk [] []; kernel_rfl; exact rfl; exact rfl) | exact Imp.one | exact Imp.same | refine Imp.left ?_ | exact ImpX.one | exact ImpX.same | exact ImpX.mk | refine ImpX.up ?_ | refine ImpX.old ?_ | (apply pwp_condC; simp only [cond_true, cond_false]) | (refine pwp_cond rfl (fun h => ?_) (fun h => ?_) <;> (try simp at h) <;> (first | done | (exfalso; omega) | skip)) | (refine pwp_ret ?_; refine ⟨_, _, _, rfl, Wk.refl _, StSub.refl _, ?_, rfl⟩; (first | rfl | skip)) | (apply idxS pk; exact rfl; exact rfl; exact rfl; exact rfl; exact rfl; exact rfl; rotate_left; exact rfl; (intro _; exact rfl); (intro _; apply hrow <;> omega); (intro _; exact rfl); exact rfl) | (apply apV pk (f := Sn.cells) (xs := y.2) [z] 16; exact rfl; exact rfl; exact rfl; exact rfl; exact rfl; exact rfl; exact rfl; exact rfl; exact rfl; exact hy; exact rfl; exact fun _ => rfl; exact fun _ => rfl; exact hB; (simp only [List.length_cons, List.length_nil]; omega); (simp only [List.length_cons, List.length_nil]; omega); exact rfl; intro id' hid') | (refine ⟨⟨(j + 1, some y, S2), by simp only; omega, hS2, hno (by omega)⟩, ?_, by simp only; omega⟩; (first | exact Sub.nil _ _ _ (StSub.refl _) rfl | ((repeat (first | refine Sub.pv ?_ rfl | refine Sub.var ?_ rfl rfl)); (first | exact Sub.nil _ _ _ (StSub.refl _) rfl | exact Sub.nil _ _ _ (stsub_swap (by assumption)) rfl | exact Sub.nil _ _ _ (stsub_eq (by first | rfl | exact upd_eta (by assumption) | ((simp only [St.pv, St.put, St.sst, St.setv, St.nil, St.var, upd_upd]); first | done | rfl))) rfl | (refine Sub.nil _ _ _ (stsub_eq ?_) rfl; (simp only [St.pv, St.put, St.sst, St.setv, St.nil, St.var, upd_upd]); (rw [upd4 (by assumption)]); first | done | rfl))))) | (intros; omega) | (intros; simp only [List.length_map]; omega)))
    have hg := hS2.grow hid' (y.2 ++ [z])
    refine ⟨⟨(j + 1, some (id', y.2 ++ [z]), _), by simp only; omega, hg, hyes (by omega)⟩, ?_, by simp only; omega⟩
    rw [show shp (some (id', y.2 ++ [z])) = some (id', y.2.length + [z].length) from by simp [shp]]
    (first | exact Sub.nil _ _ _ (StSub.refl _) rfl | ((repeat (first | refine Sub.pv ?_ rfl | refine Sub.var ?_ rfl rfl)); (first | exact Sub.nil _ _ _ (StSub.refl _) rfl | exact Sub.nil _ _ _ (stsub_swap (by assumption)) rfl | exact Sub.nil _ _ _ (stsub_eq (by first | rfl | exact upd_eta (by assumption) | ((simp only [St.pv, St.put, St.sst, St.setv, St.nil, St.var, upd_upd]); first | done | rfl))) rfl | (refine Sub.nil _ _ _ (stsub_eq ?_) rfl; (simp only [St.pv, St.put, St.sst, St.setv, St.nil, St.var, upd_upd]); (rw [upd4 (by assumption)]); first | done | rfl))))
theorem spI_none (k : Of) : ∀ {sp : List (Of × Option (Nat × List Sn))}, (spI sp).Nodup → (spI (mset k none sp)).Nodup ∧ ∀ j ∈ spI (mset k none sp), j ∈ spI sp
  | [], _ => ⟨by simp [mset, spI], fun j h => by simp [mset, spI] at h⟩
  | (k', v) :: sp, hn => by
    have hn' : (spI sp).Nodup := by
      cases v with
      | none => exact hn
      | some x => exact (List.nodup_cons.1 hn).2
    obtain ⟨i1, i2⟩ := spI_none k hn'
    have htl : ∀ j ∈ spI sp, j ∈ spI ((k', v) :: sp) := fun j hj => by
      cases v with
      | none => exact hj
      | some x => exact List.mem_cons_of_mem _ hj
    simp only [mset]
    split
    · exact ⟨hn', fun j hj => htl j hj⟩
    · cases v with
      | none => exact ⟨i1, fun j hj => i2 j hj⟩
      | some x =>
        refine ⟨List.nodup_cons.2 ⟨fun q => (List.nodup_cons.1 hn).1 (i2 _ q), i1⟩, fun j hj => ?_⟩
        rcases List.mem_cons.1 hj with rfl | hj
        · exact List.mem_cons_self
        · exact List.mem_cons_of_mem _ (i2 j hj)
theorem DevS.setNone {st S : Store} {d : CD} (h : DevS st S d) (k : Of) : DevS st (upd S d.i1 (some (.map (ments Of.enc spF (mset k none (spE d.sp)))))) { d with sp := mset k none d.sp } := by
  have hn := h.ids
  simp only [CD.ids, List.nodup_cons, List.mem_cons, not_or] at hn
  obtain ⟨⟨n1, n2⟩, n3, n4⟩ := hn
  obtain ⟨s1, s2⟩ := spI_none k n4
  refine ⟨?_, ?_, fun k' id l hk => ?_, nodup_mset h.k1, h.k2, ?_, fun j hj => ?_⟩
  · rw [upd_same]
    have : spE (mset k none d.sp) = mset k none (spE d.sp) := mset_map shp k none d.sp
    simp only [this]
  · rw [upd_ne (Ne.symm n1)]; exact h.m2
  · rcases mem_mset h.k1 hk with e | ⟨e, hne⟩
    · simp at e
    · have hj : id ∈ spI d.sp := spI_mem.2 ⟨k', l, e⟩
      rw [upd_ne fun q => n2 (by rw [← q]; exact hj)]
      exact h.arr k' id l e
  · simp only [CD.ids, List.nodup_cons, List.mem_cons, not_or]
    exact ⟨⟨n1, fun q => n2 (s2 _ q)⟩, fun q => n3 (s2 _ q), s1⟩
  · simp only [CD.ids, List.mem_cons] at hj
    rcases hj with rfl | rfl | hj
    · exact h.new _ (by simp [CD.ids])
    · exact h.new _ (by simp [CD.ids])
    · exact h.new j (by simp only [CD.ids, List.mem_cons]; exact .inr (.inr (s2 j hj)))
theorem OpS.less {st S S1 : Store} {idm : Nat} {D : List CD} (h : OpS st S idm D D) {d : CD} (hd : d ∈ D) (k : Of) {b : Option (Nat × List Sn)} (hb : LS S b S1) : OpS st (upd S1 d.i1 (some (.map (ments Of.enc spF (mset k (shp b) (spE d.sp)))))) idm (setD { d with sp := mset k b d.sp } D) (setD { d with sp := mset k b d.sp } D) := by
  have hD := h.held.dev d hd
  have hn := hD.ids
  simp only [CD.ids, List.nodup_cons, List.mem_cons, not_or] at hn
  obtain ⟨⟨n1, n2⟩, n3, n4⟩ := hn
  have hS : ∀ j, S j ≠ none → j ∉ d.ids → upd S1 d.i1 (some (.map (ments Of.enc spF (mset k (shp b) (spE d.sp))))) j = S j := fun j hj hj' => by
    rw [upd_ne fun e => hj' (by rw [e]; simp [CD.ids])]; exact hb.old j hj
  cases b with
  | none =>
    obtain ⟨s1, s2⟩ := spI_none k n4
    have hids : ∀ j ∈ ({ d with sp := mset k none d.sp } : CD).ids, j ∈ d.ids := fun j hj => by
      simp only [CD.ids, List.mem_cons] at hj ⊢
      rcases hj with hj | hj | hj
      · exact .inl hj
      · exact .inr (.inl hj)
      · exact .inr (.inr (s2 j hj))
    refine (h.set (d := d) (d' := { d with sp := mset k none d.sp }) hd rfl ((hD.setNone k).congr fun j hj => ?_) (fun j hj => .inl (hids j hj)) hS).self h.held.devs hd rfl rfl rfl
    by_cases e : j = d.i1
    · rw [e, upd_same, upd_same]; rfl
    · rw [upd_ne e, upd_ne e]; exact hb.old j (hD.live j (hids j hj))
  | some y =>
    obtain ⟨b1, b2⟩ := hb.arr y rfl
    have hfr : y.1 ∉ d.ids := fun q => hD.live _ q b2
    have f3 : y.1 ∉ spI d.sp := fun q => hfr (by simp only [CD.ids, List.mem_cons]; exact .inr (.inr q))
    have f1 : y.1 ≠ d.i1 := fun q => hfr (by rw [q]; simp [CD.ids])
    obtain ⟨s1, s2⟩ := spI_mset (k := k) (l' := y.2) n4 f3
    have hids : ∀ j ∈ ({ d with sp := mset k (some y) d.sp } : CD).ids, j ∈ d.ids ∨ j = y.1 := fun j hj => by
      simp only [CD.ids, List.mem_cons] at hj ⊢
      rcases hj with hj | hj | hj
      · exact .inl (.inl hj)
      · exact .inl (.inr (.inl hj))
      · rcases s2 j hj with hj | hj
        · exact .inr hj
        · exact .inl (.inr (.inr hj))
    refine (h.set (d := d) (d' := { d with sp := mset k (some y) d.sp }) hd rfl ((hD.spans (S1 := S) k y.2 b2 (h.st0 b2) fun _ _ _ _ => rfl).congr fun j hj => ?_) (fun j hj => (hids j hj).imp (fun h => h) fun e => by rw [e]; exact b2) hS).self h.held.devs hd rfl rfl rfl
    by_cases e : j = d.i1
    · rw [e, upd_same, upd_same]; rfl
    · rw [upd_ne e, upd_ne e]
      by_cases e2 : j = y.1
      · rw [e2, upd_same]; exact b1
      · rw [upd_ne e2]; exact hb.old j (hD.live j ((hids j hj).resolve_right e2))
theorem OpS.app {st S S1 : Store} {idm : Nat} {D : List CD} (h : OpS st S idm D D) {d : CD} (hd : d ∈ D) (k : Of) (l' : List Sn) {id' : Nat} (hid : S id' = none) (hS1 : ∀ j, j ≠ d.i1 → (∀ z, mget k d.sp = some (some z) → j ≠ z.1) → S1 j = S j) :
    OpS st (upd (upd S1 id' (some (.arr 80 (l'.map Sn.cells)))) d.i1 (some (.map (ments Of.enc spF (mset k (some (id', l'.length)) (spE d.sp)))))) idm (setD { d with sp := mset k (some (id', l')) d.sp } D) (setD { d with sp := mset k (some (id', l')) d.sp } D) := by
  have hD := h.held.dev d hd
  have hlive := hD.live
  refine (h.set (d := d) (d' := { d with sp := mset k (some (id', l')) d.sp }) hd rfl (hD.spans (S1 := S1) k l' hid (h.st0 hid) fun j _ h1 h2 => hS1 j h1 h2) (fun j hj => ?_) fun j hj hj' => ?_).self h.held.devs hd rfl rfl rfl
  · simp only [CD.ids, List.mem_cons] at hj ⊢
    rcases hj with h | h | h
    · exact .inl (.inl h)
    · exact .inl (.inr (.inl h))
    · rcases (spI_mset (k := k) (l' := l') ((List.nodup_cons.1 (List.nodup_cons.1 hD.ids).2).2) (fun q => hlive id' (by simp only [CD.ids, List.mem_cons]; exact .inr (.inr q)) hid)).2 j h with h | h
      · right; rw [h]; exact hid
      · exact .inl (.inr (.inr h))
  · rw [upd_ne (fun e => hj' (by rw [e]; simp [CD.ids])), upd_ne (fun e => hj (by rw [e]; exact hid))]
    refine hS1 j (fun e => hj' (by rw [e]; simp [CD.ids])) fun z hz e => hj' ?_
    simp only [CD.ids, List.mem_cons]
    exact .inr (.inr (e ▸ spI_mem.2 ⟨k, z.2, mget_mem hz⟩))
end Go.Proofs.Ytbcdgocepnkpeaa
