import Derived.Test.YtbcdgocepnkpeaaRtOwn
set_option linter.unusedSimpArgs false
set_option linter.unusedVariables false
namespace Go.Proofs.Ytbcdgocepnkpeaa
open Go Go.Abs
attribute [local irreducible] Ev PWp
set_option maxRecDepth 10000
set_option maxHeartbeats 2000000
structure FewO (l : List Ow) : Prop where
  len : l.length ≤ 1000
  rts : ∀ o ∈ l, o.rights.length ≤ 1000
def canonA (s : Sc) : Option Ow → List Rt → List Ow → Bool
  | _, _, [] => true
  | p, acc, o :: l => ((ownP s o && (match p with | none => true | some q => decide (q.dev < o.dev))) && o.rights.all fun r => !acc.any fun x => clashB x r) && canonA s (some o) (acc ++ o.rights) l
def canonP (s : Sc) (l : List Ow) : Bool := canonA s none [] l
def accO (l : List Ow) : List Rt := l.flatMap (·.rights)
theorem accO_succ {l : List Ow} {i : Nat} (h : i < l.length) : accO (l.take (i + 1)) = accO (l.take i) ++ l[i].rights := by
  rw [List.take_succ_eq_append_getElem h, accO, accO, List.flatMap_append]; simp
theorem canonA_step (s : Sc) {l : List Ow} {i : Nat} (h : i < l.length) : canonA s (prevR l i) (accO (l.take i)) (l.drop i) = (((ownP s l[i] && (match prevR l i with | none => true | some q => decide (q.dev < l[i].dev))) && l[i].rights.all fun r => !(accO (l.take i)).any fun x => clashB x r) && canonA s (prevR l (i + 1)) (accO (l.take (i + 1))) (l.drop (i + 1))) := by
  rw [List.drop_eq_getElem_cons h, prevR_succ h, accO_succ h]; rfl
theorem accO_len {l : List Ow} (h : ∀ o ∈ l, o.rights.length ≤ 1000) : (accO l).length ≤ l.length * 1000 := by
  induction l with
  | nil => simp [accO]
  | cons o l ih =>
    have := ih fun x hx => h x (List.mem_cons_of_mem _ hx)
    have h1 := h o List.mem_cons_self
    simp only [accO, List.flatMap_cons, List.length_append, List.length_cons] at *
    omega
theorem accO_take_len {l : List Ow} (h : FewO l) (i : Nat) : (accO (l.take i)).length ≤ 1000000 := by
  have h1 := accO_len (l := l.take i) fun o ho => h.rts o (List.mem_of_mem_take ho)
  have h2 := h.len
  have h3 : (l.take i).length ≤ l.length := by rw [List.length_take]; omega
  have : (l.take i).length * 1000 ≤ 1000 * 1000 := Nat.mul_le_mul_right _ (by omega)
  omega
theorem bytesR : Try.prog.bytesOf 34 = 48 := by kernel_rfl
theorem all_drop {α : Type} (f : α → Bool) {l : List α} {j : Nat} (h : j < l.length) : (l.drop j).all f = (f l[j] && (l.drop (j + 1)).all f) := by
  rw [List.drop_eq_getElem_cons h, List.all_cons]
def prevD (l : List Ow) (i : Nat) : Ow := (prevR l i).getD Ow.zero
theorem prevD_row {l : List Ow} {i : Nat} (h : i < l.length) (h0 : 0 < i) : (l.map Ow.cells)[i - 1]? = some (prevD l i).cells := by
  have : i - 1 < l.length := by omega
  simp [prevD, prevR, show i ≠ 0 from by omega, this]
theorem prevD_match {l : List Ow} {i : Nat} (h : i < l.length) (d : Int) : (match prevR l i with | none => true | some q => decide (q.dev < d)) = (decide (i = 0) || decide ((prevD l i).dev < d)) := by
  rcases i with _ | i
  · simp [prevR]
  · have : i < l.length := by omega
    simp [prevD, prevR, this]
theorem gw_pos {w : Bool} {i : Nat} (h : gw w (decide ((i : Int) > 0)) true = true) : 0 < i := by
  have := (gw_t h).2
  simp at this
  omega
theorem canon_spec (s : Sc) (hs : FewS s) (l : List Ow) (hl : FewO l) : PF Try.prog 12 [.agg (scC s), .seq (l.map Ow.cells)] (PV.val (Value.bool (canonP s l))) := by
  have hlen := hl.len
  refine pf_of tt_ok Try.func12 (by kernel_rfl) rfl rfl rfl rfl (fun st => ?_)
  (try (apply wO pk; exact rfl)); (repeat' (first | exact All.nil | refine All.cons ?_ ?_ | (apply wC pk; exact rfl; exact rfl) | (apply wE pk; exact rfl; exact rfl) | (apply wX pk; exact rfl) | (apply wN pk; exact rfl) | (apply wD pk [] []; kernel_rfl; exact rfl; exact rfl) | exact Imp.one | exact Imp.same | refine Imp.left ?_ | exact ImpX.one | exact ImpX.same | exact ImpX.mk | refine ImpX.up ?_ | refine ImpX.old ?_ | (apply pwp_condC; simp only [cond_true, cond_false]) | (refine pwp_cond rfl (fun h => ?_) (fun h => ?_) <;> (try simp at h) <;> (first | done | (exfalso; omega) | skip)) | (refine pwp_ret ?_; refine ⟨_, _, _, rfl, Wk.refl _, StSub.refl _, ?_, rfl⟩; (first | rfl | skip)) | (intros; omega) | (intros; simp only [List.length_map]; omega)))
  refine pwp_own 5 34 rfl rfl (fun id hid => ?_)
  have hid : st id = none := hid
  refine pwp_loop (X := { x : Nat × Nat // x.1 ≤ l.length ∧ st x.2 = none ∧ canonA s (prevR l x.1) (accO (l.take x.1)) (l.drop x.1) = canonP s l }) (fun i => (((((((St.nil 52 (upd st i.1.2 (some (.tok 34)))).pv 1 (.seq (l.map Ow.cells))).var 2 27 ((scC s))).pv 5 (.own i.1.2 ((accO (l.take i.1.1)).map Rt.cells))).pv 10 (.seq (l.map Ow.cells))).pv 11 ((PV.val (Value.int .i64 ((l.length : Nat)))))).pv 12 ((PV.val (Value.int .i64 ((i.1.1 : Nat))))))) (fun i => l.length - i.1.1) ⟨(0, id), by simp, hid, rfl⟩ ?_ (fun i => ?_)
  · (first | exact Sub.nil _ _ _ (StSub.refl _) rfl | ((repeat (first | refine Sub.pv ?_ rfl | refine Sub.var ?_ rfl rfl | refine Sub.pv' ?_ rfl (by first | rfl | simp) | refine Sub.var' ?_ rfl rfl (by first | rfl | simp))); (first | exact Sub.nil _ _ _ (StSub.refl _) rfl | exact Sub.nil _ _ _ (stsub_swap (by assumption)) rfl | exact Sub.nil _ _ _ (stsub_eq (by first | rfl | exact upd_eta (by assumption) | ((simp only [St.pv, St.put, St.sst, St.setv, St.nil, St.var, upd_upd]); first | done | rfl))) rfl | (refine Sub.nil _ _ _ (stsub_eq ?_) rfl; (simp only [St.pv, St.put, St.sst, St.setv, St.nil, St.var, upd_upd]); (rw [upd4 (by assumption)]); first | done | rfl))))
  obtain ⟨⟨i, id⟩, hi, hid, hinv⟩ := i
  simp only at hi hid hinv
  dsimp only
  by_cases hend : l.length ≤ i
  · rw [List.drop_eq_nil_of_le hend] at hinv
    have e : canonP s l = true := by rw [← hinv]; rfl
    rw [e]
    (try (apply wO pk; exact rfl)); (repeat' (first | exact All.nil | refine All.cons ?_ ?_ | (apply wC pk; exact rfl; exact rfl) | (apply wE pk; exact rfl; exact rfl) | (apply wX pk; exact rfl) | (apply wN pk; exact rfl) | (apply wD pk [] []; kernel_rfl; exact rfl; exact rfl) | exact Imp.one | exact Imp.same | refine Imp.left ?_ | exact ImpX.one | exact ImpX.same | exact ImpX.mk | refine ImpX.up ?_ | refine ImpX.old ?_ | (apply pwp_condC; simp only [cond_true, cond_false]) | (refine pwp_cond rfl (fun h => ?_) (fun h => ?_) <;> (try simp at h) <;> (first | done | (exfalso; omega) | skip)) | (refine pwp_ret ?_; first | (refine ⟨_, _, _, rfl, Wk.refl _, StSub.refl _, ?_, rfl⟩; (first | rfl | ((simp; done); done))) | (refine ⟨_, _, _, rfl, Wk.refl _, stsub_drop (by assumption), ?_, rfl⟩; (first | rfl | ((simp; done); done))) | (refine ⟨_, _, _, rfl, Wk.soft _, StSub.refl _, ?_, rfl⟩; (first | rfl | ((simp; done); done))) | (refine ⟨_, _, _, rfl, Wk.soft _, stsub_drop (by assumption), ?_, rfl⟩; (first | rfl | ((simp; done); done))) | (refine ⟨_, _, _, rfl, Wk.refl _, StSub.refl _, ?_, rfl⟩) | (refine ⟨_, _, _, rfl, Wk.soft _, stsub_drop (by assumption), ?_, rfl⟩)) | (apply apS pk ((default : Rt)) 48; exact rfl; exact rfl; exact rfl; exact rfl; exact rfl; exact rfl; exact rfl; exact rfl; exact upd_same _ _ _; exact fun _ => rfl; exact fun _ => rfl; exact bytesR; (first | omega | (simp; omega)); (first | omega | (simp; omega)); exact rfl; intro id' hid') | (intros; omega) | (intros; simp only [List.length_map]; omega)))
  have hlt : i < l.length := by omega
  rw [canonA_step s hlt] at hinv
  have hol := hl.rts l[i] (List.getElem_mem hlt)
  have hacc := accO_take_len hl i
  have ho := own_spec s hs l[i] (by omega)
  have hB := bytesR
  rw [prevD_match hlt] at hinv
  have hsucc : canonA s (prevR l (i + 1)) (accO (l.take (i + 1))) (l.drop (i + 1)) = canonA s (prevR l (i + 1)) (accO (l.take i) ++ l[i].rights) (l.drop (i + 1)) := by rw [accO_succ hlt]
  have hacs := accO_succ hlt
  generalize hG : accO (l.take i) = G at *
  have hrest : canonA s (prevR l (i + 1)) (accO (l.take (i + 1))) (l.drop (i + 1)) = canonP s l ∨ canonP s l = false := by
    cases hq : canonP s l with
    | false => exact .inr rfl
    | true =>
      rw [hq] at hinv
      simp only [Bool.and_eq_true] at hinv
      exact .inl hinv.2
  generalize hZ : canonA s (prevR l (i + 1)) (accO (l.take (i + 1))) (l.drop (i + 1)) = Z at hinv hrest
  generalize canonP s l = C at *
  generalize ownP s l[i] = ow at *
  generalize hq : prevD l i = q at *
  have hrow : 0 < i → (l.map Ow.cells)[i - 1]? = some q.cells := fun h0 => by rw [← hq]; exact prevD_row hlt h0
  have hno : (ow = false ∨ 0 < i ∧ l[i].dev ≤ q.dev) → C = false := fun h => by
    rw [← hinv]
    rcases h with h | ⟨h1, h2⟩
    · simp [h]
    · rw [decide_eq_false (show ¬ i = 0 from by omega), decide_eq_false (show ¬ q.dev < l[i].dev from by omega)]; simp
  have hyes : (ow = true ∧ (0 < i → q.dev < l[i].dev)) → (l[i].rights.all fun r => !G.any fun x => clashB x r) = true → Z = C := fun h ha => by
    rw [← hinv, ha, h.1]
    by_cases h0 : i = 0
    · simp [h0]
    · rw [decide_eq_true (h.2 (by omega))]; simp
  have hfl : (l[i].rights.all fun r => !G.any fun x => clashB x r) = false → C = false := fun h => by rw [← hinv, h]; simp
  (try (apply wO pk; exact rfl)); (repeat' (first | exact All.nil | refine All.cons ?_ ?_ | (apply wC pk; exact rfl; exact rfl) | (apply wE pk; exact rfl; exact rfl) | (apply wX pk; exact rfl) | (apply wN pk; exact rfl) | (apply wD pk [] []; kernel_rfl; exact rfl; exact rfl) | exact Imp.one | exact Imp.same | refine Imp.left ?_ | exact ImpX.one | exact ImpX.same | exact ImpX.mk | refine ImpX.up ?_ | refine ImpX.old ?_ | (apply pwp_condC; simp only [cond_true, cond_false]) | (refine pwp_cond rfl (fun h => ?_) (fun h => ?_) <;> (try simp at h) <;> (first | done | (exfalso; omega) | skip)) | (refine pwp_ret ?_; first | (refine ⟨_, _, _, rfl, Wk.refl _, StSub.refl _, ?_, rfl⟩; (first | rfl | ((rw [hno (by assumption)]); done))) | (refine ⟨_, _, _, rfl, Wk.refl _, stsub_drop (by assumption), ?_, rfl⟩; (first | rfl | ((rw [hno (by assumption)]); done))) | (refine ⟨_, _, _, rfl, Wk.soft _, StSub.refl _, ?_, rfl⟩; (first | rfl | ((rw [hno (by assumption)]); done))) | (refine ⟨_, _, _, rfl, Wk.soft _, stsub_drop (by assumption), ?_, rfl⟩; (first | rfl | ((rw [hno (by assumption)]); done))) | (refine ⟨_, _, _, rfl, Wk.refl _, StSub.refl _, ?_, rfl⟩) | (refine ⟨_, _, _, rfl, Wk.soft _, stsub_drop (by assumption), ?_, rfl⟩)) | (apply callS; exact rfl; exact rfl; exact rfl; (intro _; first | (apply ho <;> first | assumption | omega)); rotate_left; exact rfl; exact rfl) | (apply callV; exact rfl; exact rfl; exact rfl; (intro _; first | (apply ho <;> first | assumption | omega)); rotate_left; exact rfl; exact rfl) | (apply idxS pk; exact rfl; exact rfl; exact rfl; exact rfl; exact rfl; exact rfl; rotate_left; exact rfl; (intro _; exact rfl); (intro _; apply get_map <;> omega); (intro _; exact rfl); exact rfl) | (apply idxS pk (j := i - 1) (row := q.cells); exact rfl; exact rfl; exact rfl; exact rfl; exact rfl; exact rfl; rotate_left; exact rfl; (intro hw; have := gw_pos hw; omega); (intro hw; exact hrow (gw_pos hw)); (intro _; rfl); exact rfl) | (intros; omega) | (intros; simp only [List.length_map]; omega)))
  · refine pwp_loop (X := { x : Nat // x ≤ l[i].rights.length ∧ (l[i].rights.drop x).all (fun r => !G.any fun x => clashB x r) = l[i].rights.all (fun r => !G.any fun x => clashB x r) }) (fun y => (((((((((((St.nil 52 (upd st id (some (.tok 34)))).pv 1 (.seq (l.map Ow.cells))).var 2 27 ((scC s))).pv 5 (.own id (G.map Rt.cells))).var 7 52 ([(PV.val (Value.int .i64 (l[i].dev))), .seq (l[i].rights.map Rt.cells)])).pv 10 (.seq (l.map Ow.cells))).pv 11 ((PV.val (Value.int .i64 ((l.length : Nat)))))).pv 12 ((PV.val (Value.int .i64 ((i : Nat)))))).pv 37 (.seq (l[i].rights.map Rt.cells))).pv 38 ((PV.val (Value.int .i64 ((l[i].rights.length : Nat)))))).pv 39 ((PV.val (Value.int .i64 ((y.1 : Nat))))))) (fun y => l[i].rights.length - y.1) ⟨0, by omega, rfl⟩ ?_ (fun y => ?_)
    · (first | exact Sub.nil _ _ _ (StSub.refl _) rfl | ((repeat (first | refine Sub.pv ?_ rfl | refine Sub.var ?_ rfl rfl | refine Sub.pv' ?_ rfl (by first | rfl | simp) | refine Sub.var' ?_ rfl rfl (by first | rfl | simp))); (first | exact Sub.nil _ _ _ (StSub.refl _) rfl | exact Sub.nil _ _ _ (stsub_swap (by assumption)) rfl | exact Sub.nil _ _ _ (stsub_eq (by first | rfl | exact upd_eta (by assumption) | ((simp only [St.pv, St.put, St.sst, St.setv, St.nil, St.var, upd_upd]); first | done | rfl))) rfl | (refine Sub.nil _ _ _ (stsub_eq ?_) rfl; (simp only [St.pv, St.put, St.sst, St.setv, St.nil, St.var, upd_upd]); (rw [upd4 (by assumption)]); first | done | rfl))))
    obtain ⟨y, hy, hyi⟩ := y
    dsimp only
    by_cases hend2 : l[i].rights.length ≤ y
    · rw [List.drop_eq_nil_of_le hend2, List.all_nil] at hyi
      (try (apply wO pk; exact rfl)); (repeat' (first | exact All.nil | refine All.cons ?_ ?_ | (apply wC pk; exact rfl; exact rfl) | (apply wE pk; exact rfl; exact rfl) | (apply wX pk; exact rfl) | (apply wN pk; exact rfl) | (apply wD pk [] []; kernel_rfl; exact rfl; exact rfl) | exact Imp.one | exact Imp.same | refine Imp.left ?_ | exact ImpX.one | exact ImpX.same | exact ImpX.mk | refine ImpX.up ?_ | refine ImpX.old ?_ | (apply pwp_condC; simp only [cond_true, cond_false]) | (refine pwp_cond rfl (fun h => ?_) (fun h => ?_) <;> (try simp at h) <;> (first | done | (exfalso; omega) | skip)) | (refine pwp_ret ?_; first | (refine ⟨_, _, _, rfl, Wk.refl _, StSub.refl _, ?_, rfl⟩; (first | rfl | ((fail); done))) | (refine ⟨_, _, _, rfl, Wk.refl _, stsub_drop (by assumption), ?_, rfl⟩; (first | rfl | ((fail); done))) | (refine ⟨_, _, _, rfl, Wk.soft _, StSub.refl _, ?_, rfl⟩; (first | rfl | ((fail); done))) | (refine ⟨_, _, _, rfl, Wk.soft _, stsub_drop (by assumption), ?_, rfl⟩; (first | rfl | ((fail); done))) | (refine ⟨_, _, _, rfl, Wk.refl _, StSub.refl _, ?_, rfl⟩) | (refine ⟨_, _, _, rfl, Wk.soft _, stsub_drop (by assumption), ?_, rfl⟩)) | (apply idxS pk; exact rfl; exact rfl; exact rfl; exact rfl; exact rfl; exact rfl; rotate_left; exact rfl; (intro _; exact rfl); (intro _; apply get_map <;> omega); (intro _; exact rfl); exact rfl) | (apply apM pk (f := Rt.cells) l[i].rights 48; exact rfl; exact rfl; exact rfl; exact rfl; exact rfl; exact rfl; exact rfl; exact rfl; exact rfl; exact upd_same _ _ _; exact fun _ => rfl; exact fun _ => rfl; exact hB; omega; omega; exact rfl; intro id' hid') | (refine ⟨⟨(i + 1, id'), by simp only; omega, fresh_upd hid', by simp only; rw [hZ]; exact hyes (by assumption) hyi.symm⟩, ?_, by simp only; omega⟩; (first | exact Sub.nil _ _ _ (StSub.refl _) rfl | ((repeat (first | refine Sub.pv ?_ rfl | refine Sub.var ?_ rfl rfl | refine Sub.pv' ?_ rfl (by simp only [hacs]) | refine Sub.var' ?_ rfl rfl (by simp only [hacs]))); (first | exact Sub.nil _ _ _ (StSub.refl _) rfl | exact Sub.nil _ _ _ (stsub_swap (by assumption)) rfl | exact Sub.nil _ _ _ (stsub_eq (by first | rfl | exact upd_eta (by assumption) | ((simp only [St.pv, St.put, St.sst, St.setv, St.nil, St.var, upd_upd]); first | done | rfl))) rfl | (refine Sub.nil _ _ _ (stsub_eq ?_) rfl; (simp only [St.pv, St.put, St.sst, St.setv, St.nil, St.var, upd_upd]); (rw [upd4 (by assumption)]); first | done | rfl))))) | (intros; omega) | (intros; simp only [List.length_map]; omega)))
    have hly : y < l[i].rights.length := by omega
    rw [all_drop _ hly] at hyi
    have hcf := conF_spec 29 [.rp (l[i].rights[y]).cells] (fun x => clashB x (l[i].rights[y])) G (by omega) fun x => canon1_spec x _
    generalize hcl : (G.any fun x => clashB x (l[i].rights[y])) = cl at *
    have hc1 : cl = true → C = false := fun h => hfl (by rw [← hyi, h]; rfl)
    have hc2 : cl = false → (l[i].rights.drop (y + 1)).all (fun r => !G.any fun x => clashB x r) = l[i].rights.all (fun r => !G.any fun x => clashB x r) := fun h => by rw [← hyi, h]; rfl
    (try (apply wO pk; exact rfl)); (repeat' (first | exact All.nil | refine All.cons ?_ ?_ | (apply wC pk; exact rfl; exact rfl) | (apply wE pk; exact rfl; exact rfl) | (apply wX pk; exact rfl) | (apply wN pk; exact rfl) | (apply wD pk [] []; kernel_rfl; exact rfl; exact rfl) | exact Imp.one | exact Imp.same | refine Imp.left ?_ | exact ImpX.one | exact ImpX.same | exact ImpX.mk | refine ImpX.up ?_ | refine ImpX.old ?_ | (apply pwp_condC; simp only [cond_true, cond_false]) | (refine pwp_cond rfl (fun h => ?_) (fun h => ?_) <;> (try simp at h) <;> (first | done | (exfalso; omega) | skip)) | (refine pwp_ret ?_; first | (refine ⟨_, _, _, rfl, Wk.refl _, StSub.refl _, ?_, rfl⟩; (first | rfl | ((rw [hc1 (by assumption)]); done))) | (refine ⟨_, _, _, rfl, Wk.refl _, stsub_drop (by assumption), ?_, rfl⟩; (first | rfl | ((rw [hc1 (by assumption)]); done))) | (refine ⟨_, _, _, rfl, Wk.soft _, StSub.refl _, ?_, rfl⟩; (first | rfl | ((rw [hc1 (by assumption)]); done))) | (refine ⟨_, _, _, rfl, Wk.soft _, stsub_drop (by assumption), ?_, rfl⟩; (first | rfl | ((rw [hc1 (by assumption)]); done))) | (refine ⟨_, _, _, rfl, Wk.refl _, StSub.refl _, ?_, rfl⟩) | (refine ⟨_, _, _, rfl, Wk.soft _, stsub_drop (by assumption), ?_, rfl⟩)) | (apply callS; exact rfl; exact rfl; exact rfl; (intro _; first | (apply hcf <;> first | assumption | omega)); rotate_left; exact rfl; exact rfl) | (apply callV; exact rfl; exact rfl; exact rfl; (intro _; first | (apply hcf <;> first | assumption | omega)); rotate_left; exact rfl; exact rfl) | (apply idxS pk; exact rfl; exact rfl; exact rfl; exact rfl; exact rfl; exact rfl; rotate_left; exact rfl; (intro _; exact rfl); (intro _; apply get_map <;> omega); (intro _; exact rfl); exact rfl) | (apply ev_freeze 9; exact rfl; exact rfl) | (refine ⟨⟨y + 1, by omega, hc2 (by assumption)⟩, ?_, by simp only; omega⟩; (first | exact Sub.nil _ _ _ (StSub.refl _) rfl | ((repeat (first | refine Sub.pv ?_ rfl | refine Sub.var ?_ rfl rfl)); (first | exact Sub.nil _ _ _ (StSub.refl _) rfl | exact Sub.nil _ _ _ (stsub_swap (by assumption)) rfl | exact Sub.nil _ _ _ (stsub_eq (by first | rfl | exact upd_eta (by assumption) | ((simp only [St.pv, St.put, St.sst, St.setv, St.nil, St.var, upd_upd]); first | done | rfl))) rfl | (refine Sub.nil _ _ _ (stsub_eq ?_) rfl; (simp only [St.pv, St.put, St.sst, St.setv, St.nil, St.var, upd_upd]); (rw [upd4 (by assumption)]); first | done | rfl))))) | (intros; omega) | (intros; simp only [List.length_map]; omega)))
end Go.Proofs.Ytbcdgocepnkpeaa
