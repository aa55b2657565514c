import Derived.Test.YtbcdgocepnkpeaaRtCanon
set_option linter.unusedSimpArgs false
set_option linter.unusedVariables false
namespace Go.Proofs.Ytbcdgocepnkpeaa
open Go Go.Abs
attribute [local irreducible] Ev PWp
set_option maxRecDepth 10000
set_option maxHeartbeats 2000000
def keyR (i : Nat) : Rt := ⟨1, i, 0, 0, 1073741824, 0⟩
def uniR (i : Nat) (c : Int) : Rt := ⟨2, i, c, 0, 1073741824, 0⟩
def uniqA (i : Nat) : Option Int → List Int → List Rt
  | _, [] => []
  | p, c :: l => (if (match p with | none => true | some q => decide (q < c)) = true then [uniR i c] else []) ++ uniqA i (some c) l
def uniqB : Nat → List Tb → List Rt
  | _, [] => []
  | i, t :: l => uniqA i none t.unique ++ uniqB (i + 1) l
def startL (s : Sc) : List Rt := (List.range s.length).map keyR ++ uniqB 0 s
def startP (s : Sc) : List Ow := if startL s = [] then [] else [⟨1, startL s⟩]
theorem uniqA_step (i : Nat) {l : List Int} {j : Nat} (h : j < l.length) : uniqA i (prevR l j) (l.drop j) = (if (match prevR l j with | none => true | some q => decide (q < l[j])) = true then [uniR i l[j]] else []) ++ uniqA i (prevR l (j + 1)) (l.drop (j + 1)) := by
  rw [List.drop_eq_getElem_cons h, prevR_succ h]; rfl
theorem uniqB_step {l : List Tb} {i : Nat} (h : i < l.length) : uniqB i (l.drop i) = uniqA i none l[i].unique ++ uniqB (i + 1) (l.drop (i + 1)) := by
  rw [List.drop_eq_getElem_cons h]; rfl
theorem uniqA_len (i : Nat) : ∀ (p : Option Int) (l : List Int), (uniqA i p l).length ≤ l.length
  | _, [] => by simp [uniqA]
  | p, c :: l => by
    have := uniqA_len i (some c) l
    have h2 : (if (match p with | none => true | some q => decide (q < c)) = true then [uniR i c] else []).length ≤ 1 := by
      split <;> (try split) <;> simp
    simp only [uniqA, List.length_append, List.length_cons]
    omega
theorem uniqB_len {l : List Tb} (h : ∀ t ∈ l, t.unique.length ≤ 20) : ∀ i, (uniqB i l).length ≤ l.length * 20 := by
  induction l with
  | nil => intro i; simp [uniqB]
  | cons t l ih =>
    intro i
    have h1 := ih (fun x hx => h x (List.mem_cons_of_mem _ hx)) (i + 1)
    have h2 := uniqA_len i none t.unique
    have h3 := h t List.mem_cons_self
    simp only [uniqB, List.length_append, List.length_cons]
    omega
theorem startL_len {s : Sc} (hs : FewS s) : (startL s).length ≤ 420 := by
  have h1 := uniqB_len hs.uni 0
  have h2 := hs.len
  simp only [startL, List.length_append, List.length_map, List.length_range]
  omega
def prevI (l : List Int) (j : Nat) : Int := (prevR l j).getD 0
theorem prevI_row {l : List Int} {i : Nat} (h : i < l.length) (h0 : 0 < i) : (l.map I1)[i - 1]? = some (I1 (prevI l i)) := by
  have : i - 1 < l.length := by omega
  simp [prevI, prevR, show i ≠ 0 from by omega, this]
theorem prevI_match {l : List Int} {i : Nat} (h : i < l.length) (d : Int) : (match prevR l i with | none => true | some q => decide (q < d)) = true ↔ (i = 0 ∨ prevI l i < d) := by
  rcases i with _ | i
  · simp [prevR]
  · have : i < l.length := by omega
    simp [prevI, prevR, this]
theorem gw_zero {w : Bool} {i : Nat} (h : gw w (decide ((i : Int) = 0)) false = true) : 0 < i := by
  have := (gw_f h).2
  simp at this
  omega
theorem start_spec (s : Sc) (hs : FewS s) : PF Try.prog 18 [.agg (scC s)] (.seq ((startP s).map Ow.cells)) := by
  have hlen := hs.len
  have hSl := startL_len hs
  have hB := bytesR
  refine pf_of tt_ok Try.func18 (by kernel_rfl) rfl rfl rfl rfl (fun st => ?_)
  (try (apply wO pk; exact rfl)); (repeat' (first | exact All.nil | refine All.cons ?_ ?_ | (apply wC pk; exact rfl; exact rfl) | (apply wE pk; exact rfl; exact rfl) | (apply wX pk; exact rfl) | (apply wN pk; exact rfl) | (apply wD pk [] []; kernel_rfl; exact rfl; exact rfl) | exact Imp.one | exact Imp.same | refine Imp.left ?_ | exact ImpX.one | exact ImpX.same | exact ImpX.mk | refine ImpX.up ?_ | refine ImpX.old ?_ | (apply pwp_condC; simp only [cond_true, cond_false]) | (refine pwp_cond rfl (fun h => ?_) (fun h => ?_) <;> (try simp at h) <;> (first | done | (exfalso; omega) | skip)) | (refine pwp_ret ?_; refine ⟨_, _, _, rfl, Wk.refl _, StSub.refl _, ?_, rfl⟩; (first | rfl | skip)) | (intros; omega) | (intros; simp only [List.length_map]; omega)))
  refine pwp_own 3 34 rfl rfl (fun id hid => ?_)
  have hid : st id = none := hid
  refine pwp_loop (X := { x : Nat × Nat // x.1 ≤ s.length ∧ st x.2 = none }) (fun i => (((((St.nil 63 (upd st i.1.2 (some (.tok 34)))).var 1 27 (scC s)).pv 3 (.own i.1.2 (((List.range i.1.1).map keyR).map Rt.cells))).pv 11 ((PV.val (Value.int .i64 ((s.length : Nat)))))).pv 12 ((PV.val (Value.int .i64 ((i.1.1 : Nat))))))) (fun i => s.length - i.1.1) ⟨(0, id), by simp, hid⟩ ?_ (fun i => ?_)
  · (first | exact Sub.nil _ _ _ (StSub.refl _) rfl | ((repeat (first | refine Sub.pv ?_ rfl | refine Sub.var ?_ rfl rfl | refine Sub.pv' ?_ rfl (by first | rfl | simp) | refine Sub.var' ?_ rfl rfl (by first | rfl | simp))); (first | exact Sub.nil _ _ _ (StSub.refl _) rfl | exact Sub.nil _ _ _ (stsub_swap (by assumption)) rfl | exact Sub.nil _ _ _ (stsub_eq (by first | rfl | exact upd_eta (by assumption) | ((simp only [St.pv, St.put, St.sst, St.setv, St.nil, St.var, upd_upd]); first | done | rfl))) rfl | (refine Sub.nil _ _ _ (stsub_eq ?_) rfl; (simp only [St.pv, St.put, St.sst, St.setv, St.nil, St.var, upd_upd]); (rw [upd4 (by assumption)]); first | done | rfl))))
  obtain ⟨⟨i, id⟩, hi, hid⟩ := i
  simp only at hi hid
  dsimp only
  (try (apply wO pk; exact rfl)); (repeat' (first | exact All.nil | refine All.cons ?_ ?_ | (apply wC pk; exact rfl; exact rfl) | (apply wE pk; exact rfl; exact rfl) | (apply wX pk; exact rfl) | (apply wN pk; exact rfl) | (apply wD pk [] []; kernel_rfl; exact rfl; exact rfl) | exact Imp.one | exact Imp.same | refine Imp.left ?_ | exact ImpX.one | exact ImpX.same | exact ImpX.mk | refine ImpX.up ?_ | refine ImpX.old ?_ | (apply pwp_condC; simp only [cond_true, cond_false]) | (refine pwp_cond rfl (fun h => ?_) (fun h => ?_) <;> (try simp at h) <;> (first | done | (exfalso; omega) | skip)) | (refine pwp_ret ?_; first | (refine ⟨_, _, _, rfl, Wk.refl _, StSub.refl _, ?_, rfl⟩; (first | rfl)) | (refine ⟨_, _, _, rfl, Wk.refl _, stsub_drop (by assumption), ?_, rfl⟩; (first | rfl)) | (refine ⟨_, _, _, rfl, Wk.soft _, StSub.refl _, ?_, rfl⟩; (first | rfl)) | (refine ⟨_, _, _, rfl, Wk.soft _, stsub_drop (by assumption), ?_, rfl⟩; (first | rfl)) | (refine ⟨_, _, _, rfl, Wk.refl _, StSub.refl _, ?_, rfl⟩) | (refine ⟨_, _, _, rfl, Wk.soft _, stsub_drop (by assumption), ?_, rfl⟩)) | (apply apM pk (f := Rt.cells) [keyR i] 48; exact rfl; exact rfl; exact rfl; exact rfl; exact rfl; exact rfl; exact rfl; exact rfl; exact rfl; exact upd_same _ _ _; exact fun _ => rfl; exact fun _ => rfl; exact hB; (simp; omega); (simp; omega); exact rfl; intro id' hid') | (refine ⟨⟨(i + 1, id'), by simp only; omega, fresh_upd hid'⟩, ?_, by simp only; omega⟩; (first | exact Sub.nil _ _ _ (StSub.refl _) rfl | ((repeat (first | refine Sub.pv ?_ rfl | refine Sub.var ?_ rfl rfl | refine Sub.pv' ?_ rfl (by simp only [List.range_succ, List.map_append, List.map_cons, List.map_nil]) | refine Sub.var' ?_ rfl rfl (by simp only [List.range_succ, List.map_append, List.map_cons, List.map_nil]))); (first | exact Sub.nil _ _ _ (StSub.refl _) rfl | exact Sub.nil _ _ _ (stsub_swap (by assumption)) rfl | exact Sub.nil _ _ _ (stsub_eq (by first | rfl | exact upd_eta (by assumption) | ((simp only [St.pv, St.put, St.sst, St.setv, St.nil, St.var, upd_upd]); first | done | rfl))) rfl | (refine Sub.nil _ _ _ (stsub_eq ?_) rfl; (simp only [St.pv, St.put, St.sst, St.setv, St.nil, St.var, upd_upd]); (rw [upd4 (by assumption)]); first | done | rfl))))) | (intros; omega) | (intros; simp only [List.length_map]; omega)))
  have ei : i = s.length := by omega
  subst ei
  refine pwp_loop (X := { x : Nat × List Rt × Nat // x.1 ≤ s.length ∧ st x.2.2 = none ∧ x.2.1 ++ uniqB x.1 (s.drop x.1) = startL s }) (fun x => (((((St.nil 63 (upd st x.1.2.2 (some (.tok 34)))).pv 3 (.own x.1.2.2 (x.1.2.1.map Rt.cells))).pv 22 (.seq (s.map Tb.cells))).pv 23 ((PV.val (Value.int .i64 ((s.length : Nat)))))).pv 24 ((PV.val (Value.int .i64 ((x.1.1 : Nat))))))) (fun x => s.length - x.1.1) ⟨(0, (List.range s.length).map keyR, id), by simp, hid, rfl⟩ ?_ (fun x => ?_)
  · (first | exact Sub.nil _ _ _ (StSub.refl _) rfl | ((repeat (first | refine Sub.pv ?_ rfl | refine Sub.var ?_ rfl rfl | refine Sub.pv' ?_ rfl (by first | rfl | simp) | refine Sub.var' ?_ rfl rfl (by first | rfl | simp))); (first | exact Sub.nil _ _ _ (StSub.refl _) rfl | exact Sub.nil _ _ _ (stsub_swap (by assumption)) rfl | exact Sub.nil _ _ _ (stsub_eq (by first | rfl | exact upd_eta (by assumption) | ((simp only [St.pv, St.put, St.sst, St.setv, St.nil, St.var, upd_upd]); first | done | rfl))) rfl | (refine Sub.nil _ _ _ (stsub_eq ?_) rfl; (simp only [St.pv, St.put, St.sst, St.setv, St.nil, St.var, upd_upd]); (rw [upd4 (by assumption)]); first | done | rfl))))
  obtain ⟨⟨i, acc, id⟩, hi, hid, hinv⟩ := x
  simp only at hi hid hinv
  dsimp only
  by_cases hend : s.length ≤ i
  · rw [List.drop_eq_nil_of_le hend, uniqB, List.append_nil] at hinv
    have hz : (acc.length = 0) ↔ startL s = [] := by rw [hinv]; exact List.length_eq_zero_iff
    have hnn : ¬ (((acc.map Rt.cells).length : Nat) : Int) = 0 → startL s ≠ [] := fun h e => h (by rw [List.length_map, hz.2 e]; rfl)
    refine pwp_wk 3 rfl (Wk.own _ _) ?_
    (try (apply wO pk; exact rfl)); (repeat' (first | exact All.nil | refine All.cons ?_ ?_ | (apply wC pk; exact rfl; exact rfl) | (apply wE pk; exact rfl; exact rfl) | (apply wX pk; exact rfl) | (apply wN pk; exact rfl) | (apply wD pk [] []; kernel_rfl; exact rfl; exact rfl) | exact Imp.one | exact Imp.same | refine Imp.left ?_ | exact ImpX.one | exact ImpX.same | exact ImpX.mk | refine ImpX.up ?_ | refine ImpX.old ?_ | (apply pwp_condC; simp only [cond_true, cond_false]) | (refine pwp_cond rfl (fun h => ?_) (fun h => ?_) <;> (try simp at h) <;> (first | done | (exfalso; omega) | skip)) | (refine pwp_ret ?_; first | (refine ⟨_, _, _, rfl, Wk.refl _, StSub.refl _, ?_, rfl⟩; (first | rfl | ((first | (rw [startP, ← hinv, if_pos (by assumption)]; rfl) | (rw [startP, ← hinv, if_neg (by assumption)]; rfl)); done))) | (refine ⟨_, _, _, rfl, Wk.refl _, stsub_drop (by assumption), ?_, rfl⟩; (first | rfl | ((first | (rw [startP, ← hinv, if_pos (by assumption)]; rfl) | (rw [startP, ← hinv, if_neg (by assumption)]; rfl)); done))) | (refine ⟨_, _, _, rfl, Wk.soft _, StSub.refl _, ?_, rfl⟩; (first | rfl | ((first | (rw [startP, ← hinv, if_pos (by assumption)]; rfl) | (rw [startP, ← hinv, if_neg (by assumption)]; rfl)); done))) | (refine ⟨_, _, _, rfl, Wk.soft _, stsub_drop (by assumption), ?_, rfl⟩; (first | rfl | ((first | (rw [startP, ← hinv, if_pos (by assumption)]; rfl) | (rw [startP, ← hinv, if_neg (by assumption)]; rfl)); done))) | (refine ⟨_, _, _, rfl, Wk.refl _, StSub.refl _, ?_, rfl⟩) | (refine ⟨_, _, _, rfl, Wk.soft _, stsub_drop (by assumption), ?_, rfl⟩)) | (intros; omega) | (intros; simp only [List.length_map]; omega)))
  have hlt : i < s.length := by omega
  rw [uniqB_step hlt] at hinv
  have hul := hs.uni s[i] (List.getElem_mem hlt)
  (try (apply wO pk; exact rfl)); (repeat' (first | exact All.nil | refine All.cons ?_ ?_ | (apply wC pk; exact rfl; exact rfl) | (apply wE pk; exact rfl; exact rfl) | (apply wX pk; exact rfl) | (apply wN pk; exact rfl) | (apply wD pk [] []; kernel_rfl; exact rfl; exact rfl) | exact Imp.one | exact Imp.same | refine Imp.left ?_ | exact ImpX.one | exact ImpX.same | exact ImpX.mk | refine ImpX.up ?_ | refine ImpX.old ?_ | (apply pwp_condC; simp only [cond_true, cond_false]) | (refine pwp_cond rfl (fun h => ?_) (fun h => ?_) <;> (try simp at h) <;> (first | done | (exfalso; omega) | skip)) | (refine pwp_ret ?_; first | (refine ⟨_, _, _, rfl, Wk.refl _, StSub.refl _, ?_, rfl⟩; (first | rfl)) | (refine ⟨_, _, _, rfl, Wk.refl _, stsub_drop (by assumption), ?_, rfl⟩; (first | rfl)) | (refine ⟨_, _, _, rfl, Wk.soft _, StSub.refl _, ?_, rfl⟩; (first | rfl)) | (refine ⟨_, _, _, rfl, Wk.soft _, stsub_drop (by assumption), ?_, rfl⟩; (first | rfl)) | (refine ⟨_, _, _, rfl, Wk.refl _, StSub.refl _, ?_, rfl⟩) | (refine ⟨_, _, _, rfl, Wk.soft _, stsub_drop (by assumption), ?_, rfl⟩)) | (apply idxS pk; exact rfl; exact rfl; exact rfl; exact rfl; exact rfl; exact rfl; rotate_left; exact rfl; (intro _; exact rfl); (intro _; apply get_map <;> omega); (intro _; exact rfl); exact rfl) | (intros; omega) | (intros; simp only [List.length_map]; omega)))
  refine pwp_loop (X := { x : Nat × List Rt × Nat // x.1 ≤ s[i].unique.length ∧ st x.2.2 = none ∧ x.2.1 ++ (uniqA i (prevR s[i].unique x.1) (s[i].unique.drop x.1) ++ uniqB (i + 1) (s.drop (i + 1))) = startL s }) (fun y => ((((((((((St.nil 63 (upd st y.1.2.2 (some (.tok 34)))).pv 3 (.own y.1.2.2 (y.1.2.1.map Rt.cells))).pv 5 ((PV.val (Value.int .i64 ((i : Nat)))))).var 6 63 ((s[i]).cells)).pv 22 (.seq (s.map Tb.cells))).pv 23 ((PV.val (Value.int .i64 ((s.length : Nat)))))).pv 24 ((PV.val (Value.int .i64 ((i : Nat)))))).pv 30 (.seq ((s[i]).unique.map I1))).pv 31 ((PV.val (Value.int .i64 (((s[i]).unique.length : Nat)))))).pv 32 ((PV.val (Value.int .i64 ((y.1.1 : Nat))))))) (fun y => s[i].unique.length - y.1.1) ⟨(0, acc, id), by simp, hid, hinv⟩ ?_ (fun y => ?_)
  · (first | exact Sub.nil _ _ _ (StSub.refl _) rfl | ((repeat (first | refine Sub.pv ?_ rfl | refine Sub.var ?_ rfl rfl | refine Sub.pv' ?_ rfl (by first | rfl | simp) | refine Sub.var' ?_ rfl rfl (by first | rfl | simp))); (first | exact Sub.nil _ _ _ (StSub.refl _) rfl | exact Sub.nil _ _ _ (stsub_swap (by assumption)) rfl | exact Sub.nil _ _ _ (stsub_eq (by first | rfl | exact upd_eta (by assumption) | ((simp only [St.pv, St.put, St.sst, St.setv, St.nil, St.var, upd_upd]); first | done | rfl))) rfl | (refine Sub.nil _ _ _ (stsub_eq ?_) rfl; (simp only [St.pv, St.put, St.sst, St.setv, St.nil, St.var, upd_upd]); (rw [upd4 (by assumption)]); first | done | rfl))))
  obtain ⟨⟨j, acc2, id2⟩, hj, hid2, hinv2⟩ := y
  simp only at hj hid2 hinv2
  dsimp only
  have hal : acc2.length ≤ (startL s).length := by rw [← hinv2]; simp
  by_cases hend2 : s[i].unique.length ≤ j
  · rw [List.drop_eq_nil_of_le hend2, uniqA, List.nil_append] at hinv2
    (try (apply wO pk; exact rfl)); (repeat' (first | exact All.nil | refine All.cons ?_ ?_ | (apply wC pk; exact rfl; exact rfl) | (apply wE pk; exact rfl; exact rfl) | (apply wX pk; exact rfl) | (apply wN pk; exact rfl) | (apply wD pk [] []; kernel_rfl; exact rfl; exact rfl) | exact Imp.one | exact Imp.same | refine Imp.left ?_ | exact ImpX.one | exact ImpX.same | exact ImpX.mk | refine ImpX.up ?_ | refine ImpX.old ?_ | (apply pwp_condC; simp only [cond_true, cond_false]) | (refine pwp_cond rfl (fun h => ?_) (fun h => ?_) <;> (try simp at h) <;> (first | done | (exfalso; omega) | skip)) | (refine pwp_ret ?_; first | (refine ⟨_, _, _, rfl, Wk.refl _, StSub.refl _, ?_, rfl⟩; (first | rfl)) | (refine ⟨_, _, _, rfl, Wk.refl _, stsub_drop (by assumption), ?_, rfl⟩; (first | rfl)) | (refine ⟨_, _, _, rfl, Wk.soft _, StSub.refl _, ?_, rfl⟩; (first | rfl)) | (refine ⟨_, _, _, rfl, Wk.soft _, stsub_drop (by assumption), ?_, rfl⟩; (first | rfl)) | (refine ⟨_, _, _, rfl, Wk.refl _, StSub.refl _, ?_, rfl⟩) | (refine ⟨_, _, _, rfl, Wk.soft _, stsub_drop (by assumption), ?_, rfl⟩)) | (refine ⟨⟨(i + 1, acc2, id2), by simp only; omega, hid2, hinv2⟩, ?_, by simp only; omega⟩; (first | exact Sub.nil _ _ _ (StSub.refl _) rfl | ((repeat (first | refine Sub.pv ?_ rfl | refine Sub.var ?_ rfl rfl)); (first | exact Sub.nil _ _ _ (StSub.refl _) rfl | exact Sub.nil _ _ _ (stsub_swap (by assumption)) rfl | exact Sub.nil _ _ _ (stsub_eq (by first | rfl | exact upd_eta (by assumption) | ((simp only [St.pv, St.put, St.sst, St.setv, St.nil, St.var, upd_upd]); first | done | rfl))) rfl | (refine Sub.nil _ _ _ (stsub_eq ?_) rfl; (simp only [St.pv, St.put, St.sst, St.setv, St.nil, St.var, upd_upd]); (rw [upd4 (by assumption)]); first | done | rfl))))) | (intros; omega) | (intros; simp only [List.length_map]; omega)))
  have hlj : j < s[i].unique.length := by omega
  rw [uniqA_step i hlj] at hinv2
  have hm := prevI_match hlj s[i].unique[j]
  generalize (match prevR s[i].unique j with | none => true | some q => decide (q < s[i].unique[j])) = b at hm hinv2
  have hrow : 0 < j → (s[i].unique.map I1)[j - 1]? = some (I1 (prevI s[i].unique j)) := prevI_row hlj
  generalize prevI s[i].unique j = q at *
  have hyes : (j = 0 ∨ q < s[i].unique[j]) → (acc2 ++ [uniR i s[i].unique[j]]) ++ (uniqA i (prevR s[i].unique (j + 1)) (s[i].unique.drop (j + 1)) ++ uniqB (i + 1) (s.drop (i + 1))) = startL s := fun h => by
    rw [if_pos (hm.2 h)] at hinv2; rw [← hinv2]; simp
  have hno : ¬ (j = 0 ∨ q < s[i].unique[j]) → acc2 ++ (uniqA i (prevR s[i].unique (j + 1)) (s[i].unique.drop (j + 1)) ++ uniqB (i + 1) (s.drop (i + 1))) = startL s := fun h => by
    rw [if_neg (fun hb => h (hm.1 hb))] at hinv2; rw [← hinv2]; simp
  (try (apply wO pk; exact rfl)); (repeat' (first | exact All.nil | refine All.cons ?_ ?_ | (apply wC pk; exact rfl; exact rfl) | (apply wE pk; exact rfl; exact rfl) | (apply wX pk; exact rfl) | (apply wN pk; exact rfl) | (apply wD pk [] []; kernel_rfl; exact rfl; exact rfl) | exact Imp.one | exact Imp.same | refine Imp.left ?_ | exact ImpX.one | exact ImpX.same | exact ImpX.mk | refine ImpX.up ?_ | refine ImpX.old ?_ | (apply pwp_condC; simp only [cond_true, cond_false]) | (refine pwp_cond rfl (fun h => ?_) (fun h => ?_) <;> (try simp at h) <;> (first | done | (exfalso; omega) | skip)) | (refine pwp_ret ?_; first | (refine ⟨_, _, _, rfl, Wk.refl _, StSub.refl _, ?_, rfl⟩; (first | rfl)) | (refine ⟨_, _, _, rfl, Wk.refl _, stsub_drop (by assumption), ?_, rfl⟩; (first | rfl)) | (refine ⟨_, _, _, rfl, Wk.soft _, StSub.refl _, ?_, rfl⟩; (first | rfl)) | (refine ⟨_, _, _, rfl, Wk.soft _, stsub_drop (by assumption), ?_, rfl⟩; (first | rfl)) | (refine ⟨_, _, _, rfl, Wk.refl _, StSub.refl _, ?_, rfl⟩) | (refine ⟨_, _, _, rfl, Wk.soft _, stsub_drop (by assumption), ?_, rfl⟩)) | (apply idxS pk; exact rfl; exact rfl; exact rfl; exact rfl; exact rfl; exact rfl; rotate_left; exact rfl; (intro _; exact rfl); (intro _; apply get_map <;> omega); (intro _; exact rfl); exact rfl) | (apply idxS pk (j := j - 1) (row := I1 q); exact rfl; exact rfl; exact rfl; exact rfl; exact rfl; exact rfl; rotate_left; exact rfl; (intro hw; have := gw_zero hw; omega); (intro hw; exact hrow (gw_zero hw)); (intro _; rfl); exact rfl) | (apply apM pk (f := Rt.cells) [uniR i (s[i].unique[j]'(by assumption))] 48; exact rfl; exact rfl; exact rfl; exact rfl; exact rfl; exact rfl; exact rfl; exact rfl; exact rfl; exact upd_same _ _ _; exact fun _ => rfl; exact fun _ => rfl; exact hB; (simp; omega); (simp; omega); exact rfl; intro id' hid') | (refine ⟨⟨(j + 1, acc2 ++ [uniR i (s[i].unique[j]'(by assumption))], id'), by simp only; omega, fresh_upd hid', hyes (by first | assumption | omega)⟩, ?_, by simp only; omega⟩; (first | exact Sub.nil _ _ _ (StSub.refl _) rfl | ((repeat (first | refine Sub.pv ?_ rfl | refine Sub.var ?_ rfl rfl)); (first | exact Sub.nil _ _ _ (StSub.refl _) rfl | exact Sub.nil _ _ _ (stsub_swap (by assumption)) rfl | exact Sub.nil _ _ _ (stsub_eq (by first | rfl | exact upd_eta (by assumption) | ((simp only [St.pv, St.put, St.sst, St.setv, St.nil, St.var, upd_upd]); first | done | rfl))) rfl | (refine Sub.nil _ _ _ (stsub_eq ?_) rfl; (simp only [St.pv, St.put, St.sst, St.setv, St.nil, St.var, upd_upd]); (rw [upd4 (by assumption)]); first | done | rfl))))) | (refine ⟨⟨(j + 1, acc2, id2), by simp only; omega, hid2, hno (by first | assumption | omega)⟩, ?_, by simp only; omega⟩; (first | exact Sub.nil _ _ _ (StSub.refl _) rfl | ((repeat (first | refine Sub.pv ?_ rfl | refine Sub.var ?_ rfl rfl)); (first | exact Sub.nil _ _ _ (StSub.refl _) rfl | exact Sub.nil _ _ _ (stsub_swap (by assumption)) rfl | exact Sub.nil _ _ _ (stsub_eq (by first | rfl | exact upd_eta (by assumption) | ((simp only [St.pv, St.put, St.sst, St.setv, St.nil, St.var, upd_upd]); first | done | rfl))) rfl | (refine Sub.nil _ _ _ (stsub_eq ?_) rfl; (simp only [St.pv, St.put, St.sst, St.setv, St.nil, St.var, upd_upd]); (rw [upd4 (by assumption)]); first | done | rfl))))) | (intros; omega) | (intros; simp only [List.length_map]; omega)))
end Go.Proofs.Ytbcdgocepnkpeaa
