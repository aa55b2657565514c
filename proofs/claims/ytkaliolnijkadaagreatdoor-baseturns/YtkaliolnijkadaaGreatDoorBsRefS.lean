import Derived.Test.YtkaliolnijkadaaGreatDoorBsRefP
set_option linter.unusedSimpArgs false
set_option linter.unusedVariables false
namespace Go.Proofs.YtkaliolnijkadaaGreatDoor
open Go Go.Abs
attribute [local irreducible] Ev PWp
set_option maxRecDepth 10000
set_option maxHeartbeats 4000000
theorem rdrop_spec (b : Bs) (k key : Int) (hb : b.length < 100000000000) (hL : (linesP b k).length < 100000000000) : PF Tryz.prog 21 [.agg (bsC b), (PV.val (Value.int .i64 (k))), (PV.val (Value.int .i64 (key)))] (.agg (bsC (dropP b k key))) := by
  have hl := lines_spec b k
  rw [dropP_set]
  have hF := at_facts (linesP b k) key
  generalize linesP b k = L at *
  obtain ⟨R, F, hRe, hR, hF0, hno, hyes⟩ : ∃ (R : List Ln) (F : Nat → Bool), (if (atP L key).2 = true then L.eraseIdx (atP L key).1.toNat else L) = R ∧ R.length + (F L.length).toNat = L.length ∧ F 0 = false ∧ (∀ i (h : i < L.length), (F i = true ∨ L[i].key ≠ key) → F (i + 1) = F i ∧ ∀ c, c + (F i).toNat = i → R[c]? = some L[i]) ∧ ∀ i (h : i < L.length), F i = false → L[i].key = key → F (i + 1) = true := by
    rcases hF with ⟨j, hj, h1, h2, h3, h4⟩ | ⟨j, hj, h1, h2, h3, h4, h5⟩
    · rw [h1, if_pos rfl, Int.toNat_natCast]
      refine ⟨L.eraseIdx j, fun i => decide (j < i), rfl, ?_, by simp, fun i hi h => ?_, fun i hi h e => ?_⟩
      · dsimp only; rw [List.length_eraseIdx_of_lt hj, decide_eq_true hj]; show L.length - 1 + 1 = _; omega
      · have hij : i ≠ j := fun e => by
          subst e
          rcases h with h | h
          · simp at h
          · exact h h3
        have e : decide (j < i + 1) = decide (j < i) := by rw [decide_eq_decide]; omega
        refine ⟨e, fun c hc => ?_⟩
        dsimp only at hc
        by_cases hlt : j < i
        · rw [decide_eq_true hlt] at hc
          have hc : c + 1 = i := hc
          rw [List.getElem?_eraseIdx_of_ge (by omega), hc]; exact List.getElem?_eq_getElem hi
        · rw [decide_eq_false hlt] at hc
          have hc : c = i := hc
          rw [List.getElem?_eraseIdx_of_lt (by omega), hc]; exact List.getElem?_eq_getElem hi
      · simp only [decide_eq_false_iff_not, Nat.not_lt] at h
        rw [decide_eq_true_eq]
        rcases Nat.lt_or_ge i j with q | q
        · exact absurd e (h4 i q)
        · omega
    · rw [h1, if_neg (by simp)]
      refine ⟨L, fun _ => false, rfl, by simp, rfl, fun i hi _ => ⟨rfl, fun c hc => ?_⟩, fun i hi _ e => absurd e (h3 _ (List.getElem_mem hi))⟩
      have hc : c = i := hc
      rw [hc]; exact List.getElem?_eq_getElem hi
  rw [hRe]
  have hw := rwith_spec b k R hb
  refine pf_of tt_ok Tryz.func21 (by kernel_rfl) rfl rfl rfl rfl (fun st => ?_)
  focus ((try (apply wO pk; exact rfl)); (repeat' (first | (show All _; constructor) | (show Imp _ _; constructor) | (show ImpX _ _ _ _; constructor) | (apply wC pk; (iterate 2 exact rfl)) | (apply wE pk; (iterate 2 exact rfl)) | (apply wX pk; exact rfl) | (apply wN pk; exact rfl) | (apply wD pk [] []; kernel_rfl; exact rfl; exact rfl) | (apply pwp_condC; simp only [cond_true, cond_false]) | (refine pwp_cond rfl (fun h => ?_) (fun h => ?_) <;> (try simp at h) <;> try (exfalso; omega)) | (refine pwp_ret ?_; refine ⟨_, _, _, rfl, Wk.refl _, StSub.refl _, ?_, rfl⟩; try rfl) | (apply callS; (iterate 3 exact rfl); (intro _; apply hl <;> first | assumption | omega); rotate_left; (iterate 2 exact rfl)) | (intros; (try simp only [List.length_map]); omega))))
  refine pwp_empV 8 37 3 rfl rfl rfl (fun id hid => ?_)
  refine pwp_loop (X := { x : Nat × Nat × Bool × Nat // x.1 ≤ L.length ∧ st x.2.1 = none ∧ x.2.2.1 = F x.1 ∧ x.2.2.2 + x.2.2.1.toNat = x.1 }) (fun i => (((((((((St.nil 42 (upd st i.1.2.1 (some (.arr 37 ((R.take i.1.2.2.2).map Ln.cells))))).pv 1 ((PV.val (Value.int .i64 (k))))).pv 2 ((PV.val (Value.int .i64 (key))))).var 3 27 ((bsC b))).var 6 27 ([.val (.slice none 0 0)])).pv 7 (.seq (L.map Ln.cells))).pv 8 (.vec i.1.2.1 3 0 i.1.2.2.2)).pv 9 ((PV.val (Value.bool (i.1.2.2.1))))).pv 10 ((PV.val (Value.int .i64 ((i.1.1 : Nat))))))) (fun i => L.length - i.1.1) ⟨(0, id, false, 0), by simp, hid, hF0.symm, rfl⟩ ?_ (fun i => ?_)
  · dsimp only
    (first | exact Sub.nil _ _ _ (StSub.refl _) rfl | ((repeat (first | refine Sub.pv ?_ rfl | refine Sub.var ?_ rfl rfl)); (first | exact Sub.nil _ _ _ (StSub.refl _) rfl | exact Sub.nil _ _ _ (stsub_swap (by assumption)) rfl | exact Sub.nil _ _ _ (stsub_eq (by first | rfl | exact upd_eta (by assumption) | ((simp only [St.pv, St.put, St.sst, St.setv, St.nil, St.var, upd_upd]); first | done | rfl))) rfl | (refine Sub.nil _ _ _ (stsub_eq ?_) rfl; (simp only [St.pv, St.put, St.sst, St.setv, St.nil, St.var, upd_upd]); (rw [upd4 (by assumption)]); first | done | rfl))))
  obtain ⟨⟨i, id, f, c⟩, hi, hid, hf, hc⟩ := i
  simp only at hi hid hf hc
  dsimp only
  by_cases hend : L.length ≤ i
  obtain rfl : i = L.length := by omega
  obtain rfl : c = R.length := by rw [← hf] at hR; omega
  rw [List.take_length]
  have hlC : (R.map Ln.cells).length = R.length := List.length_map _
  rotate_left
  have hil : i < L.length := by omega
  by_cases hk : f = false ∧ L[i].key = key
  obtain ⟨rfl, hk⟩ := hk
  have hfA := (hyes i hil hf.symm hk).symm
  have hcA : c + true.toNat = i + 1 := by simp at hc ⊢; omega
  rotate_left
  obtain ⟨hfB, hRc⟩ := hno i hil (by rw [← hf]; cases f <;> simp_all)
  have e := take_upQ (hRc c (by rw [← hf]; exact hc))
  have hlen : (R.take c).length = c := by rw [List.length_take]; have := (List.getElem?_eq_some_iff.1 (hRc c (by rw [← hf]; exact hc))).1; omega
  have hfC : f = F (i + 1) := by rw [hfB]; exact hf
  have hcB : c + 1 + f.toNat = i + 1 := by omega
  clear hf hfB hRc
  cases f
  replace hk : ¬ L[i].key = key := fun q => hk ⟨rfl, q⟩
  rotate_left
  rotate_left
  all_goals ((try (apply wO pk; exact rfl)); (repeat' (first | ((refine pwp_ret ?_; exact ⟨_, _, st, rfl, Wk.refl _, stsub_over (stsub_over (StSub.refl _) hid) hid, rfl, rfl⟩)) | (show All _; constructor) | (show Imp _ _; constructor) | (show ImpX _ _ _ _; constructor) | (apply wC pk; (iterate 2 exact rfl)) | (apply wE pk; (iterate 2 exact rfl)) | (apply wX pk; exact rfl) | (apply wN pk; exact rfl) | (apply wD pk [] []; kernel_rfl; exact rfl; exact rfl) | (apply pwp_condC; simp only [cond_true, cond_false]) | (refine pwp_cond rfl (fun h => ?_) (fun h => ?_) <;> (try simp at h) <;> try (exfalso; omega)) | ((try refine pwp_ret ?_); (first | (refine ⟨_, _, _, rfl, Wk.refl _, StSub.refl _, ?_⟩; ((fail)); done) | (refine ⟨_, _, ?zs, rfl, Wk.refl _, ?zh, ?zr⟩; (case zh => (refine stsub_over ?_ (by assumption); (repeat refine stsub_over ?_ (by assumption)); exact StSub.refl _)); (case zr => ((fail)))) | refine ⟨_, _, _, rfl, Wk.refl _, StSub.refl _, ?_⟩)) | (apply idxS pk; (iterate 6 exact rfl); rotate_left; exact rfl; (intro hw; exact rfl); (intro hw; apply get_map <;> omega); (intro _; exact rfl); exact rfl) | (apply ncA; (iterate 3 exact rfl); rotate_left; exact rfl; exact rfl) | (apply ldR pk; exact rfl; exact rfl; rotate_left; exact rfl; (first | exact upd_same _ _ _ | assumption | (focus ((repeat (first | exact upd_same _ _ _ | assumption | refine (upd_ne (by assumption)).trans ?_)); done))); exact rfl; exact rfl) | (apply stR pk; exact rfl; exact rfl; (first | exact upd_same _ _ _ | assumption | (focus ((repeat (first | exact upd_same _ _ _ | assumption | refine (upd_ne (by assumption)).trans ?_)); done))); exact rfl; exact rfl) | (apply apV pk (f := Ln.cells) [L[i]] 56; (iterate 9 exact rfl); (first | exact upd_same _ _ _ | assumption | (focus ((repeat (first | exact upd_same _ _ _ | assumption | refine (upd_ne (by assumption)).trans ?_)); done))); (first | omega | assumption | (focus (simp; done)) | (focus (simp; omega)) | (focus (simp at *; omega))); exact fun _ => rfl; exact fun _ => rfl; exact bytesLn; (first | omega | assumption | (focus (simp; done)) | (focus (simp; omega)) | (focus (simp at *; omega))); (first | omega | assumption | (focus (simp; done)) | (focus (simp; omega)) | (focus (simp at *; omega))); exact rfl; intro id' hid') | (apply ap0 pk (f := Ln.cells) [L[i]] 56; (iterate 10 exact rfl); exact fun _ => rfl; exact fun _ => rfl; exact bytesLn; (first | omega | assumption | (focus (simp; done)) | (focus (simp; omega)) | (focus (simp at *; omega))); (first | omega | assumption | (focus (simp; done)) | (focus (simp; omega)) | (focus (simp at *; omega))); exact rfl; intro id' hid') | (apply callP; exact rfl; exact rfl; (apply (PC.freezeN [_, _] (upd_same _ _ _) cellsLn hlC (hw _)) <;> first | exact upd_same _ _ _ | assumption | omega | (first | exact upd_same _ _ _ | assumption | (focus ((repeat (first | exact upd_same _ _ _ | assumption | refine (upd_ne (by assumption)).trans ?_)); done)))); (iterate 3 exact rfl); intro _ st' hR; obtain ⟨rfl, rfl⟩ := hR) | (apply callP; exact rfl; exact rfl; (first | (apply fail_no_spec <;> first | exact upd_same _ _ _ | assumption | omega | (simp only [Array.size_setIfInBounds]; omega) | (first | exact upd_same _ _ _ | assumption | (focus ((repeat (first | exact upd_same _ _ _ | assumption | refine (upd_ne (by assumption)).trans ?_)); done))))); (iterate 3 exact rfl); intro _ st' hR; (first | subst hR | obtain ⟨rfl, rfl⟩ := hR)) | (refine ⟨⟨(i + 1, id, true, c), by simp only; omega, hid, hfA, hcA⟩, ?_, by simp only; omega⟩; (first | exact Sub.nil _ _ _ (StSub.refl _) rfl | ((repeat (first | refine Sub.pv ?_ rfl | refine Sub.var ?_ rfl rfl)); (first | exact Sub.nil _ _ _ (StSub.refl _) rfl | exact Sub.nil _ _ _ (stsub_swap (by assumption)) rfl | exact Sub.nil _ _ _ (stsub_eq (by first | rfl | exact upd_eta (by assumption) | ((simp only [St.pv, St.put, St.sst, St.setv, St.nil, St.var, upd_upd]); first | done | rfl))) rfl | (refine Sub.nil _ _ _ (stsub_eq ?_) rfl; (simp only [St.pv, St.put, St.sst, St.setv, St.nil, St.var, upd_upd]); (rw [upd4 (by assumption)]); first | done | rfl))))) | ((first | refine ⟨⟨(i + 1, id', false, c + 1), by simp only; omega, fresh_updN hid', hfC, hcB⟩, ?_, by simp only; omega⟩ | refine ⟨⟨(i + 1, id', true, c + 1), by simp only; omega, fresh_updN hid', hfC, hcB⟩, ?_, by simp only; omega⟩); ((dsimp only; try rw [e])); (first | exact Sub.nil _ _ _ (StSub.refl _) rfl | ((repeat (first | refine Sub.pv ?_ rfl | refine Sub.var ?_ rfl rfl | refine Sub.pv' ?_ rfl (by (first | rfl | simp)) | refine Sub.var' ?_ rfl rfl (by (first | rfl | simp)))); (first | exact Sub.nil _ _ _ (StSub.refl _) rfl | exact Sub.nil _ _ _ (stsub_swap (by assumption)) rfl | exact Sub.nil _ _ _ (stsub_eq (by first | rfl | exact upd_eta (by assumption) | ((simp only [St.pv, St.put, St.sst, St.setv, St.nil, St.var, upd_upd]); first | done | rfl))) rfl | (refine Sub.nil _ _ _ (stsub_eq ?_) rfl; (simp only [St.pv, St.put, St.sst, St.setv, St.nil, St.var, upd_upd]); (rw [upd4 (by assumption)]); first | done | rfl))))) | (intros; (try simp only [List.length_map]); omega))))
theorem ins_lo {α : Type} {L : List α} {j i : Nat} {a : α} (h : i < j) (hj : j ≤ L.length) : (L.take j ++ [a] ++ L.drop j)[i]? = some (L[i]'(by omega)) := by
  rw [List.append_assoc, List.getElem?_append_left (by rw [List.length_take]; omega), List.getElem?_take_of_lt h]
  exact List.getElem?_eq_getElem (by omega)
theorem ins_at {α : Type} {L : List α} {j : Nat} {a : α} (hj : j ≤ L.length) : (L.take j ++ [a] ++ L.drop j)[j]? = some a := by
  rw [List.append_assoc, List.getElem?_append_right (by rw [List.length_take]; omega), List.length_take, Nat.min_eq_left hj, Nat.sub_self]
  rfl
theorem ins_hi {α : Type} {L : List α} {j i : Nat} {a : α} (h : j ≤ i) (hi : i < L.length) : (L.take j ++ [a] ++ L.drop j)[i + 1]? = some L[i] := by
  rw [List.append_assoc, List.getElem?_append_right (by rw [List.length_take]; omega), List.length_take, Nat.min_eq_left (by omega), show i + 1 - j = (i - j) + 1 by omega]
  simp only [List.singleton_append, List.getElem?_cons_succ, List.getElem?_drop]
  rw [show j + (i - j) = i by omega]
  exact List.getElem?_eq_getElem hi
theorem dotAt_lo {L : List Dt} {d : Dt} {q : Nat} (h : q < dotAt L d) (hq : q < L.length) : aboveB L[q] d = false := by
  unfold dotAt at h
  cases e : L.findIdx? fun x => aboveB x d with
  | none => exact List.findIdx?_eq_none_iff.1 e _ (List.getElem_mem hq)
  | some j => rw [e] at h; simpa using (List.findIdx?_eq_some_iff_getElem.1 e).2.2 q h
theorem dotAt_hi {L : List Dt} {d : Dt} {j : Nat} (hd : dotAt L d = j) (hq : j < L.length) : aboveB L[j] d = true := by
  unfold dotAt at hd
  cases e : L.findIdx? fun x => aboveB x d with
  | none => rw [e] at hd; simp at hd; omega
  | some q => rw [e] at hd; simp at hd; subst hd; exact (List.findIdx?_eq_some_iff_getElem.1 e).2.1
theorem stsub_twoE {st : Store} {id id2 : Nat} {o b c : Option AObj} (hid : st id = none) (hb : b = c) : StSub (upd st id2 b) (upd (upd (upd st id o) id none) id2 c) := hb ▸ stsub_two hid
theorem rwrote_pc (a : Ln) (d : Dt) (st : Store) (hl : a.by_.length < 100000000000) (R : List Dt) (j : Nat) (hjd : dotAt a.by_ d = j) (hRd : putInDt a.by_ j [d] = R) : PC Tryz.prog 24 [.agg a.cells, .agg d.cells] st fun r S => (r = .agg a.cells ∧ S = st ∧ d ∈ a.by_) ∨ (d ∉ a.by_ ∧ ∃ id, r = .agg [(PV.val (Value.int .i64 (a.key))), .seq (a.cells_.map Cl.cells), .vec id 2 0 R.length] ∧ st id = none ∧ S = upd st id (some (.arr 40 (R.map Dt.cells)))) := by
  have hj : j ≤ a.by_.length := hjd ▸ dotAt_le a.by_ d
  have hR : R.length = a.by_.length + 1 := hRd ▸ putInDt_len hj
  have hlo : ∀ i (h : i < j), R[i]? = some (a.by_[i]'(by omega)) := fun i h => hRd ▸ ins_lo h hj
  have hat : R[j]? = some d := hRd ▸ ins_at hj
  have hhi : ∀ i (h : j ≤ i) (h2 : i < a.by_.length), R[i + 1]? = some a.by_[i] := fun i h h2 => hRd ▸ ins_hi h h2
  have h4 : ∀ q (_ : q < j) (hq : q < a.by_.length), aboveB a.by_[q] d = false := fun q h hq => dotAt_lo (hjd ▸ h) hq
  have h5 := dotAt_hi hjd
  clear hjd hRd
  refine pc_of tt_ok Tryz.func24 (by kernel_rfl) rfl rfl rfl rfl ?_
  focus ((try (apply wO pk; exact rfl)); (repeat' (first | (show All _; constructor) | (show Imp _ _; constructor) | (show ImpX _ _ _ _; constructor) | (apply wC pk; (iterate 2 exact rfl)) | (apply wE pk; (iterate 2 exact rfl)) | (apply wX pk; exact rfl) | (apply wN pk; exact rfl) | (apply wD pk [] []; kernel_rfl; exact rfl; exact rfl) | (apply pwp_condC; simp only [cond_true, cond_false]) | (refine pwp_cond rfl (fun h => ?_) (fun h => ?_) <;> (try simp at h) <;> try (exfalso; omega)) | (refine pwp_ret ?_; refine ⟨_, _, _, rfl, Wk.refl _, StSub.refl _, ?_, rfl⟩; try rfl) | (intros; (try simp only [List.length_map]); omega))))
  refine pwp_loop (X := { x : Nat // x ≤ a.by_.length ∧ ∀ j (h : j < a.by_.length), j < x → a.by_[j] ≠ d }) (fun i => (((((St.nil 66 st).var 2 37 (a.cells)).var 3 40 (d.cells)).var 4 37 ([(PV.val (Value.int .i64 (0))), .val (.slice none 0 0), .val (.slice none 0 0)])).pv 5 ((PV.val (Value.int .i64 ((i.1 : Nat))))))) (fun i => a.by_.length - i.1) ⟨0, by omega, by omega⟩ ?_ (fun i => ?_)
  · ((repeat (first | refine Sub.pv ?_ rfl | refine Sub.var ?_ rfl rfl)); exact Sub.nil _ _ _ (StSub.refl _) rfl)
  obtain ⟨i, hi, hI⟩ := i
  dsimp only
  by_cases hend : a.by_.length ≤ i
  rotate_left
  have hil : i < a.by_.length := by omega
  by_cases hk : a.by_[i] = d
  have hm : d ∈ a.by_ := hk ▸ List.getElem_mem hil
  rotate_left
  have hIA : ∀ j (h : j < a.by_.length), j < i + 1 → a.by_[j] ≠ d := fun j h hj => by
    rcases Nat.lt_succ_iff_lt_or_eq.1 hj with q | q
    · exact hI j h q
    · subst q; exact hk
  rotate_left
  have hnd : d ∉ a.by_ := fun hm => by
    obtain ⟨j, hj, e⟩ := List.getElem_of_mem hm
    exact hI j hj (by omega) e
  focus ((try (apply wO pk; exact rfl)); (repeat' (first | (show All _; constructor) | (show Imp _ _; constructor) | (show ImpX _ _ _ _; constructor) | (apply wC pk; (iterate 2 exact rfl)) | (apply wE pk; (iterate 2 exact rfl)) | (apply wX pk; exact rfl) | (apply wN pk; exact rfl) | (apply wD pk [] []; kernel_rfl; exact rfl; exact rfl) | (apply pwp_condC; simp only [cond_true, cond_false]) | (refine pwp_cond rfl (fun h => ?_) (fun h => ?_) <;> (try simp at h) <;> try (exfalso; omega)) | (refine pwp_ret ?_; refine ⟨_, _, _, rfl, Wk.refl _, StSub.refl _, ?_, rfl⟩; try rfl) | (intros; (try simp only [List.length_map]); omega))))
  refine pwp_empV 6 40 2 rfl rfl rfl (fun id hid => ?_)
  refine pwp_loop (X := { x : Nat × Nat × Bool × Nat // x.1 ≤ a.by_.length ∧ st x.2.1 = none ∧ x.2.2.1 = decide (j < x.1) ∧ x.2.2.2 = x.1 + x.2.2.1.toNat }) (fun i => (((((((St.nil 66 (upd st i.1.2.1 (some (.arr 40 ((R.take i.1.2.2.2).map Dt.cells))))).var 2 37 (a.cells)).var 3 40 (d.cells)).var 4 37 ([(PV.val (Value.int .i64 (0))), .val (.slice none 0 0), .val (.slice none 0 0)])).pv 6 (.vec i.1.2.1 2 0 i.1.2.2.2)).pv 7 ((PV.val (Value.bool (i.1.2.2.1))))).pv 8 ((PV.val (Value.int .i64 ((i.1.1 : Nat))))))) (fun i => a.by_.length - i.1.1) ⟨(0, id, false, 0), by simp, hid, by simp, by simp⟩ ?_ (fun i => ?_)
  · dsimp only
    (first | exact Sub.nil _ _ _ (StSub.refl _) rfl | ((repeat (first | refine Sub.pv ?_ rfl | refine Sub.var ?_ rfl rfl)); (first | exact Sub.nil _ _ _ (StSub.refl _) rfl | exact Sub.nil _ _ _ (stsub_swap (by assumption)) rfl | exact Sub.nil _ _ _ (stsub_eq (by first | rfl | exact upd_eta (by assumption) | ((simp only [St.pv, St.put, St.sst, St.setv, St.nil, St.var, upd_upd]); first | done | rfl))) rfl | (refine Sub.nil _ _ _ (stsub_eq ?_) rfl; (simp only [St.pv, St.put, St.sst, St.setv, St.nil, St.var, upd_upd]); (rw [upd4 (by assumption)]); first | done | rfl))))
  clear hI
  obtain ⟨⟨i, id, f, c⟩, hi, hid, hf, hc⟩ := i
  simp only at hi hid hf hc
  dsimp only
  have hlen : (R.take c).length = c := by rw [List.length_take]; cases f <;> simp at hc <;> omega
  by_cases hend : a.by_.length ≤ i
  obtain rfl : i = a.by_.length := by omega
  cases f
  obtain rfl : j = a.by_.length := by simp at hf; omega
  obtain rfl : c = a.by_.length := by simpa using hc
  have e : R.take a.by_.length ++ [d] = R := by rw [← take_upQ hat]; exact List.take_of_length_le (by omega)
  have hlB : (R.take a.by_.length ++ [d]).length = a.by_.length + [d].length := by rw [e, hR]; rfl
  rotate_left
  obtain rfl : c = R.length := by simp at hc; omega
  rw [List.take_length]
  rotate_left
  have hil : i < a.by_.length := by omega
  have hab := above_spec a.by_[i] d
  by_cases hij : i = j
  subst hij
  obtain rfl : f = false := by rw [hf]; simp
  obtain rfl : c = i := by simpa using hc
  have e : R.take (c + 2) = (R.take c ++ [d]) ++ [a.by_[c]] := by rw [take_upQ (hhi c (Nat.le_refl _) hil), take_upQ hat]
  rw [h5 hil] at hab
  have hfC : true = decide (c < c + 1) := by simp
  rotate_left
  have e : R.take (c + 1) = R.take c ++ [a.by_[i]] := by
    cases f
    · obtain rfl : c = i := by simpa using hc
      exact take_upQ (hlo _ (by simp at hf; omega))
    · obtain rfl : c = i + 1 := by simpa using hc
      exact take_upQ (hhi i (by simp at hf; omega) hil)
  have hf2 : f = decide (j < i + 1) := by rw [hf, decide_eq_decide]; omega
  have hc2 : c + 1 = i + 1 + f.toNat := by omega
  have hgt : f = false → aboveB a.by_[i] d = false := fun q => h4 i (by rw [hf] at q; simp at q; omega) hil
  clear hf
  cases f
  rw [hgt rfl] at hab
  rotate_left
  rotate_left
  all_goals ((try (apply wO pk; exact rfl)); (repeat' (first | ((refine pwp_ret ?_; exact ⟨_, _, upd st id' (some (.arr 40 (R.map Dt.cells))), rfl, Wk.refl _, stsub_twoE hid (by rw [e]), .inr ⟨hnd, id', by rw [hR]; rfl, fresh_updN hid', rfl⟩⟩)) | (show All _; constructor) | (show Imp _ _; constructor) | (show ImpX _ _ _ _; constructor) | (apply wC pk; (iterate 2 exact rfl)) | (apply wE pk; (iterate 2 exact rfl)) | (apply wX pk; exact rfl) | (apply wN pk; exact rfl) | (apply wD pk [] []; kernel_rfl; exact rfl; exact rfl) | (apply pwp_condC; simp only [cond_true, cond_false]) | (refine pwp_cond rfl (fun h => ?_) (fun h => ?_) <;> (try simp at h) <;> try (exfalso; omega)) | ((try refine pwp_ret ?_); (first | (refine ⟨_, _, _, rfl, Wk.refl _, StSub.refl _, ?_⟩; ((first | (exact .inl ⟨rfl, rfl, hm⟩) | (exact .inr ⟨hnd, id, rfl, hid, rfl⟩))); done) | (refine ⟨_, _, ?zs, rfl, Wk.refl _, ?zh, ?zr⟩; (case zh => (refine stsub_over ?_ (by assumption); (repeat refine stsub_over ?_ (by assumption)); exact StSub.refl _)); (case zr => ((first | (exact .inl ⟨rfl, rfl, hm⟩) | (exact .inr ⟨hnd, id, rfl, hid, rfl⟩))))) | refine ⟨_, _, _, rfl, Wk.refl _, StSub.refl _, ?_⟩)) | (apply callS; (iterate 3 exact rfl); (intro _; apply hab <;> first | assumption | omega); rotate_left; (iterate 2 exact rfl)) | (apply callV; (iterate 3 exact rfl); (intro _; apply hab <;> first | assumption | omega); rotate_left; (iterate 2 exact rfl)) | (apply idxS pk; (iterate 6 exact rfl); rotate_left; exact rfl; (intro hw; exact rfl); (intro hw; apply get_map <;> omega); (intro _; exact rfl); exact rfl) | (apply ncA; (iterate 3 exact rfl); rotate_left; exact rfl; exact rfl) | (apply ldR pk; exact rfl; exact rfl; rotate_left; exact rfl; (first | exact upd_same _ _ _ | assumption | (focus ((repeat (first | exact upd_same _ _ _ | assumption | refine (upd_ne (by assumption)).trans ?_)); done))); exact rfl; exact rfl) | (apply stR pk; exact rfl; exact rfl; (first | exact upd_same _ _ _ | assumption | (focus ((repeat (first | exact upd_same _ _ _ | assumption | refine (upd_ne (by assumption)).trans ?_)); done))); exact rfl; exact rfl) | (apply apV pk (f := Dt.cells) [d] 16; (iterate 9 exact rfl); (first | exact upd_same _ _ _ | assumption | (focus ((repeat (first | exact upd_same _ _ _ | assumption | refine (upd_ne (by assumption)).trans ?_)); done))); (first | omega | assumption | (focus (simp; done)) | (focus (simp; omega)) | (focus (simp at *; omega))); exact fun _ => rfl; exact fun _ => rfl; exact bytesDt; (first | omega | assumption | (focus (simp; done)) | (focus (simp; omega)) | (focus (simp at *; omega))); (first | omega | assumption | (focus (simp; done)) | (focus (simp; omega)) | (focus (simp at *; omega))); exact rfl; intro id' hid') | (apply ap0 pk (f := Dt.cells) [d] 16; (iterate 10 exact rfl); exact fun _ => rfl; exact fun _ => rfl; exact bytesDt; (first | omega | assumption | (focus (simp; done)) | (focus (simp; omega)) | (focus (simp at *; omega))); (first | omega | assumption | (focus (simp; done)) | (focus (simp; omega)) | (focus (simp at *; omega))); exact rfl; intro id' hid') | (apply apV pk (f := Dt.cells) [a.by_[c]] 16; (iterate 9 exact rfl); (first | exact upd_same _ _ _ | assumption | (focus ((repeat (first | exact upd_same _ _ _ | assumption | refine (upd_ne (by assumption)).trans ?_)); done))); (first | omega | assumption | (focus (simp; done)) | (focus (simp; omega)) | (focus (simp at *; omega))); exact fun _ => rfl; exact fun _ => rfl; exact bytesDt; (first | omega | assumption | (focus (simp; done)) | (focus (simp; omega)) | (focus (simp at *; omega))); (first | omega | assumption | (focus (simp; done)) | (focus (simp; omega)) | (focus (simp at *; omega))); exact rfl; intro id' hid') | (apply ap0 pk (f := Dt.cells) [a.by_[c]] 16; (iterate 10 exact rfl); exact fun _ => rfl; exact fun _ => rfl; exact bytesDt; (first | omega | assumption | (focus (simp; done)) | (focus (simp; omega)) | (focus (simp at *; omega))); (first | omega | assumption | (focus (simp; done)) | (focus (simp; omega)) | (focus (simp at *; omega))); exact rfl; intro id' hid') | (apply apV pk (f := Dt.cells) [a.by_[i]] 16; (iterate 9 exact rfl); (first | exact upd_same _ _ _ | assumption | (focus ((repeat (first | exact upd_same _ _ _ | assumption | refine (upd_ne (by assumption)).trans ?_)); done))); (first | omega | assumption | (focus (simp; done)) | (focus (simp; omega)) | (focus (simp at *; omega))); exact fun _ => rfl; exact fun _ => rfl; exact bytesDt; (first | omega | assumption | (focus (simp; done)) | (focus (simp; omega)) | (focus (simp at *; omega))); (first | omega | assumption | (focus (simp; done)) | (focus (simp; omega)) | (focus (simp at *; omega))); exact rfl; intro id' hid') | (apply ap0 pk (f := Dt.cells) [a.by_[i]] 16; (iterate 10 exact rfl); exact fun _ => rfl; exact fun _ => rfl; exact bytesDt; (first | omega | assumption | (focus (simp; done)) | (focus (simp; omega)) | (focus (simp at *; omega))); (first | omega | assumption | (focus (simp; done)) | (focus (simp; omega)) | (focus (simp at *; omega))); exact rfl; intro id' hid') | (refine ⟨⟨i + 1, by omega, hIA⟩, ?_, by simp only; omega⟩; (first | exact Sub.nil _ _ _ (StSub.refl _) rfl | ((repeat (first | refine Sub.pv ?_ rfl | refine Sub.var ?_ rfl rfl)); (first | exact Sub.nil _ _ _ (stsub_two2 (by assumption) (by assumption) rfl) rfl | exact Sub.nil _ _ _ (StSub.refl _) rfl | exact Sub.nil _ _ _ (stsub_swap (by assumption)) rfl | exact Sub.nil _ _ _ (stsub_eq (by first | rfl | exact upd_eta (by assumption) | ((simp only [St.pv, St.put, St.sst, St.setv, St.nil, St.var, upd_upd]); first | done | rfl))) rfl | (refine Sub.nil _ _ _ (stsub_eq ?_) rfl; (simp only [St.pv, St.put, St.sst, St.setv, St.nil, St.var, upd_upd]); (rw [upd4 (by assumption)]); first | done | rfl))))) | ((first | refine ⟨⟨(c + 1, id', true, c + 2), by simp only; omega, none_two hid (fresh_updN hid'), hfC, rfl⟩, ?_, by simp only; omega⟩ | refine ⟨⟨(i + 1, id', false, c + 1), by simp only; omega, fresh_updN hid', hf2, hc2⟩, ?_, by simp only; omega⟩ | refine ⟨⟨(i + 1, id', true, c + 1), by simp only; omega, fresh_updN hid', hf2, hc2⟩, ?_, by simp only; omega⟩); ((dsimp only; try rw [e])); (first | exact Sub.nil _ _ _ (StSub.refl _) rfl | ((repeat (first | refine Sub.pv ?_ rfl | refine Sub.var ?_ rfl rfl | refine Sub.pv' ?_ rfl (by (first | rfl | simp)) | refine Sub.var' ?_ rfl rfl (by (first | rfl | simp)))); (first | exact Sub.nil _ _ _ (stsub_two2 (by assumption) (by assumption) rfl) rfl | exact Sub.nil _ _ _ (StSub.refl _) rfl | exact Sub.nil _ _ _ (stsub_swap (by assumption)) rfl | exact Sub.nil _ _ _ (stsub_eq (by first | rfl | exact upd_eta (by assumption) | ((simp only [St.pv, St.put, St.sst, St.setv, St.nil, St.var, upd_upd]); first | done | rfl))) rfl | (refine Sub.nil _ _ _ (stsub_eq ?_) rfl; (simp only [St.pv, St.put, St.sst, St.setv, St.nil, St.var, upd_upd]); (rw [upd4 (by assumption)]); first | done | rfl))))) | (intros; (try simp only [List.length_map]); omega) | (exfalso; grind [Dt.ext_iff]))))
theorem rwrote_spec (a : Ln) (d : Dt) (hl : a.by_.length < 100000000000) : PF Tryz.prog 24 [.agg a.cells, .agg d.cells] (.agg (wroteP a d).cells) := fun st =>
  pc_end (sz := 2) (rwrote_pc a d st hl _ _ rfl rfl) fun p st' h => by
    rcases h with ⟨rfl, rfl, hd⟩ | ⟨hd, id, rfl, h3, rfl⟩
    · exact .inr ⟨_, _, Wk.refl _, StSub.refl _, by rw [wroteP, if_pos hd], rfl⟩
    · exact .inl ⟨id, 40, (putInDt a.by_ (dotAt a.by_ d) [d]).map Dt.cells, _, st, upd_same _ _ _, cellsDt, .agg (.cons .refl (.cons .refl (.cons (fz_list rfl) .nil))), stsub_new h3, by rw [wroteP, if_neg hd]; rfl, rfl⟩
end Go.Proofs.YtkaliolnijkadaaGreatDoor
namespace Go.Proofs.YtkaliolnijkadaaGreatDoor
open Go Go.Abs
attribute [local irreducible] Ev PWp
set_option maxRecDepth 10000
set_option maxHeartbeats 4000000
section
variable {P : Program} {tt : TT} {l : List Oper} {d : Md} {r : List Oper} {s : St} {K : St → Prop} {t : Nat} {ty : TypeId} {pos : String} {after : Array Edge}
theorem addW {T T2 : TypeId} {x y : Operand} {a b : Int} (hx : opd s x = some (.val (.int .i64 a))) (hy : opd s y = some (.val (.int .i64 b))) (hf : flagsB s [x, y] = true) (hd : Nat.blt t s.n = true) (ht : tagE d l r = true) (k : ∀ c, Ev P l d r (s.put (some t) true (.pv (.val (.int .i64 c)))) K) : Ev P l d (⟨some t, .binOp .add T x y T2, ty, pos, after, none⟩ :: r) s K :=
  ev_arithg (c := IntKind.i64.wrap (a + b)) rfl hx hy (fun _ => .inl ⟨rfl, rfl⟩) (by simp only [flagsB, Bool.and_eq_true] at hf; exact ⟨fun _ => hf.1, fun _ => hf.2.1, trivial⟩) hd ht (k _)
end
def tot (b : Bs) : Nat := (b.map fun d => d.lines.length).sum
theorem tot_up {b : Bs} {i : Nat} (h : i < b.length) : tot (b.take (i + 1)) = tot (b.take i) + b[i].lines.length := by
  unfold tot
  rw [List.take_succ_eq_append_getElem h, List.map_append, List.sum_append]; simp
theorem tot_le (b : Bs) (i : Nat) : tot (b.take i) ≤ tot b := by
  have : tot b = tot (b.take i) + tot (b.drop i) := by
    unfold tot; rw [← List.sum_append, ← List.map_append, List.take_append_drop]
  omega
def fewP (b : Bs) : Bool := decide (b.length ≤ 20) && (decide (tot b ≤ 100) && b.all fun d => d.lines.all smallP)
theorem few_no {b : Bs} {i y : Nat} (hi : i < b.length) (hy : y < b[i].lines.length) (h : smallP b[i].lines[y] = false) : fewP b = false := by
  unfold fewP
  have : (b.all fun d => d.lines.all smallP) = false := by
    rw [← Bool.not_eq_true, List.all_eq_true]
    intro q
    have := List.all_eq_true.1 (q _ (List.getElem_mem hi)) _ (List.getElem_mem hy)
    rw [h] at this; cases this
  rw [this]; simp
theorem few_spec (b : Bs) (hb : b.length < 200000000000000) (hd : ∀ d ∈ b, d.lines.length < 200000000000000 ∧ ∀ l ∈ d.lines, l.cells_.length < 4611686018427387904) : PF Tryz.prog 10 [.agg (bsC b)] (PV.val (Value.bool (fewP b))) := by
  by_cases h20 : ¬ b.length ≤ 20
  · have hF : fewP b = false := by unfold fewP; rw [decide_eq_false h20]; rfl
    rw [hF]
    refine pf_of tt_ok Tryz.func10 (by kernel_rfl) rfl rfl rfl rfl (fun st => ?_)
    focus ((try (apply wO pk; exact rfl)); (repeat' (first | (show All _; constructor) | (show Imp _ _; constructor) | (show ImpX _ _ _ _; constructor) | (apply wC pk; (iterate 2 exact rfl)) | (apply wE pk; (iterate 2 exact rfl)) | (apply wX pk; exact rfl) | (apply wN pk; exact rfl) | (apply wD pk [] []; kernel_rfl; exact rfl; exact rfl) | (apply pwp_condC; simp only [cond_true, cond_false]) | (refine pwp_cond rfl (fun h => ?_) (fun h => ?_) <;> (try simp at h) <;> try (exfalso; omega)) | (refine pwp_ret ?_; refine ⟨_, _, _, rfl, Wk.refl _, StSub.refl _, ?_, rfl⟩; try rfl) | (intros; (try simp only [List.length_map]); omega))))
    refine pwp_loop (X := { x : Nat × Int // x.1 ≤ b.length }) (fun i => ((((St.nil 56 st).var 1 27 ((bsC b))).pv 3 ((PV.val (Value.int .i64 (i.1.2))))).pv 4 ((PV.val (Value.int .i64 ((i.1.1 : Nat))))))) (fun i => b.length - i.1.1) ⟨(0, 0), by simp⟩ ?_ (fun i => ?_)
    · ((repeat (first | refine Sub.pv ?_ rfl | refine Sub.var ?_ rfl rfl)); exact Sub.nil _ _ _ (StSub.refl _) rfl)
    obtain ⟨⟨i, n⟩, hi⟩ := i
    simp only at hi
    dsimp only
    by_cases hend : b.length ≤ i
    rotate_left
    have hil : i < b.length := by omega
    have hdl := (hd _ (List.getElem_mem hil)).1
    focus ((try (apply wO pk; exact rfl)); (repeat' (first | ((iterate 3 (apply ev_val tt_ok; (iterate 4 exact rfl))); apply addW; (iterate 5 exact rfl); intro n') | (show All _; constructor) | (show Imp _ _; constructor) | (show ImpX _ _ _ _; constructor) | (apply wC pk; (iterate 2 exact rfl)) | (apply wE pk; (iterate 2 exact rfl)) | (apply wX pk; exact rfl) | (apply wN pk; exact rfl) | (apply wD pk [] []; kernel_rfl; exact rfl; exact rfl) | (apply pwp_condC; simp only [cond_true, cond_false]) | (refine pwp_cond rfl (fun h => ?_) (fun h => ?_) <;> (try simp at h) <;> try (exfalso; omega)) | (refine pwp_ret ?_; refine ⟨_, _, _, rfl, Wk.refl _, StSub.refl _, ?_, rfl⟩; try rfl) | (apply idxS pk; (iterate 6 exact rfl); rotate_left; exact rfl; (intro hw; exact rfl); (intro hw; apply get_map <;> omega); (intro _; exact rfl); exact rfl) | (intros; (try simp only [List.length_map]); omega))))
    refine pwp_loop (X := { x : Nat // x ≤ b[i].lines.length }) (fun y => (((((St.nil 56 st).var 1 27 ((bsC b))).pv 3 ((PV.val (Value.int .i64 (n'))))).pv 4 ((PV.val (Value.int .i64 ((i : Nat)))))).pv 5 ((PV.val (Value.int .i64 ((y.1 : Nat))))))) (fun y => b[i].lines.length - y.1) ⟨0, by omega⟩ ?_ (fun y => ?_)
    · ((repeat (first | refine Sub.pv ?_ rfl | refine Sub.var ?_ rfl rfl)); exact Sub.nil _ _ _ (StSub.refl _) rfl)
    obtain ⟨y, hy⟩ := y
    dsimp only
    by_cases hend2 : b[i].lines.length ≤ y
    rotate_left
    have hyl : y < b[i].lines.length := by omega
    have hs := small_spec b[i].lines[y] ((hd _ (List.getElem_mem hil)).2 _ (List.getElem_mem hyl))
    rotate_left
    all_goals ((try (apply wO pk; exact rfl)); (repeat' (first | (show All _; constructor) | (show Imp _ _; constructor) | (show ImpX _ _ _ _; constructor) | (apply wC pk; (iterate 2 exact rfl)) | (apply wE pk; (iterate 2 exact rfl)) | (apply wX pk; exact rfl) | (apply wN pk; exact rfl) | (apply wD pk [] []; kernel_rfl; exact rfl; exact rfl) | (apply pwp_condC; simp only [cond_true, cond_false]) | (refine pwp_cond rfl (fun h => ?_) (fun h => ?_) <;> (try simp at h) <;> try (exfalso; omega)) | (refine pwp_ret ?_; refine ⟨_, _, _, rfl, Wk.refl _, StSub.refl _, ?_, rfl⟩; try first | rfl | ((rw [List.length_map, decide_eq_false (by omega)]; rfl); done)) | (apply callS; (iterate 3 exact rfl); (intro _; apply hs <;> first | assumption | omega); rotate_left; (iterate 2 exact rfl)) | (apply idxS pk; (iterate 6 exact rfl); rotate_left; exact rfl; (intro hw; exact rfl); (intro hw; apply get_map <;> omega); (intro _; exact rfl); exact rfl) | ((first | refine ⟨⟨(i + 1, n'), by simp only; omega⟩, ?_, by simp only; omega⟩ | refine ⟨⟨y + 1, by omega⟩, ?_, by simp only; omega⟩); ((repeat (first | refine Sub.pv ?_ rfl | refine Sub.var ?_ rfl rfl)); exact Sub.nil _ _ _ (StSub.refl _) rfl)) | (intros; (try simp only [List.length_map]); omega))))
  replace h20 := Decidable.of_not_not h20
  refine pf_of tt_ok Tryz.func10 (by kernel_rfl) rfl rfl rfl rfl (fun st => ?_)
  focus ((try (apply wO pk; exact rfl)); (repeat' (first | (show All _; constructor) | (show Imp _ _; constructor) | (show ImpX _ _ _ _; constructor) | (apply wC pk; (iterate 2 exact rfl)) | (apply wE pk; (iterate 2 exact rfl)) | (apply wX pk; exact rfl) | (apply wN pk; exact rfl) | (apply wD pk [] []; kernel_rfl; exact rfl; exact rfl) | (apply pwp_condC; simp only [cond_true, cond_false]) | (refine pwp_cond rfl (fun h => ?_) (fun h => ?_) <;> (try simp at h) <;> try (exfalso; omega)) | (refine pwp_ret ?_; refine ⟨_, _, _, rfl, Wk.refl _, StSub.refl _, ?_, rfl⟩; try rfl) | (intros; (try simp only [List.length_map]); omega))))
  refine pwp_loop (X := { x : Nat × Nat // x.1 ≤ b.length ∧ x.2 = tot (b.take x.1) ∧ x.2 ≤ x.1 * 200000000000000 ∧ (x.2 ≤ 100 → ∀ j (h : j < b.length), j < x.1 → ∀ l ∈ b[j].lines, smallP l = true) }) (fun i => ((((St.nil 56 st).var 1 27 ((bsC b))).pv 3 ((PV.val (Value.int .i64 ((i.1.2 : Nat)))))).pv 4 ((PV.val (Value.int .i64 ((i.1.1 : Nat))))))) (fun i => b.length - i.1.1) ⟨(0, 0), by simp, rfl, by simp, by simp⟩ ?_ (fun i => ?_)
  · ((repeat (first | refine Sub.pv ?_ rfl | refine Sub.var ?_ rfl rfl)); exact Sub.nil _ _ _ (StSub.refl _) rfl)
  obtain ⟨⟨i, n⟩, hi, hn, hb2, hS⟩ := i
  simp only at hi hn hb2 hS
  dsimp only
  by_cases hend : b.length ≤ i
  have e : decide ((n : Int) ≤ 100) = (decide (tot b ≤ 100) && b.all fun d => d.lines.all smallP) := by
    rw [List.take_of_length_le hend] at hn
    subst hn
    by_cases q : tot b ≤ 100
    · rw [decide_eq_true (by omega), decide_eq_true q, Bool.true_and, eq_comm, List.all_eq_true]
      intro d hd'
      obtain ⟨j, hj, rfl⟩ := List.getElem_of_mem hd'
      rw [List.all_eq_true]
      exact hS q j hj (by omega)
    · rw [decide_eq_false (by omega), decide_eq_false q]; rfl
  have e2 : decide ((b.length : Int) ≤ 20) = decide (b.length ≤ 20) := by rw [decide_eq_decide]; omega
  rotate_left
  have hil : i < b.length := by omega
  obtain ⟨d1, d2⟩ := hd _ (List.getElem_mem hil)
  have ht := tot_up hil
  have hF := fun y h => few_no (y := y) hil h
  focus ((try (apply wO pk; exact rfl)); (repeat' (first | (show All _; constructor) | (show Imp _ _; constructor) | (show ImpX _ _ _ _; constructor) | (apply wC pk; (iterate 2 exact rfl)) | (apply wE pk; (iterate 2 exact rfl)) | (apply wX pk; exact rfl) | (apply wN pk; exact rfl) | (apply wD pk [] []; kernel_rfl; exact rfl; exact rfl) | (apply pwp_condC; simp only [cond_true, cond_false]) | (refine pwp_cond rfl (fun h => ?_) (fun h => ?_) <;> (try simp at h) <;> try (exfalso; omega)) | (refine pwp_ret ?_; refine ⟨_, _, _, rfl, Wk.refl _, StSub.refl _, ?_, rfl⟩; try rfl) | (apply idxS pk; (iterate 6 exact rfl); rotate_left; exact rfl; (intro hw; exact rfl); (intro hw; apply get_map <;> omega); (intro _; exact rfl); exact rfl) | (intros; (try simp only [List.length_map]); omega))))
  refine pwp_loop (X := { x : Nat // x ≤ b[i].lines.length ∧ (n + b[i].lines.length ≤ 100 → ∀ j (h : j < b[i].lines.length), j < x → smallP b[i].lines[j] = true) }) (fun y => (((((St.nil 56 st).var 1 27 ((bsC b))).pv 3 ((PV.val (Value.int .i64 (((n + b[i].lines.length : Nat) : Int)))))).pv 4 ((PV.val (Value.int .i64 ((i : Nat)))))).pv 5 ((PV.val (Value.int .i64 ((y.1 : Nat))))))) (fun y => b[i].lines.length - y.1) ⟨0, by omega, by omega⟩ ?_ (fun y => ?_)
  · ((repeat (first | refine Sub.pv ?_ rfl | refine Sub.var ?_ rfl rfl | refine Sub.pv' ?_ rfl (by (congr 2; rw [List.length_map]; omega)) | refine Sub.var' ?_ rfl rfl (by (congr 2; rw [List.length_map]; omega)))); exact Sub.nil _ _ _ (StSub.refl _) rfl)
  obtain ⟨y, hy, hyS⟩ := y
  dsimp only
  have hnx : ¬ (y < b[i].lines.length ∧ n + b[i].lines.length ≤ 100) → (n + b[i].lines.length ≤ 100 → ∀ j (h : j < b.length), j < i + 1 → ∀ l ∈ b[j].lines, smallP l = true) := fun h q j hj hji l hl => by
    rcases Nat.lt_succ_iff_lt_or_eq.1 hji with r | r
    · exact hS (by omega) j hj r l hl
    · subst r
      obtain ⟨z, hz, rfl⟩ := List.getElem_of_mem hl
      exact hyS q z hz (by omega)
  have hn2 : n + b[i].lines.length = tot (b.take (i + 1)) := by omega
  by_cases hend2 : b[i].lines.length ≤ y
  rotate_left
  have hyl : y < b[i].lines.length := by omega
  have hs := small_spec b[i].lines[y] (d2 _ (List.getElem_mem hyl))
  have hF2 := hF y hyl
  have hSt : smallP b[i].lines[y] = true → (n + b[i].lines.length ≤ 100 → ∀ j (h : j < b[i].lines.length), j < y + 1 → smallP b[i].lines[j] = true) := fun h q j hj hjy => by
    rcases Nat.lt_succ_iff_lt_or_eq.1 hjy with r | r
    · exact hyS q j hj r
    · subst r; exact h
  generalize hG : smallP b[i].lines[y] = G at *
  cases G
  rotate_left
  rotate_left
  all_goals ((try (apply wO pk; exact rfl)); (repeat' (first | (show All _; constructor) | (show Imp _ _; constructor) | (show ImpX _ _ _ _; constructor) | (apply wC pk; (iterate 2 exact rfl)) | (apply wE pk; (iterate 2 exact rfl)) | (apply wX pk; exact rfl) | (apply wN pk; exact rfl) | (apply wD pk [] []; kernel_rfl; exact rfl; exact rfl) | (apply pwp_condC; simp only [cond_true, cond_false]) | (refine pwp_cond rfl (fun h => ?_) (fun h => ?_) <;> (try simp at h) <;> try (exfalso; omega)) | (refine pwp_ret ?_; refine ⟨_, _, _, rfl, Wk.refl _, StSub.refl _, ?_, rfl⟩; try first | rfl | ((first | ((rw [List.length_map]; unfold fewP; rw [← e, ← e2]); done) | ((rw [hF2 rfl]); done)); done)) | (apply callS; (iterate 3 exact rfl); (intro _; apply hs <;> first | assumption | omega); rotate_left; (iterate 2 exact rfl)) | (apply idxS pk; (iterate 6 exact rfl); rotate_left; exact rfl; (intro hw; exact rfl); (intro hw; apply get_map <;> omega); (intro _; exact rfl); exact rfl) | ((first | refine ⟨⟨(i + 1, n + b[i].lines.length), by simp only; omega, hn2, by simp only; omega, hnx (by omega)⟩, ?_, by simp only; omega⟩ | refine ⟨⟨y + 1, by omega, hSt rfl⟩, ?_, by simp only; omega⟩); ((repeat (first | refine Sub.pv ?_ rfl | refine Sub.var ?_ rfl rfl)); exact Sub.nil _ _ _ (StSub.refl _) rfl)) | (intros; (try simp only [List.length_map]); omega))))
end Go.Proofs.YtkaliolnijkadaaGreatDoor
namespace Go.Proofs.YtkaliolnijkadaaGreatDoor
open Go Go.Abs
attribute [local irreducible] Ev PWp
set_option maxRecDepth 10000
set_option maxHeartbeats 4000000
def LnS (l : Ln) : Prop := l.by_.length ≤ 1000 ∧ l.cells_.length ≤ 1000 ∧ ∀ c ∈ l.cells_, c.parts.length ≤ 1000
def BsS (n : Nat) (b : Bs) : Prop := b.length ≤ 20 ∧ ∀ d ∈ b, d.lines.length ≤ n ∧ ∀ l ∈ d.lines, LnS l
theorem small_S {l : Ln} (h : smallP l = true) : LnS l := by
  unfold smallP at h
  simp only [Bool.and_eq_true, decide_eq_true_eq, List.all_eq_true, smallC] at h
  exact ⟨by omega, by omega, fun c hc => by have := (h.1 c hc).1; omega⟩
theorem few_S {b : Bs} (h : fewP b = true) : BsS 100 b := by
  unfold fewP at h
  simp only [Bool.and_eq_true, decide_eq_true_eq, List.all_eq_true] at h
  obtain ⟨h1, h2, h3⟩ := h
  refine ⟨h1, fun d hd => ⟨?_, fun l hl => small_S (h3 d hd l hl)⟩⟩
  obtain ⟨j, hj, rfl⟩ := List.getElem_of_mem hd
  have e1 := tot_up hj
  have e2 := tot_le b (j + 1)
  omega
theorem BsS.up {n m : Nat} {b : Bs} (h : BsS n b) (hm : n ≤ m) : BsS m b := ⟨h.1, fun d hd => ⟨Nat.le_trans (h.2 d hd).1 hm, (h.2 d hd).2⟩⟩
theorem BsS.lines {n : Nat} {b : Bs} (h : BsS n b) (k : Int) : (linesP b k).length ≤ n ∧ ∀ l ∈ linesP b k, LnS l := by
  unfold linesP
  split
  · rename_i q
    simp only [okT, Bool.and_eq_true, decide_eq_true_eq] at q
    have hk : k.toNat < b.length := by omega
    rw [getElem!_pos b k.toNat hk]
    exact h.2 _ (List.getElem_mem hk)
  · exact ⟨Nat.zero_le _, fun l hl => by cases hl⟩
theorem BsS.set {n : Nat} {b : Bs} (h : BsS n b) (k : Int) {ls : List Ln} (h1 : ls.length ≤ n) (h2 : ∀ l ∈ ls, LnS l) : BsS n (setL b k ls) := by
  refine ⟨by rw [setL_len]; exact h.1, fun d hd => ?_⟩
  unfold setL at hd
  split at hd
  · rcases List.mem_or_eq_of_mem_set hd with q | q
    · exact h.2 d q
    · subst q; exact ⟨h1, h2⟩
  · exact h.2 d hd
theorem putL_mem {L : List Ln} {a x : Ln} (h : x ∈ putL L a) : x = a ∨ x ∈ L := by
  unfold putL putInLn at h
  split at h
  · exact (List.mem_or_eq_of_mem_set h).symm
  · simp only [List.mem_append, List.mem_singleton] at h
    rcases h with (h | h) | h
    · exact .inr (List.mem_of_mem_take h)
    · exact .inl h
    · exact .inr (List.mem_of_mem_drop h)
theorem putL_len (L : List Ln) (a : Ln) : (putL L a).length ≤ L.length + 1 := by
  unfold putL
  split
  · simp
  · obtain ⟨j, hj, e, _⟩ := at_cases L a.key
    rw [e, Int.toNat_natCast, putIn_take hj]; exact Nat.le_refl _
theorem BsS.put {n : Nat} {b : Bs} (h : BsS n b) (k : Int) {a : Ln} (ha : LnS a) : BsS (n + 1) (putP b k a) := by
  rw [putP_set]
  refine (h.up (Nat.le_succ n)).set k ?_ fun l hl => ?_
  · have := putL_len (linesP b k) a; have := (h.lines k).1; omega
  · rcases putL_mem hl with rfl | q
    · exact ha
    · exact (h.lines k).2 l q
theorem BsS.drop {n : Nat} {b : Bs} (h : BsS n b) (k key : Int) : BsS n (dropP b k key) := by
  rw [dropP_set]
  refine h.set k ?_ fun l hl => ?_
  · split
    · exact Nat.le_trans (List.length_eraseIdx_le ..) (h.lines k).1
    · exact (h.lines k).1
  · split at hl
    · exact (h.lines k).2 l (List.mem_of_mem_eraseIdx hl)
    · exact (h.lines k).2 l hl
theorem LnS.wrote {l : Ln} (h : LnS l) (hb : l.by_.length ≤ 900) (d : Dt) : LnS (wroteP l d) := by
  unfold wroteP
  split
  · exact h
  · exact ⟨by show (putInDt l.by_ (dotAt l.by_ d) [d]).length ≤ 1000; rw [putInDt_len (dotAt_le _ _)]; simp; omega, h.2⟩
theorem BsS.p {n : Nat} {b : Bs} (h : BsS n b) (hn : n ≤ 1000) : ∀ d ∈ b, d.lines.length < 1000000000000 ∧ ∀ x ∈ d.lines, x.by_.length < 1000000000000 ∧ x.cells_.length < 1000000000000 ∧ ∀ c ∈ x.cells_, c.parts.length < 1000000000000 := fun d hd => by
  obtain ⟨h1, h2⟩ := h.2 d hd
  refine ⟨by omega, fun x hx => ?_⟩
  obtain ⟨q1, q2, q3⟩ := h2 x hx
  exact ⟨by omega, by omega, fun c hc => by have := q3 c hc; omega⟩
theorem BsS.l {n : Nat} {b : Bs} (h : BsS n b) (hn : n ≤ 1000) : b.length < 100000000000 ∧ ∀ d ∈ b, d.lines.length < 100000000000 := ⟨by have := h.1; omega, fun d hd => by have := (h.2 d hd).1; omega⟩
theorem sameB_spec {n : Nat} {b : Bs} (h : BsS n b) (hn : n ≤ 1000) (c : Bs) : PF Tryz.prog 14 [.agg (bsC b), .agg (bsC c)] (PV.val (Value.bool (decide (b = c)))) := same2_spec b c (by have := h.1; omega) (h.p hn)
theorem sameL_spec {a : Ln} (h : LnS a) (b : Ln) : PF Tryz.prog 22 [.agg a.cells, .agg b.cells] (PV.val (Value.bool (decide (a = b)))) := sameLine_spec a b (by have := h.1; omega) (by have := h.2.1; omega) fun c hc => by have := h.2.2 c hc; omega
def BsB (b : Bs) : Prop := b.length < 200000000000000 ∧ ∀ d ∈ b, d.lines.length < 200000000000000 ∧ ∀ l ∈ d.lines, l.cells_.length < 4611686018427387904
theorem turns_spec (b : Bs) (z0 z1 : Int) (l : Ln) (hb : BsB b) (hl : l.cells_.length < 4611686018427387904) : PF Tryz.prog 4 [.agg (bsC b), .agg [(PV.val (Value.int .i64 (z0))), (PV.val (Value.int .i64 (z1)))], .agg l.cells] (PV.val (Value.bool (true))) := by
  have hA := alive_spec
  have hf := few_spec b hb.1 hb.2
  have hs := Small_spec l hl
  by_cases hg : ¬ (fewP b = true ∧ smallP l = true)
  · generalize fewP b = F at *
    generalize smallP l = S at *
    refine pf_of tt_ok Tryz.func4 (by kernel_rfl) rfl rfl rfl rfl (fun st => ?_)
    (try (apply wO pk; exact rfl)); (repeat' (first | ((exfalso; grind)) | (show All _; constructor) | (show Imp _ _; constructor) | (show ImpX _ _ _ _; constructor) | (apply wC pk; (iterate 2 exact rfl)) | (apply wE pk; (iterate 2 exact rfl)) | (apply wX pk; exact rfl) | (apply wN pk; exact rfl) | (apply wD pk [] []; kernel_rfl; exact rfl; exact rfl) | (apply pwp_condC; simp only [cond_true, cond_false]) | (refine pwp_cond rfl (fun h => ?_) (fun h => ?_) <;> (try simp at h) <;> try (exfalso; omega)) | (refine pwp_ret ?_; refine ⟨_, _, _, rfl, Wk.refl _, StSub.refl _, ?_, rfl⟩; try rfl) | (apply callS; (iterate 3 exact rfl); (intro _; (first | apply hA | apply hf | apply hs) <;> first | assumption | omega); rotate_left; (iterate 2 exact rfl)) | (intros; (try simp only [List.length_map]); omega)))
  obtain ⟨g1, g2⟩ := Decidable.of_not_not hg
  rw [g1] at hf
  rw [g2] at hs
  have hB := few_S g1
  have hL := small_S g2
  have hL60 : l.by_.length ≤ 60 := by unfold smallP at g2; simp only [Bool.and_eq_true, decide_eq_true_eq] at g2; omega
  obtain ⟨l1, l2⟩ := hB.l (by omega)
  have p1 := put_spec b z0 l l1 l2
  have p2 := rput_spec b z0 l l1 (by have := (hB.lines z0).1; omega)
  have p3 := sameB_spec (hB.put z0 hL) (by omega) (putP b z0 l)
  have d1 := drop_spec b z0 z1 l1 l2
  have d2 := rdrop_spec b z0 z1 l1 (by have := (hB.lines z0).1; omega)
  have d3 := sameB_spec (hB.drop z0 z1) (by omega) (dropP b z0 z1)
  have w1 := wrote_spec l ⟨z0, z1⟩ (by omega)
  have w2 := rwrote_spec l ⟨z0, z1⟩ (by omega)
  have w3 := sameL_spec (hL.wrote (by omega) ⟨z0, z1⟩) (wroteP l ⟨z0, z1⟩)
  rw [decide_eq_true rfl] at p3 d3 w3
  refine pf_of tt_ok Tryz.func4 (by kernel_rfl) rfl rfl rfl rfl (fun st => ?_)
  (try (apply wO pk; exact rfl)); (repeat' (first | (show All _; constructor) | (show Imp _ _; constructor) | (show ImpX _ _ _ _; constructor) | (apply wC pk; (iterate 2 exact rfl)) | (apply wE pk; (iterate 2 exact rfl)) | (apply wX pk; exact rfl) | (apply wN pk; exact rfl) | (apply wD pk [] []; kernel_rfl; exact rfl; exact rfl) | (apply pwp_condC; simp only [cond_true, cond_false]) | (refine pwp_cond rfl (fun h => ?_) (fun h => ?_) <;> (try simp at h) <;> try (exfalso; omega)) | (refine pwp_ret ?_; refine ⟨_, _, _, rfl, Wk.refl _, StSub.refl _, ?_, rfl⟩; try rfl) | (apply callS; (iterate 3 exact rfl); (intro _; (first | apply hA | apply hf | apply hs | apply p1 | apply p2 | apply p3 | apply d1 | apply d2 | apply d3 | apply w1 | apply w2 | apply w3) <;> first | assumption | omega); rotate_left; (iterate 2 exact rfl)) | ((apply idxL pk 0; (iterate 5 exact rfl); (focus repeat' constructor); exact rfl; (intro _; rfl); (intro _; omega); exact rfl)) | ((apply idxL pk 1; (iterate 5 exact rfl); (focus repeat' constructor); exact rfl; (intro _; rfl); (intro _; omega); exact rfl)) | (intros; (try simp only [List.length_map]); omega)))
end Go.Proofs.YtkaliolnijkadaaGreatDoor
