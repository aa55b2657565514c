import Derived.Test.YtkaliolnijkadaaGreatDoorBsShow
import Derived.Test.YtkaliolnijkadaaGreatDoorAbsI
import Derived.Test.YtkaliolnijkadaaGreatDoorAbsG
set_option linter.unusedSimpArgs false
set_option linter.unusedVariables false
namespace Go.Proofs.YtkaliolnijkadaaGreatDoor
open Go Go.Abs
attribute [local irreducible] Ev PWp
set_option maxRecDepth 10000
set_option maxHeartbeats 4000000
theorem take_up {α : Type} {l : List α} {i : Nat} {x : α} (h : i < l.length) (e : l[i] = x) : l.take (i + 1) = l.take i ++ [x] := by rw [List.take_succ_eq_append_getElem h, e]
def setL (b : Bs) (k : Int) (ls : List Ln) : Bs := if okT b k then b.set k.toNat ⟨ls⟩ else b
theorem setL_len (b : Bs) (k : Int) (ls : List Ln) : (setL b k ls).length = b.length := by unfold setL; split <;> simp
theorem setL_eq {b : Bs} {k : Int} {ls : List Ln} {i : Nat} (h : i < b.length) (hk : (i : Int) = k) : (setL b k ls)[i]'(by rw [setL_len]; exact h) = ⟨ls⟩ := by
  subst hk
  simp [setL, okT, h]
theorem setL_ne {b : Bs} {k : Int} {ls : List Ln} {i : Nat} (h : i < b.length) (hk : ¬ (i : Int) = k) : (setL b k ls)[i]'(by rw [setL_len]; exact h) = b[i] := by
  unfold setL
  split
  · rename_i q
    simp only [okT, Bool.and_eq_true, decide_eq_true_eq] at q
    rw [List.getElem_set_ne (by omega)]
  · rfl
theorem rwith_pc (b : Bs) (k : Int) (ls : List Ln) (hb : b.length < 100000000000) (st : Store) : PC Tryz.prog 43 [.agg (bsC b), (PV.val (Value.int .i64 (k))), .seq (ls.map Ln.cells)] st fun r S => ∃ id, r = .agg [.vec id 1 0 b.length] ∧ st id = none ∧ S = upd st id (some (.arr 57 ((setL b k ls).map Da.cells))) := by
  have hsl := setL_len b k ls
  refine pc_of tt_ok Tryz.func43 (by kernel_rfl) rfl rfl rfl rfl ?_
  (try (apply wO pk; exact rfl)); (repeat' (first | (show All _; constructor) | (show Imp _ _; constructor) | (show ImpX _ _ _ _; constructor) | (apply wC pk; (iterate 2 exact rfl)) | (apply wE pk; (iterate 2 exact rfl)) | (apply wX pk; exact rfl) | (apply wN pk; exact rfl) | (apply wD pk [] []; kernel_rfl; exact rfl; exact rfl) | (apply pwp_condC; simp only [cond_true, cond_false]) | (refine pwp_cond rfl (fun h => ?_) (fun h => ?_) <;> (try simp at h) <;> try (exfalso; omega)) | (refine pwp_ret ?_; refine ⟨_, _, _, rfl, Wk.refl _, StSub.refl _, ?_, rfl⟩; try rfl) | (intros; (try simp only [List.length_map]); omega)))
  refine pwp_empW 7 57 1 [] rfl rfl rfl (fun id hid => ?_)
  refine pwp_loop (X := { x : Nat × Nat // x.1 ≤ b.length ∧ st x.2 = none }) (fun i => (((((((St.nil 37 (upd st i.1.2 (some (.arr 57 (((setL b k ls).take i.1.1).map Da.cells))))).pv 1 ((PV.val (Value.int .i64 (k))))).pv 2 (.seq (ls.map Ln.cells))).var 3 27 ((bsC b))).var 6 27 ([.val (.slice none 0 0)])).var 7 27 ([.vec i.1.2 1 0 i.1.1])).pv 8 ((PV.val (Value.int .i64 ((i.1.1 : Nat))))))) (fun i => b.length - i.1.1) ⟨(0, id), by simp, hid⟩ ?_ (fun i => ?_)
  · dsimp only
    (first | exact Sub.nil _ _ _ (StSub.refl _) rfl | ((repeat (first | refine Sub.pv ?_ rfl | refine Sub.var ?_ rfl rfl)); (first | exact Sub.nil _ _ _ (StSub.refl _) rfl | exact Sub.nil _ _ _ (stsub_swap (by assumption)) rfl | exact Sub.nil _ _ _ (stsub_eq (by first | rfl | exact upd_eta (by assumption) | ((simp only [St.pv, St.put, St.sst, St.setv, St.nil, St.var, upd_upd]); first | done | rfl))) rfl | (refine Sub.nil _ _ _ (stsub_eq ?_) rfl; (simp only [St.pv, St.put, St.sst, St.setv, St.nil, St.var, upd_upd]); (rw [upd4 (by assumption)]); first | done | rfl))))
  obtain ⟨⟨i, id⟩, hi, hid⟩ := i
  simp only at hi hid
  dsimp only
  have hlen : ((setL b k ls).take i).length = i := by rw [List.length_take]; omega
  by_cases hend : b.length ≤ i
  · have e : (setL b k ls).take i = setL b k ls := List.take_of_length_le (by omega)
    obtain rfl : i = b.length := by omega
    (try (apply wO pk; exact rfl)); (repeat' (first | (show All _; constructor) | (show Imp _ _; constructor) | (show ImpX _ _ _ _; constructor) | (apply wC pk; (iterate 2 exact rfl)) | (apply wE pk; (iterate 2 exact rfl)) | (apply wX pk; exact rfl) | (apply wN pk; exact rfl) | (apply wDx pk; exact rfl; kernel_rfl; exact rfl; exact rfl) | (apply pwp_condC; simp only [cond_true, cond_false]) | (refine pwp_cond rfl (fun h => ?_) (fun h => ?_) <;> (try simp at h) <;> try (exfalso; omega)) | ((try refine pwp_ret ?_); (first | (refine ⟨_, _, _, rfl, Wk.refl _, StSub.refl _, ?_⟩; (exact ⟨id, rfl, hid, by rw [e]; rfl⟩); done) | (refine ⟨_, _, ?zs, rfl, Wk.refl _, ?zh, ?zr⟩; (case zh => (refine stsub_over ?_ (by assumption); (repeat refine stsub_over ?_ (by assumption)); exact StSub.refl _)); (case zr => (exact ⟨id, rfl, hid, by rw [e]; rfl⟩))) | refine ⟨_, _, _, rfl, Wk.refl _, StSub.refl _, ?_⟩)) | (apply ncA; (iterate 3 exact rfl); rotate_left; exact rfl; exact rfl) | (apply ldR pk; exact rfl; exact rfl; rotate_left; exact rfl; (first | exact upd_same _ _ _ | assumption | (focus ((repeat (first | exact upd_same _ _ _ | assumption | refine (upd_ne (by assumption)).trans ?_)); done))); exact rfl; exact rfl) | (apply stR pk; exact rfl; exact rfl; (first | exact upd_same _ _ _ | assumption | (focus ((repeat (first | exact upd_same _ _ _ | assumption | refine (upd_ne (by assumption)).trans ?_)); done))); exact rfl; exact rfl) | (intros; (try simp only [List.length_map]); omega)))
  have h1 : i < b.length := by omega
  by_cases hk : (i : Int) = k
  have e := take_up (by omega) (setL_eq (ls := ls) h1 hk)
  rotate_left
  have e := take_up (by omega) (setL_ne (ls := ls) h1 hk)
  rotate_left
  all_goals ((try (apply wO pk; exact rfl)); (repeat' (first | (apply wD pk [8] []; kernel_rfl; exact rfl; exact rfl) | (show All _; constructor) | (show Imp _ _; constructor) | (show ImpX _ _ _ _; constructor) | (apply wC pk; (iterate 2 exact rfl)) | (apply wE pk; (iterate 2 exact rfl)) | (apply wX pk; exact rfl) | (apply wN pk; exact rfl) | (apply wD pk [] []; kernel_rfl; exact rfl; exact rfl) | (apply pwp_condC; simp only [cond_true, cond_false]) | (refine pwp_cond rfl (fun h => ?_) (fun h => ?_) <;> (try simp at h) <;> try (exfalso; omega)) | (refine pwp_ret ?_; first | (refine ⟨_, _, _, rfl, Wk.refl _, StSub.refl _, ?_, rfl⟩; (first | rfl)) | (refine ⟨_, _, _, rfl, Wk.refl _, stsub_drop (by assumption), ?_, rfl⟩; (first | rfl)) | (refine ⟨_, _, _, rfl, Wk.soft _, StSub.refl _, ?_, rfl⟩; (first | rfl)) | (refine ⟨_, _, _, rfl, Wk.soft _, stsub_drop (by assumption), ?_, rfl⟩; (first | rfl)) | (refine ⟨_, _, _, rfl, Wk.refl _, StSub.refl _, ?_, rfl⟩) | (refine ⟨_, _, _, rfl, Wk.soft _, stsub_drop (by assumption), ?_, rfl⟩)) | (apply idxS pk; (iterate 6 exact rfl); rotate_left; exact rfl; (intro hw; exact rfl); (intro hw; apply get_map <;> omega); (intro _; exact rfl); exact rfl) | (apply apV pk (f := Da.cells) [⟨ls⟩] 24; (iterate 9 exact rfl); (first | exact upd_same _ _ _ | assumption | (focus ((repeat (first | exact upd_same _ _ _ | assumption | refine (upd_ne (by assumption)).trans ?_)); done))); (first | omega | assumption | (focus (simp; done)) | (focus (simp; omega)) | (focus (simp at *; omega))); exact fun _ => rfl; exact fun _ => rfl; exact bytesDa; (first | omega | assumption | (focus (simp; done)) | (focus (simp; omega)) | (focus (simp at *; omega))); (first | omega | assumption | (focus (simp; done)) | (focus (simp; omega)) | (focus (simp at *; omega))); exact rfl; intro id' hid') | (apply ap0 pk (f := Da.cells) [⟨ls⟩] 24; (iterate 10 exact rfl); exact fun _ => rfl; exact fun _ => rfl; exact bytesDa; (first | omega | assumption | (focus (simp; done)) | (focus (simp; omega)) | (focus (simp at *; omega))); (first | omega | assumption | (focus (simp; done)) | (focus (simp; omega)) | (focus (simp at *; omega))); exact rfl; intro id' hid') | (apply apV pk (f := Da.cells) [b[i]] 24; (iterate 9 exact rfl); (first | exact upd_same _ _ _ | assumption | (focus ((repeat (first | exact upd_same _ _ _ | assumption | refine (upd_ne (by assumption)).trans ?_)); done))); (first | omega | assumption | (focus (simp; done)) | (focus (simp; omega)) | (focus (simp at *; omega))); exact fun _ => rfl; exact fun _ => rfl; exact bytesDa; (first | omega | assumption | (focus (simp; done)) | (focus (simp; omega)) | (focus (simp at *; omega))); (first | omega | assumption | (focus (simp; done)) | (focus (simp; omega)) | (focus (simp at *; omega))); exact rfl; intro id' hid') | (apply ap0 pk (f := Da.cells) [b[i]] 24; (iterate 10 exact rfl); exact fun _ => rfl; exact fun _ => rfl; exact bytesDa; (first | omega | assumption | (focus (simp; done)) | (focus (simp; omega)) | (focus (simp at *; omega))); (first | omega | assumption | (focus (simp; done)) | (focus (simp; omega)) | (focus (simp at *; omega))); exact rfl; intro id' hid') | (refine ⟨⟨(i + 1, id'), by simp only; omega, fresh_updN hid'⟩, ?_, by simp only; omega⟩; ((dsimp only; try rw [e])); (first | exact Sub.nil _ _ _ (StSub.refl _) rfl | ((repeat (first | refine Sub.pv ?_ rfl | refine Sub.var ?_ rfl rfl | refine Sub.pv' ?_ rfl (by (first | rfl | simp)) | refine Sub.var' ?_ rfl rfl (by (first | rfl | simp)))); (first | exact Sub.nil _ _ _ (StSub.refl _) rfl | exact Sub.nil _ _ _ (stsub_swap (by assumption)) rfl | exact Sub.nil _ _ _ (stsub_eq (by first | rfl | exact upd_eta (by assumption) | ((simp only [St.pv, St.put, St.sst, St.setv, St.nil, St.var, upd_upd]); first | done | rfl))) rfl | (refine Sub.nil _ _ _ (stsub_eq ?_) rfl; (simp only [St.pv, St.put, St.sst, St.setv, St.nil, St.var, upd_upd]); (rw [upd4 (by assumption)]); first | done | rfl))))) | (intros; (try simp only [List.length_map]); omega))))
end Go.Proofs.YtkaliolnijkadaaGreatDoor
namespace Go.Proofs.YtkaliolnijkadaaGreatDoor
open Go Go.Abs
theorem at_facts (L : List Ln) (k : Int) : (∃ j : Nat, ∃ h : j < L.length, atP L k = ((j : Int), true) ∧ getL L k = some L[j] ∧ L[j].key = k ∧ ∀ q (hq : q < j), L[q].key ≠ k) ∨
    (∃ j : Nat, j ≤ L.length ∧ atP L k = ((j : Int), false) ∧ getL L k = none ∧ (∀ x ∈ L, x.key ≠ k) ∧ (∀ q (hq : q < j) (h : q < L.length), ¬ L[q].key > k) ∧ ∀ h : j < L.length, L[j].key > k) := by
  unfold atP getL
  cases h : L.findIdx? fun x : Ln => decide (x.key = k) with
  | some j =>
    left
    obtain ⟨hj, hf, hn⟩ := List.findIdx?_eq_some_iff_getElem.1 h
    refine ⟨j, hj, ?_, find_at hj hf fun q hq h2 => by simpa using hn q hq, by simpa using hf, fun q hq => by simpa using hn q hq⟩
    have e : idxP (fun x : Ln => decide (x.key = k)) L = j := by unfold idxP; rw [h]
    rw [e, if_pos (by omega)]
  | none =>
    right
    have e : idxP (fun x : Ln => decide (x.key = k)) L = -1 := by unfold idxP; rw [h]
    have hne : ∀ x ∈ L, x.key ≠ k := fun x hx => by simpa using List.findIdx?_eq_none_iff.1 h x hx
    have hg : L.find? (fun x : Ln => decide (x.key = k)) = none := List.find?_eq_none.2 fun x hx => by rw [List.findIdx?_eq_none_iff.1 h x hx]; simp
    rw [e, if_neg (by omega)]
    cases h2 : L.findIdx? fun x : Ln => decide (x.key > k) with
    | some j =>
      obtain ⟨hj, hf, hn⟩ := List.findIdx?_eq_some_iff_getElem.1 h2
      have e2 : idxP (fun x : Ln => decide (x.key > k)) L = j := by unfold idxP; rw [h2]
      rw [e2, if_pos (by omega)]
      exact ⟨j, by omega, rfl, hg, hne, fun q hq hl => by simpa using hn q hq, fun _ => by simpa using hf⟩
    | none =>
      have e2 : idxP (fun x : Ln => decide (x.key > k)) L = -1 := by unfold idxP; rw [h2]
      rw [e2, if_neg (by omega)]
      exact ⟨L.length, Nat.le_refl _, rfl, hg, hne, fun q hq hl => by simpa using List.findIdx?_eq_none_iff.1 h2 L[q] (List.getElem_mem hl), fun h => absurd h (Nat.lt_irrefl _)⟩
theorem putP_set (b : Bs) (k : Int) (a : Ln) : putP b k a = setL b k (putL (linesP b k) a) := by
  unfold putP setL; rfl
theorem dropP_set (b : Bs) (k key : Int) : dropP b k key = setL b k (if (atP (linesP b k) key).2 then (linesP b k).eraseIdx (atP (linesP b k) key).1.toNat else linesP b k) := by
  unfold dropP setL
  split
  · rename_i h
    split
    · rfl
    · have h2 := h
      simp only [okT, Bool.and_eq_true, decide_eq_true_eq] at h2
      unfold linesP
      rw [if_pos h]
      obtain ⟨q, rfl⟩ : ∃ q : Nat, k = q := ⟨k.toNat, by omega⟩
      have hq : q < b.length := by omega
      rw [Int.toNat_natCast, getElem!_pos b q hq]
      exact (List.set_getElem_self hq).symm
  · rfl
theorem putIn_take {L : List Ln} {j : Nat} {a : Ln} (h : j ≤ L.length) : (putInLn L j [a]).length = L.length + 1 := by rw [putInLn_len h]; rfl
theorem putIn_lo {L : List Ln} {j i : Nat} {a : Ln} (h : i < j) (hj : j ≤ L.length) : (putInLn L j [a])[i]? = some (L[i]'(by omega)) := by
  unfold putInLn
  rw [List.append_assoc, List.getElem?_append_left (by rw [List.length_take]; omega), List.getElem?_take_of_lt h]
  exact List.getElem?_eq_getElem (by omega)
theorem putIn_at {L : List Ln} {j : Nat} {a : Ln} (hj : j ≤ L.length) : (putInLn L j [a])[j]? = some a := by
  unfold putInLn
  rw [List.append_assoc, List.getElem?_append_right (by rw [List.length_take]; omega), List.length_take, Nat.min_eq_left hj, Nat.sub_self]
  rfl
theorem putIn_hi {L : List Ln} {j i : Nat} {a : Ln} (h : j ≤ i) (hi : i < L.length) : (putInLn L j [a])[i + 1]? = some L[i] := by
  unfold putInLn
  rw [List.append_assoc, List.getElem?_append_right (by rw [List.length_take]; omega), List.length_take, Nat.min_eq_left (by omega), show i + 1 - j = (i - j) + 1 by omega]
  simp only [List.singleton_append, List.getElem?_cons_succ, List.getElem?_drop]
  rw [show j + (i - j) = i by omega]
  exact List.getElem?_eq_getElem hi
theorem take_upQ {α : Type} {l : List α} {i : Nat} {x : α} (e : l[i]? = some x) : l.take (i + 1) = l.take i ++ [x] := by
  obtain ⟨h, e⟩ := List.getElem?_eq_some_iff.1 e
  exact take_up h e
end Go.Proofs.YtkaliolnijkadaaGreatDoor
namespace Go.Proofs.YtkaliolnijkadaaGreatDoor
open Go Go.Abs
attribute [local irreducible] Ev PWp
set_option maxRecDepth 10000
set_option maxHeartbeats 4000000
theorem rwith_spec (b : Bs) (k : Int) (ls : List Ln) (hb : b.length < 100000000000) : PF Tryz.prog 43 [.agg (bsC b), (PV.val (Value.int .i64 (k))), .seq (ls.map Ln.cells)] (.agg (bsC (setL b k ls))) := fun st =>
  pc_end (sz := 1) (rwith_pc b k ls hb st) fun p st' h => by
    obtain ⟨id, rfl, h3, rfl⟩ := h
    exact .inl ⟨id, 57, (setL b k ls).map Da.cells, _, st, upd_same _ _ _, cellsDa, .agg (.cons (fz_list (setL_len b k ls)) .nil), stsub_new h3, rfl, rfl⟩
theorem rput_spec (b : Bs) (k : Int) (a : Ln) (hb : b.length < 100000000000) (hL : (linesP b k).length < 100000000000) : PF Tryz.prog 19 [.agg (bsC b), (PV.val (Value.int .i64 (k))), .agg a.cells] (.agg (bsC (putP b k a))) := by
  have hg := rget_spec b k a.key (by omega)
  have hl := lines_spec b k
  rw [putP_set]
  have hF := at_facts (linesP b k) a.key
  unfold putL
  generalize linesP b k = L at *
  rcases hF with ⟨j, hj, h1, h2, h3, h4⟩ | ⟨j, hj, h1, h2, h3, h4, h5⟩
  rw [h2] at hg
  rw [h1, if_pos rfl, Int.toNat_natCast]
  have hR : (L.set j a).length = L.length := by simp
  have hw := rwith_spec b k (L.set j a) hb
  have hlA : ((L.set j a).map Ln.cells).length = L.length := (List.length_map _).trans hR
  refine pf_of tt_ok Tryz.func19 (by kernel_rfl) rfl rfl rfl rfl (fun st => ?_)
  focus ((try (apply wO pk; exact rfl)); (repeat' (first | (show All _; constructor) | (show Imp _ _; constructor) | (show ImpX _ _ _ _; constructor) | (apply wC pk; (iterate 2 exact rfl)) | (apply wE pk; (iterate 2 exact rfl)) | (apply wX pk; exact rfl) | (apply wN pk; exact rfl) | (apply wD pk [] []; kernel_rfl; exact rfl; exact rfl) | (apply pwp_condC; simp only [cond_true, cond_false]) | (refine pwp_cond rfl (fun h => ?_) (fun h => ?_) <;> (try simp at h) <;> try (exfalso; omega)) | (refine pwp_ret ?_; refine ⟨_, _, _, rfl, Wk.refl _, StSub.refl _, ?_, rfl⟩; try rfl) | (apply callS; (iterate 3 exact rfl); (intro _; (first | apply hg | apply hl) <;> first | assumption | omega); rotate_left; (iterate 2 exact rfl)) | (intros; (try simp only [List.length_map]); omega))))
  refine pwp_empV 10 37 3 rfl rfl rfl (fun id hid => ?_)
  refine pwp_loop (X := { x : Nat × Nat × Bool // x.1 ≤ L.length ∧ st x.2.1 = none ∧ x.2.2 = decide (j < x.1) }) (fun i => ((((((((((St.nil 86 (upd st i.1.2.1 (some (.arr 37 (((L.set j a).take i.1.1).map Ln.cells))))).pv 1 ((PV.val (Value.int .i64 (k))))).var 3 27 ((bsC b))).var 5 37 (a.cells)).var 6 27 ([.val (.slice none 0 0)])).pv 8 ((PV.val (Value.bool (true))))).pv 9 (.seq (L.map Ln.cells))).pv 10 (.vec i.1.2.1 3 0 i.1.1)).pv 11 ((PV.val (Value.bool (i.1.2.2))))).pv 12 ((PV.val (Value.int .i64 ((i.1.1 : Nat))))))) (fun i => L.length - i.1.1) ⟨(0, id, false), by simp, hid, by simp⟩ ?_ (fun i => ?_)
  · dsimp only
    (first | exact Sub.nil _ _ _ (StSub.refl _) rfl | ((repeat (first | refine Sub.pv ?_ rfl | refine Sub.var ?_ rfl rfl)); (first | exact Sub.nil _ _ _ (StSub.refl _) rfl | exact Sub.nil _ _ _ (stsub_swap (by assumption)) rfl | exact Sub.nil _ _ _ (stsub_eq (by first | rfl | exact upd_eta (by assumption) | ((simp only [St.pv, St.put, St.sst, St.setv, St.nil, St.var, upd_upd]); first | done | rfl))) rfl | (refine Sub.nil _ _ _ (stsub_eq ?_) rfl; (simp only [St.pv, St.put, St.sst, St.setv, St.nil, St.var, upd_upd]); (rw [upd4 (by assumption)]); first | done | rfl))))
  obtain ⟨⟨i, id, f⟩, hi, hid, hf⟩ := i
  simp only at hi hid hf
  dsimp only
  have hlen : ((L.set j a).take i).length = i := by rw [List.length_take]; omega
  by_cases hend : L.length ≤ i
  obtain rfl : i = L.length := by omega
  have e : (L.set j a).take L.length = L.set j a := List.take_of_length_le (by omega)
  rw [decide_eq_true hj] at hf
  subst hf
  rw [e]
  rotate_left
  have hil : i < L.length := by omega
  by_cases hij : i = j
  subst hij
  obtain rfl : f = false := by rw [hf]; simp
  have hfA : true = decide (i < i + 1) := by simp
  have e := take_up (l := L.set i a) (i := i) (x := a) (by omega) (by simp)
  rotate_left
  have e := take_up (l := L.set j a) (i := i) (x := L[i]) (by omega) (by rw [List.getElem_set_ne (Ne.symm hij)])
  have hf2 : f = decide (j < i + 1) := by rw [hf, decide_eq_decide]; omega
  have hk : f = false → L[i].key ≠ a.key := fun q => h4 i (by rw [hf] at q; simp at q; omega)
  clear hf
  cases f
  replace hk := hk rfl
  rotate_left
  rotate_left
  rw [h2] at hg
  rw [h1, if_neg (by simp), Int.toNat_natCast]
  have hR := putIn_take (a := a) hj
  have hlo := fun i (h : i < j) => putIn_lo (L := L) (a := a) h hj
  have hat := putIn_at (a := a) hj
  have hhi := fun i (h : j ≤ i) (h2 : i < L.length) => putIn_hi (a := a) h h2
  generalize putInLn L j [a] = R at *
  have hw := rwith_spec b k R hb
  refine pf_of tt_ok Tryz.func19 (by kernel_rfl) rfl rfl rfl rfl (fun st => ?_)
  focus ((try (apply wO pk; exact rfl)); (repeat' (first | (show All _; constructor) | (show Imp _ _; constructor) | (show ImpX _ _ _ _; constructor) | (apply wC pk; (iterate 2 exact rfl)) | (apply wE pk; (iterate 2 exact rfl)) | (apply wX pk; exact rfl) | (apply wN pk; exact rfl) | (apply wD pk [] []; kernel_rfl; exact rfl; exact rfl) | (apply pwp_condC; simp only [cond_true, cond_false]) | (refine pwp_cond rfl (fun h => ?_) (fun h => ?_) <;> (try simp at h) <;> try (exfalso; omega)) | (refine pwp_ret ?_; refine ⟨_, _, _, rfl, Wk.refl _, StSub.refl _, ?_, rfl⟩; try rfl) | (apply callS; (iterate 3 exact rfl); (intro _; (first | apply hg | apply hl) <;> first | assumption | omega); rotate_left; (iterate 2 exact rfl)) | (intros; (try simp only [List.length_map]); omega))))
  refine pwp_empV 10 37 3 rfl rfl rfl (fun id hid => ?_)
  refine pwp_loop (X := { x : Nat × Nat × Bool × Nat // x.1 ≤ L.length ∧ st x.2.1 = none ∧ x.2.2.1 = decide (j < x.1) ∧ x.2.2.2 = x.1 + x.2.2.1.toNat }) (fun i => ((((((((((St.nil 86 (upd st i.1.2.1 (some (.arr 37 ((R.take i.1.2.2.2).map Ln.cells))))).pv 1 ((PV.val (Value.int .i64 (k))))).var 3 27 ((bsC b))).var 5 37 (a.cells)).var 6 27 ([.val (.slice none 0 0)])).pv 8 ((PV.val (Value.bool (false))))).pv 9 (.seq (L.map Ln.cells))).pv 10 (.vec i.1.2.1 3 0 i.1.2.2.2)).pv 11 ((PV.val (Value.bool (i.1.2.2.1))))).pv 12 ((PV.val (Value.int .i64 ((i.1.1 : Nat))))))) (fun i => L.length - i.1.1) ⟨(0, id, false, 0), by simp, hid, by simp, by simp⟩ ?_ (fun i => ?_)
  · dsimp only
    (first | exact Sub.nil _ _ _ (StSub.refl _) rfl | ((repeat (first | refine Sub.pv ?_ rfl | refine Sub.var ?_ rfl rfl)); (first | exact Sub.nil _ _ _ (StSub.refl _) rfl | exact Sub.nil _ _ _ (stsub_swap (by assumption)) rfl | exact Sub.nil _ _ _ (stsub_eq (by first | rfl | exact upd_eta (by assumption) | ((simp only [St.pv, St.put, St.sst, St.setv, St.nil, St.var, upd_upd]); first | done | rfl))) rfl | (refine Sub.nil _ _ _ (stsub_eq ?_) rfl; (simp only [St.pv, St.put, St.sst, St.setv, St.nil, St.var, upd_upd]); (rw [upd4 (by assumption)]); first | done | rfl))))
  obtain ⟨⟨i, id, f, c⟩, hi, hid, hf, hc⟩ := i
  simp only at hi hid hf hc
  dsimp only
  have hlen : (R.take c).length = c := by rw [List.length_take]; cases f <;> simp at hc <;> omega
  by_cases hend : L.length ≤ i
  obtain rfl : i = L.length := by omega
  cases f
  obtain rfl : j = L.length := by simp at hf; omega
  obtain rfl : c = L.length := by simpa using hc
  have e : R.take L.length ++ [a] = R := by rw [← take_upQ hat]; exact List.take_of_length_le (by omega)
  have hlB : ((R.take L.length ++ [a]).map Ln.cells).length = L.length + [a].length := by rw [List.length_map, e, hR]; rfl
  have hw2 : PF Tryz.prog 43 [.agg (bsC b), (PV.val (Value.int .i64 (k))), .seq ((R.take L.length ++ [a]).map Ln.cells)] (.agg (bsC (setL b k R))) := by rw [e]; exact hw
  rotate_left
  obtain rfl : c = R.length := by simp at hc; omega
  rw [List.take_length]
  have hlC : (R.map Ln.cells).length = R.length := List.length_map _
  rotate_left
  have hil : i < L.length := by omega
  have hk : L[i].key ≠ a.key := h3 _ (List.getElem_mem hil)
  by_cases hij : i = j
  subst hij
  obtain rfl : f = false := by rw [hf]; simp
  obtain rfl : c = i := by simpa using hc
  have e : R.take (c + 2) = (R.take c ++ [a]) ++ [L[c]] := by rw [take_upQ (hhi c (Nat.le_refl _) hil), take_upQ hat]
  have hgt := h5 hil
  have hfC : true = decide (c < c + 1) := by simp
  rotate_left
  have e : R.take (c + 1) = R.take c ++ [L[i]] := by
    cases f
    · obtain rfl : c = i := by simpa using hc
      exact take_upQ (hlo _ (by simp at hf; omega))
    · obtain rfl : c = i + 1 := by simpa using hc
      exact take_upQ (hhi i (by simp at hf; omega) hil)
  have hf2 : f = decide (j < i + 1) := by rw [hf, decide_eq_decide]; omega
  have hc2 : c + 1 = i + 1 + f.toNat := by omega
  have hgt : f = false → ¬ L[i].key > a.key := fun q => h4 i (by rw [hf] at q; simp at q; omega) hil
  clear hf
  cases f
  replace hgt := hgt rfl
  rotate_left
  rotate_left
  all_goals ((try (apply wO pk; exact rfl)); (repeat' (first | ((refine pwp_ret ?_; exact ⟨_, _, st, rfl, Wk.refl _, stsub_over (stsub_over (StSub.refl _) hid) hid, rfl, rfl⟩)) | ((refine pwp_ret ?_; exact ⟨_, _, st, rfl, Wk.refl _, stsub_over (stsub_over (stsub_over (stsub_over (StSub.refl _) hid) hid) (fresh_updN hid')) (fresh_updN hid'), rfl, rfl⟩)) | (show All _; constructor) | (show Imp _ _; constructor) | (show ImpX _ _ _ _; constructor) | (apply wC pk; (iterate 2 exact rfl)) | (apply wE pk; (iterate 2 exact rfl)) | (apply wX pk; exact rfl) | (apply wN pk; exact rfl) | (apply wD pk [] []; kernel_rfl; exact rfl; exact rfl) | (apply pwp_condC; simp only [cond_true, cond_false]) | (refine pwp_cond rfl (fun h => ?_) (fun h => ?_) <;> (try simp at h) <;> try (exfalso; omega)) | ((try refine pwp_ret ?_); (first | (refine ⟨_, _, _, rfl, Wk.refl _, StSub.refl _, ?_⟩; ((fail)); done) | (refine ⟨_, _, ?zs, rfl, Wk.refl _, ?zh, ?zr⟩; (case zh => (refine stsub_over ?_ (by assumption); (repeat refine stsub_over ?_ (by assumption)); exact StSub.refl _)); (case zr => ((fail)))) | refine ⟨_, _, _, rfl, Wk.refl _, StSub.refl _, ?_⟩)) | (apply idxS pk; (iterate 6 exact rfl); rotate_left; exact rfl; (intro hw; exact rfl); (intro hw; apply get_map <;> omega); (intro _; exact rfl); exact rfl) | (apply ncA; (iterate 3 exact rfl); rotate_left; exact rfl; exact rfl) | (apply ldR pk; exact rfl; exact rfl; rotate_left; exact rfl; (first | exact upd_same _ _ _ | assumption | (focus ((repeat (first | exact upd_same _ _ _ | assumption | refine (upd_ne (by assumption)).trans ?_)); done))); exact rfl; exact rfl) | (apply stR pk; exact rfl; exact rfl; (first | exact upd_same _ _ _ | assumption | (focus ((repeat (first | exact upd_same _ _ _ | assumption | refine (upd_ne (by assumption)).trans ?_)); done))); exact rfl; exact rfl) | (apply apV pk (f := Ln.cells) [a] 56; (iterate 9 exact rfl); (first | exact upd_same _ _ _ | assumption | (focus ((repeat (first | exact upd_same _ _ _ | assumption | refine (upd_ne (by assumption)).trans ?_)); done))); (first | omega | assumption | (focus (simp; done)) | (focus (simp; omega)) | (focus (simp at *; omega))); exact fun _ => rfl; exact fun _ => rfl; exact bytesLn; (first | omega | assumption | (focus (simp; done)) | (focus (simp; omega)) | (focus (simp at *; omega))); (first | omega | assumption | (focus (simp; done)) | (focus (simp; omega)) | (focus (simp at *; omega))); exact rfl; intro id' hid') | (apply ap0 pk (f := Ln.cells) [a] 56; (iterate 10 exact rfl); exact fun _ => rfl; exact fun _ => rfl; exact bytesLn; (first | omega | assumption | (focus (simp; done)) | (focus (simp; omega)) | (focus (simp at *; omega))); (first | omega | assumption | (focus (simp; done)) | (focus (simp; omega)) | (focus (simp at *; omega))); exact rfl; intro id' hid') | (apply apV pk (f := Ln.cells) [L[i]] 56; (iterate 9 exact rfl); (first | exact upd_same _ _ _ | assumption | (focus ((repeat (first | exact upd_same _ _ _ | assumption | refine (upd_ne (by assumption)).trans ?_)); done))); (first | omega | assumption | (focus (simp; done)) | (focus (simp; omega)) | (focus (simp at *; omega))); exact fun _ => rfl; exact fun _ => rfl; exact bytesLn; (first | omega | assumption | (focus (simp; done)) | (focus (simp; omega)) | (focus (simp at *; omega))); (first | omega | assumption | (focus (simp; done)) | (focus (simp; omega)) | (focus (simp at *; omega))); exact rfl; intro id' hid') | (apply ap0 pk (f := Ln.cells) [L[i]] 56; (iterate 10 exact rfl); exact fun _ => rfl; exact fun _ => rfl; exact bytesLn; (first | omega | assumption | (focus (simp; done)) | (focus (simp; omega)) | (focus (simp at *; omega))); (first | omega | assumption | (focus (simp; done)) | (focus (simp; omega)) | (focus (simp at *; omega))); exact rfl; intro id' hid') | (apply apV pk (f := Ln.cells) [L[c]] 56; (iterate 9 exact rfl); (first | exact upd_same _ _ _ | assumption | (focus ((repeat (first | exact upd_same _ _ _ | assumption | refine (upd_ne (by assumption)).trans ?_)); done))); (first | omega | assumption | (focus (simp; done)) | (focus (simp; omega)) | (focus (simp at *; omega))); exact fun _ => rfl; exact fun _ => rfl; exact bytesLn; (first | omega | assumption | (focus (simp; done)) | (focus (simp; omega)) | (focus (simp at *; omega))); (first | omega | assumption | (focus (simp; done)) | (focus (simp; omega)) | (focus (simp at *; omega))); exact rfl; intro id' hid') | (apply ap0 pk (f := Ln.cells) [L[c]] 56; (iterate 10 exact rfl); exact fun _ => rfl; exact fun _ => rfl; exact bytesLn; (first | omega | assumption | (focus (simp; done)) | (focus (simp; omega)) | (focus (simp at *; omega))); (first | omega | assumption | (focus (simp; done)) | (focus (simp; omega)) | (focus (simp at *; omega))); exact rfl; intro id' hid') | (apply callP; exact rfl; exact rfl; (apply (PC.freezeN [_, _] (upd_same _ _ _) cellsLn hlA (hw _)) <;> first | exact upd_same _ _ _ | assumption | omega | (first | exact upd_same _ _ _ | assumption | (focus ((repeat (first | exact upd_same _ _ _ | assumption | refine (upd_ne (by assumption)).trans ?_)); done)))); (iterate 3 exact rfl); intro _ st' hR; obtain ⟨rfl, rfl⟩ := hR) | (apply callP; exact rfl; exact rfl; (apply (PC.freezeN [_, _] (upd_same _ _ _) cellsLn hlB (hw2 _)) <;> first | exact upd_same _ _ _ | assumption | omega | (first | exact upd_same _ _ _ | assumption | (focus ((repeat (first | exact upd_same _ _ _ | assumption | refine (upd_ne (by assumption)).trans ?_)); done)))); (iterate 3 exact rfl); intro _ st' hR; obtain ⟨rfl, rfl⟩ := hR) | (apply callP; exact rfl; exact rfl; (apply (PC.freezeN [_, _] (upd_same _ _ _) cellsLn hlC (hw _)) <;> first | exact upd_same _ _ _ | assumption | omega | (first | exact upd_same _ _ _ | assumption | (focus ((repeat (first | exact upd_same _ _ _ | assumption | refine (upd_ne (by assumption)).trans ?_)); done)))); (iterate 3 exact rfl); intro _ st' hR; obtain ⟨rfl, rfl⟩ := hR) | (apply callP; exact rfl; exact rfl; (first | (apply fail_no_spec <;> first | exact upd_same _ _ _ | assumption | omega | (simp only [Array.size_setIfInBounds]; omega) | (first | exact upd_same _ _ _ | assumption | (focus ((repeat (first | exact upd_same _ _ _ | assumption | refine (upd_ne (by assumption)).trans ?_)); done))))); (iterate 3 exact rfl); intro _ st' hR; (first | subst hR | obtain ⟨rfl, rfl⟩ := hR)) | ((first | refine ⟨⟨(i + 1, id', true), by simp only; omega, fresh_updN hid', hfA⟩, ?_, by simp only; omega⟩ | refine ⟨⟨(i + 1, id', false), by simp only; omega, fresh_updN hid', hf2⟩, ?_, by simp only; omega⟩ | refine ⟨⟨(i + 1, id', true), by simp only; omega, fresh_updN hid', hf2⟩, ?_, by simp only; omega⟩ | refine ⟨⟨(c + 1, id', true, c + 2), by simp only; omega, none_two hid (fresh_updN hid'), hfC, rfl⟩, ?_, by simp only; omega⟩ | refine ⟨⟨(i + 1, id', false, c + 1), by simp only; omega, fresh_updN hid', hf2, hc2⟩, ?_, by simp only; omega⟩ | refine ⟨⟨(i + 1, id', true, c + 1), by simp only; omega, fresh_updN hid', hf2, hc2⟩, ?_, by simp only; omega⟩); ((dsimp only; try rw [e])); (first | exact Sub.nil _ _ _ (StSub.refl _) rfl | ((repeat (first | refine Sub.pv ?_ rfl | refine Sub.var ?_ rfl rfl | refine Sub.pv' ?_ rfl (by (first | rfl | simp)) | refine Sub.var' ?_ rfl rfl (by (first | rfl | simp)))); (first | exact Sub.nil _ _ _ (stsub_two2 (by assumption) (by assumption) rfl) rfl | exact Sub.nil _ _ _ (StSub.refl _) rfl | exact Sub.nil _ _ _ (stsub_swap (by assumption)) rfl | exact Sub.nil _ _ _ (stsub_eq (by first | rfl | exact upd_eta (by assumption) | ((simp only [St.pv, St.put, St.sst, St.setv, St.nil, St.var, upd_upd]); first | done | rfl))) rfl | (refine Sub.nil _ _ _ (stsub_eq ?_) rfl; (simp only [St.pv, St.put, St.sst, St.setv, St.nil, St.var, upd_upd]); (rw [upd4 (by assumption)]); first | done | rfl))))) | (intros; (try simp only [List.length_map]); omega))))
end Go.Proofs.YtkaliolnijkadaaGreatDoor
