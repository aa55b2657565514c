import Derived.Test.YtkaliolnijkadaaGreatDoorBsWrote
set_option linter.unusedSimpArgs false
set_option linter.unusedVariables false
namespace Go.Proofs.YtkaliolnijkadaaGreatDoor
open Go Go.Abs
attribute [local irreducible] Ev PWp
set_option maxRecDepth 10000
set_option maxHeartbeats 2000000
theorem dots_spec (a b : List Dt) (hb : a.length < 4611686018427387904) : PF Tryz.prog 31 [.seq (a.map Dt.cells), .seq (b.map Dt.cells)] (PV.val (Value.bool (decide (a = b)))) := by
  by_cases hl : ¬ (a.length = b.length)
  · have e : decide (a = b) = false := decide_eq_false fun q => hl (by rw [q])
    refine pf_of tt_ok Tryz.func31 (by kernel_rfl) rfl rfl rfl rfl (fun st => ?_)
    (try (apply wO pk; exact rfl)); (repeat' (first | (show All _; constructor) | (show Imp _ _; constructor) | (show ImpX _ _ _ _; constructor) | (apply wC pk; (iterate 2 exact rfl)) | (apply wE pk; (iterate 2 exact rfl)) | (apply wX pk; exact rfl) | (apply wN pk; exact rfl) | (apply wD pk [] []; kernel_rfl; exact rfl; exact rfl) | (apply pwp_condC; simp only [cond_true, cond_false]) | (refine pwp_cond rfl (fun h => ?_) (fun h => ?_) <;> (try simp at h) <;> try (exfalso; omega)) | (refine pwp_ret ?_; refine ⟨_, _, _, rfl, Wk.refl _, StSub.refl _, ?_, rfl⟩; try first | rfl | ((first | (rw [e]; done) | (exfalso; omega)); done)) | (intros; (try simp only [List.length_map]); omega)))
  replace hl := Decidable.of_not_not hl
  refine pf_of tt_ok Tryz.func31 (by kernel_rfl) rfl rfl rfl rfl (fun st => ?_)
  (try (apply wO pk; exact rfl)); (repeat' (first | (show All _; constructor) | (show Imp _ _; constructor) | (show ImpX _ _ _ _; constructor) | (apply wC pk; (iterate 2 exact rfl)) | (apply wE pk; (iterate 2 exact rfl)) | (apply wX pk; exact rfl) | (apply wN pk; exact rfl) | (apply wD pk [] []; kernel_rfl; exact rfl; exact rfl) | (apply pwp_condC; simp only [cond_true, cond_false]) | (refine pwp_cond rfl (fun h => ?_) (fun h => ?_) <;> (try simp at h) <;> try (exfalso; omega)) | (refine pwp_ret ?_; refine ⟨_, _, _, rfl, Wk.refl _, StSub.refl _, ?_, rfl⟩; try first | rfl | ((exfalso; omega); done)) | (intros; (try simp only [List.length_map]); omega)))
  refine pwp_loop (X := { x : Nat // x ≤ a.length ∧ ∀ j (h : j < x) (h1 : j < a.length) (h2 : j < b.length), a[j] = b[j] }) (fun i => ((((St.nil 26 st).pv 0 (.seq (a.map Dt.cells))).pv 1 (.seq (b.map Dt.cells))).pv 5 ((PV.val (Value.int .i64 ((i.1 : Nat))))))) (fun i => a.length - i.1) ⟨0, by omega, fun _ h => absurd h (Nat.not_lt_zero _)⟩ ?_ (fun i => ?_)
  · ((repeat (first | refine Sub.pv ?_ rfl | refine Sub.var ?_ rfl rfl)); exact Sub.nil _ _ _ (StSub.refl _) rfl)
  obtain ⟨i, hi, hI⟩ := i
  dsimp only
  by_cases hend : a.length ≤ i
  · have e : decide (a = b) = true := decide_eq_true (List.ext_getElem hl fun j h1 h2 => hI j (by omega) h1 h2)
    (try (apply wO pk; exact rfl)); (repeat' (first | (show All _; constructor) | (show Imp _ _; constructor) | (show ImpX _ _ _ _; constructor) | (apply wC pk; (iterate 2 exact rfl)) | (apply wE pk; (iterate 2 exact rfl)) | (apply wX pk; exact rfl) | (apply wN pk; exact rfl) | (apply wD pk [] []; kernel_rfl; exact rfl; exact rfl) | (apply pwp_condC; simp only [cond_true, cond_false]) | (refine pwp_cond rfl (fun h => ?_) (fun h => ?_) <;> (try simp at h) <;> try (exfalso; omega)) | (refine pwp_ret ?_; refine ⟨_, _, _, rfl, Wk.refl _, StSub.refl _, ?_, rfl⟩; try first | rfl | ((rw [e]); done)) | (intros; (try simp only [List.length_map]); omega)))
  have h1 : i < a.length := by omega
  have h2 : i < b.length := by omega
  have hF : ¬ a[i] = b[i] → decide (a = b) = false := fun h => decide_eq_false fun q => h (by subst q; rfl)
  have hS : a[i] = b[i] → ∀ j (h : j < i + 1) (h1 : j < a.length) (h2 : j < b.length), a[j] = b[j] := fun h j hj h1 h2 => by
    rcases Nat.lt_succ_iff_lt_or_eq.1 hj with q | q
    · exact hI j q h1 h2
    · subst q; exact h
  rw [Dt.ext_iff] at hF hS
  (try (apply wO pk; exact rfl)); (repeat' (first | (show All _; constructor) | (show Imp _ _; constructor) | (show ImpX _ _ _ _; constructor) | (apply wC pk; (iterate 2 exact rfl)) | (apply wE pk; (iterate 2 exact rfl)) | (apply wX pk; exact rfl) | (apply wN pk; exact rfl) | (apply wD pk [] []; kernel_rfl; exact rfl; exact rfl) | (apply pwp_condC; simp only [cond_true, cond_false]) | (refine pwp_cond rfl (fun h => ?_) (fun h => ?_) <;> (try simp at h) <;> try (exfalso; omega)) | (refine pwp_ret ?_; refine ⟨_, _, _, rfl, Wk.refl _, StSub.refl _, ?_, rfl⟩; try first | rfl | ((rw [hF (by grind)]); done)) | (apply idxS pk; (iterate 6 exact rfl); rotate_left; exact rfl; (intro hw; exact rfl); (intro hw; apply get_map <;> omega); (intro _; exact rfl); exact rfl) | (refine ⟨⟨i + 1, by omega, hS (by assumption)⟩, ?_, by simp only; omega⟩; ((repeat (first | refine Sub.pv ?_ rfl | refine Sub.var ?_ rfl rfl)); exact Sub.nil _ _ _ (StSub.refl _) rfl)) | (intros; (try simp only [List.length_map]); omega)))
end Go.Proofs.YtkaliolnijkadaaGreatDoor
namespace Go.Proofs.YtkaliolnijkadaaGreatDoor
open Go Go.Abs
attribute [local irreducible] Ev PWp
set_option maxRecDepth 10000
set_option maxHeartbeats 2000000
end Go.Proofs.YtkaliolnijkadaaGreatDoor
namespace Go.Proofs.YtkaliolnijkadaaGreatDoor
open Go Go.Abs
attribute [local irreducible] Ev PWp
set_option maxRecDepth 10000
set_option maxHeartbeats 2000000
def smallC (c : Cl) : Bool := decide (c.parts.length ≤ 40) && decide (c.val.s.size ≤ 400)
def smallP (a : Ln) : Bool := a.cells_.all smallC && (decide (a.cells_.length ≤ 20) && decide (a.by_.length ≤ 60))
theorem small_spec (a : Ln) (hl : a.cells_.length < 4611686018427387904) : PF Tryz.prog 28 [.agg a.cells] (PV.val (Value.bool (smallP a))) := by
  refine pf_of tt_ok Tryz.func28 (by kernel_rfl) rfl rfl rfl rfl (fun st => ?_)
  (try (apply wO pk; exact rfl)); (repeat' (first | (show All _; constructor) | (show Imp _ _; constructor) | (show ImpX _ _ _ _; constructor) | (apply wC pk; (iterate 2 exact rfl)) | (apply wE pk; (iterate 2 exact rfl)) | (apply wX pk; exact rfl) | (apply wN pk; exact rfl) | (apply wD pk [] []; kernel_rfl; exact rfl; exact rfl) | (apply pwp_condC; simp only [cond_true, cond_false]) | (refine pwp_cond rfl (fun h => ?_) (fun h => ?_) <;> (try simp at h) <;> try (exfalso; omega)) | (refine pwp_ret ?_; refine ⟨_, _, _, rfl, Wk.refl _, StSub.refl _, ?_, rfl⟩; try rfl) | (intros; (try simp only [List.length_map]); omega)))
  refine pwp_loop (X := { x : Nat // x ≤ a.cells_.length ∧ ∀ j (h : j < x) (h1 : j < a.cells_.length), smallC a.cells_[j] = true }) (fun i => (((St.nil 40 st).var 1 37 (a.cells)).pv 3 ((PV.val (Value.int .i64 ((i.1 : Nat))))))) (fun i => a.cells_.length - i.1) ⟨0, by omega, fun _ h => absurd h (Nat.not_lt_zero _)⟩ ?_ (fun i => ?_)
  · ((repeat (first | refine Sub.pv ?_ rfl | refine Sub.var ?_ rfl rfl)); exact Sub.nil _ _ _ (StSub.refl _) rfl)
  obtain ⟨i, hi, hI⟩ := i
  dsimp only
  by_cases hend : a.cells_.length ≤ i
  · have e : a.cells_.all smallC = true := List.all_eq_true.2 fun c hc => by
      obtain ⟨j, hj, rfl⟩ := List.getElem_of_mem hc
      exact hI j (by omega) hj
    unfold smallP
    rw [e, Bool.true_and]
    have e2 : (decide (((a.cells_.map Cl.cells).length : Int) ≤ 20) && decide (((a.by_.map Dt.cells).length : Int) ≤ 60)) = (decide (a.cells_.length ≤ 20) && decide (a.by_.length ≤ 60)) := by
      rw [Bool.eq_iff_iff]; simp only [Bool.and_eq_true, decide_eq_true_eq, List.length_map]; omega
    (try (apply wO pk; exact rfl)); (repeat' (first | (show All _; constructor) | (show Imp _ _; constructor) | (show ImpX _ _ _ _; constructor) | (apply wC pk; (iterate 2 exact rfl)) | (apply wE pk; (iterate 2 exact rfl)) | (apply wX pk; exact rfl) | (apply wN pk; exact rfl) | (apply wD pk [] []; kernel_rfl; exact rfl; exact rfl) | (apply pwp_condC; simp only [cond_true, cond_false]) | (refine pwp_cond rfl (fun h => ?_) (fun h => ?_) <;> (try simp at h) <;> try (exfalso; omega)) | (refine pwp_ret ?_; refine ⟨_, _, _, rfl, Wk.refl _, StSub.refl _, ?_, rfl⟩; try first | rfl | ((rw [e2]); done)) | (intros; (try simp only [List.length_map]); omega)))
  have h1 : i < a.cells_.length := by omega
  have hF : smallC a.cells_[i] = false → smallP a = false := fun h => by
    unfold smallP
    have : a.cells_.all smallC = false := by
      rw [← Bool.not_eq_true, List.all_eq_true]
      intro q; rw [q _ (List.getElem_mem h1)] at h; cases h
    rw [this]; rfl
  have hS : smallC a.cells_[i] = true → ∀ j (h : j < i + 1) (h1 : j < a.cells_.length), smallC a.cells_[j] = true := fun h j hj h1 => by
    rcases Nat.lt_succ_iff_lt_or_eq.1 hj with q | q
    · exact hI j q h1
    · subst q; exact h
  unfold smallC at hF hS
  (try (apply wO pk; exact rfl)); (repeat' (first | (show All _; constructor) | (show Imp _ _; constructor) | (show ImpX _ _ _ _; constructor) | (apply wC pk; (iterate 2 exact rfl)) | (apply wE pk; (iterate 2 exact rfl)) | (apply wX pk; exact rfl) | (apply wN pk; exact rfl) | (apply wD pk [] []; kernel_rfl; exact rfl; exact rfl) | (apply pwp_condC; simp only [cond_true, cond_false]) | (refine pwp_cond rfl (fun h => ?_) (fun h => ?_) <;> (try simp at h) <;> try (exfalso; omega)) | (refine pwp_ret ?_; refine ⟨_, _, _, rfl, Wk.refl _, StSub.refl _, ?_, rfl⟩; try first | rfl | ((rw [hF (by simp; omega)]); done)) | (apply idxS pk; (iterate 6 exact rfl); rotate_left; exact rfl; (intro hw; exact rfl); (intro hw; apply get_map <;> omega); (intro _; exact rfl); exact rfl) | (refine ⟨⟨i + 1, by omega, hS (by simp; omega)⟩, ?_, by simp only; omega⟩; ((repeat (first | refine Sub.pv ?_ rfl | refine Sub.var ?_ rfl rfl)); exact Sub.nil _ _ _ (StSub.refl _) rfl)) | (intros; (try simp only [List.length_map]); omega)))
end Go.Proofs.YtkaliolnijkadaaGreatDoor
namespace Go.Proofs.YtkaliolnijkadaaGreatDoor
open Go Go.Abs
attribute [local irreducible] Ev PWp
set_option maxRecDepth 10000
set_option maxHeartbeats 2000000
def getL (l : List Ln) (k : Int) : Option Ln := l.find? fun x => decide (x.key = k)
def getR : Option Ln → PV
  | some x => .tup [.agg x.cells, (PV.val (Value.bool (true)))]
  | none => .tup [.agg Ln.zero.cells, (PV.val (Value.bool (false)))]
theorem find_at {α : Type} {f : α → Bool} {l : List α} {i : Nat} (h : i < l.length) (hf : f l[i] = true) (hn : ∀ j (h : j < i) (h2 : j < l.length), f l[j] = false) : l.find? f = some l[i] :=
  List.find?_eq_some_iff_getElem.2 ⟨hf, i, h, rfl, fun j hj => by rw [hn j hj (by omega)]; rfl⟩
end Go.Proofs.YtkaliolnijkadaaGreatDoor
namespace Go.Proofs.YtkaliolnijkadaaGreatDoor
open Go Go.Abs
attribute [local irreducible] Ev PWp
set_option maxRecDepth 10000
set_option maxHeartbeats 2000000
theorem at_get (l : List Ln) (k : Int) : (∃ j : Nat, ∃ h : j < l.length, atP l k = (((j : Nat) : Int), true) ∧ getL l k = some l[j]) ∨ ((atP l k).2 = false ∧ getL l k = none) := by
  unfold atP getL
  cases h : l.findIdx? fun x : Ln => decide (x.key = k) with
  | some j =>
    left
    obtain ⟨hj, hf, hn⟩ := List.findIdx?_eq_some_iff_getElem.1 h
    refine ⟨j, hj, ?_, find_at hj hf fun q hq h2 => by simpa using hn q hq⟩
    have e : idxP (fun x : Ln => decide (x.key = k)) l = j := by unfold idxP; rw [h]
    rw [e, if_pos (by omega)]
  | none =>
    right
    have e : idxP (fun x : Ln => decide (x.key = k)) l = -1 := by unfold idxP; rw [h]
    rw [e, if_neg (by omega)]
    refine ⟨by split <;> rfl, List.find?_eq_none.2 fun x hx => by rw [List.findIdx?_eq_none_iff.1 h x hx]; simp⟩
theorem get_spec (b : Bs) (k key : Int) (hll : ∀ d ∈ b, d.lines.length < 100000000000) : PF Tryz.prog 25 [.agg (bsC b), (PV.val (Value.int .i64 (k))), (PV.val (Value.int .i64 (key)))] (getR (getL (linesP b k) key)) := by
  cases hok : okT b k with
  | false =>
    have ho := open_no b k hok
    have ha := at_spec [] key (by simp)
    rw [at_nil] at ha
    have e : linesP b k = [] := by unfold linesP; rw [hok]; rfl
    rw [e, show getL [] key = none from rfl]
    refine pf_of tt_ok Tryz.func25 (by kernel_rfl) rfl rfl rfl rfl (fun st => ?_)
    (try (apply wO pk; exact rfl)); (repeat' (first | (show All _; constructor) | (show Imp _ _; constructor) | (show ImpX _ _ _ _; constructor) | (apply wC pk; (iterate 2 exact rfl)) | (apply wE pk; (iterate 2 exact rfl)) | (apply wX pk; exact rfl) | (apply wN pk; exact rfl) | (apply wD pk [] []; kernel_rfl; exact rfl; exact rfl) | (apply pwp_condC; simp only [cond_true, cond_false]) | (refine pwp_cond rfl (fun h => ?_) (fun h => ?_) <;> (try simp at h) <;> try (exfalso; omega)) | (refine pwp_ret ?_; first | (refine ⟨_, _, _, rfl, Wk.refl _, StSub.refl _, ?_, rfl⟩; (first | rfl)) | (refine ⟨_, _, _, rfl, Wk.refl _, stsub_drop (by assumption), ?_, rfl⟩; (first | rfl)) | (refine ⟨_, _, _, rfl, Wk.soft _, StSub.refl _, ?_, rfl⟩; (first | rfl)) | (refine ⟨_, _, _, rfl, Wk.soft _, stsub_drop (by assumption), ?_, rfl⟩; (first | rfl)) | (refine ⟨_, _, _, rfl, Wk.refl _, StSub.refl _, ?_, rfl⟩) | (refine ⟨_, _, _, rfl, Wk.soft _, stsub_drop (by assumption), ?_, rfl⟩)) | (apply callS; (iterate 3 exact rfl); (intro _; (first | apply ho | apply ha) <;> first | assumption | omega); rotate_left; (iterate 2 exact rfl)) | (intros; (try simp only [List.length_map]); omega)))
  | true =>
    obtain ⟨q, rfl, hq⟩ : ∃ q : Nat, k = q ∧ q < b.length := by
      unfold okT at hok
      simp only [Bool.and_eq_true, decide_eq_true_eq] at hok
      exact ⟨k.toNat, by omega, by omega⟩
    have ho := open_yes b q hq
    have hlq := hll b[q] (List.getElem_mem hq)
    have hln : linesP b q = b[q].lines := by unfold linesP; rw [if_pos hok]; simp [hq]
    rw [hln]
    generalize hLe : b[q].lines = L at *
    have ha := at_spec L key (by omega)
    rcases at_get L key with ⟨j, hj, e1, e2⟩ | ⟨e1, e2⟩
    · rw [e1] at ha
      rw [e2]
      refine pf_of tt_ok Tryz.func25 (by kernel_rfl) rfl rfl rfl rfl (fun st => ?_)
      (try (apply wO pk; exact rfl)); (repeat' (first | (show All _; constructor) | (show Imp _ _; constructor) | (show ImpX _ _ _ _; constructor) | (apply wC pk; (iterate 2 exact rfl)) | (apply wE pk; (iterate 2 exact rfl)) | (apply wX pk; exact rfl) | (apply wN pk; exact rfl) | (apply wD pk [] []; kernel_rfl; exact rfl; exact rfl) | (apply pwp_condC; simp only [cond_true, cond_false]) | (refine pwp_cond rfl (fun h => ?_) (fun h => ?_) <;> (try simp at h) <;> try (exfalso; omega)) | (refine pwp_ret ?_; refine ⟨_, _, _, rfl, Wk.refl _, StSub.refl _, ?_, rfl⟩; try rfl) | (apply callS; (iterate 3 exact rfl); (intro _; (first | apply ho | apply ha) <;> first | assumption | omega); rotate_left; (iterate 2 exact rfl)) | (apply idxS pk; (iterate 6 exact rfl); rotate_left; exact rfl; (intro hw; exact rfl); (intro hw; apply get_map <;> omega); (intro _; exact rfl); exact rfl) | (intros; (try simp only [List.length_map]); omega)))
    · rw [e1] at ha
      rw [e2]
      refine pf_of tt_ok Tryz.func25 (by kernel_rfl) rfl rfl rfl rfl (fun st => ?_)
      (try (apply wO pk; exact rfl)); (repeat' (first | (show All _; constructor) | (show Imp _ _; constructor) | (show ImpX _ _ _ _; constructor) | (apply wC pk; (iterate 2 exact rfl)) | (apply wE pk; (iterate 2 exact rfl)) | (apply wX pk; exact rfl) | (apply wN pk; exact rfl) | (apply wD pk [] []; kernel_rfl; exact rfl; exact rfl) | (apply pwp_condC; simp only [cond_true, cond_false]) | (refine pwp_cond rfl (fun h => ?_) (fun h => ?_) <;> (try simp at h) <;> try (exfalso; omega)) | (refine pwp_ret ?_; first | (refine ⟨_, _, _, rfl, Wk.refl _, StSub.refl _, ?_, rfl⟩; (first | rfl)) | (refine ⟨_, _, _, rfl, Wk.refl _, stsub_drop (by assumption), ?_, rfl⟩; (first | rfl)) | (refine ⟨_, _, _, rfl, Wk.soft _, StSub.refl _, ?_, rfl⟩; (first | rfl)) | (refine ⟨_, _, _, rfl, Wk.soft _, stsub_drop (by assumption), ?_, rfl⟩; (first | rfl)) | (refine ⟨_, _, _, rfl, Wk.refl _, StSub.refl _, ?_, rfl⟩) | (refine ⟨_, _, _, rfl, Wk.soft _, stsub_drop (by assumption), ?_, rfl⟩)) | (apply callS; (iterate 3 exact rfl); (intro _; (first | apply ho | apply ha) <;> first | assumption | omega); rotate_left; (iterate 2 exact rfl)) | (intros; (try simp only [List.length_map]); omega)))
end Go.Proofs.YtkaliolnijkadaaGreatDoor
namespace Go.Proofs.YtkaliolnijkadaaGreatDoor
open Go Go.Abs
attribute [local irreducible] Ev PWp
set_option maxRecDepth 10000
set_option maxHeartbeats 2000000
end Go.Proofs.YtkaliolnijkadaaGreatDoor
