import Derived.Test.YtkaliolnijkadaaGreatDoorBsFn
set_option linter.unusedSimpArgs false
set_option linter.unusedVariables false
namespace Go.Proofs.YtkaliolnijkadaaGreatDoor
open Go Go.Abs
attribute [local irreducible] Ev PWp
set_option maxRecDepth 10000
set_option maxHeartbeats 2000000
def vRight (v : Vl) : Bool := if v.kind = 0 then decide (v.n = 0) && decide (v.s = e0) else if v.kind = 1 then (decide (v.s = e0) && decide (v.n ≥ -1099511627776)) && decide (v.n ≤ 1099511627776) else if v.kind = 2 then decide (v.n = 0) && decide ((v.s.size : Int) ≤ 200) else false
theorem vright_spec (v : Vl) : PF Tryz.prog 92 [.agg v.cells] (PV.val (Value.bool (vRight v))) := by
  unfold vRight
  by_cases h0 : v.kind = 0
  · rw [if_pos h0]
    refine pf_of tt_ok Tryz.func92 (by kernel_rfl) rfl rfl rfl rfl (fun st => ?_)
    (try (apply wO pk; exact rfl)); (repeat' (first | (show All _; constructor) | (show Imp _ _; constructor) | (show ImpX _ _ _ _; constructor) | (apply wC pk; (iterate 2 exact rfl)) | (apply wE pk; (iterate 2 exact rfl)) | (apply wX pk; exact rfl) | (apply wN pk; exact rfl) | (apply wD pk [] []; kernel_rfl; exact rfl; exact rfl) | (apply pwp_condC; simp only [cond_true, cond_false]) | (refine pwp_cond rfl (fun h => ?_) (fun h => ?_) <;> (try simp at h) <;> try (exfalso; omega)) | (refine pwp_ret ?_; refine ⟨_, _, _, rfl, Wk.refl _, StSub.refl _, ?_, rfl⟩; try first | rfl | ((first | (simp [h0]; done) | (exfalso; omega)); done)) | (intros; (try simp only [List.length_map]); omega)))
  by_cases h1 : v.kind = 1
  · rw [if_neg h0, if_pos h1]
    refine pf_of tt_ok Tryz.func92 (by kernel_rfl) rfl rfl rfl rfl (fun st => ?_)
    (try (apply wO pk; exact rfl)); (repeat' (first | (show All _; constructor) | (show Imp _ _; constructor) | (show ImpX _ _ _ _; constructor) | (apply wC pk; (iterate 2 exact rfl)) | (apply wE pk; (iterate 2 exact rfl)) | (apply wX pk; exact rfl) | (apply wN pk; exact rfl) | (apply wD pk [] []; kernel_rfl; exact rfl; exact rfl) | (apply pwp_condC; simp only [cond_true, cond_false]) | (refine pwp_cond rfl (fun h => ?_) (fun h => ?_) <;> (try simp at h) <;> try (exfalso; omega)) | (refine pwp_ret ?_; refine ⟨_, _, _, rfl, Wk.refl _, StSub.refl _, ?_, rfl⟩; try first | rfl | ((first | (simp; done) | (exfalso; omega)); done)) | (intros; (try simp only [List.length_map]); omega)))
  rw [if_neg h0, if_neg h1]
  by_cases h2 : v.kind = 2
  · rw [if_pos h2]
    refine pf_of tt_ok Tryz.func92 (by kernel_rfl) rfl rfl rfl rfl (fun st => ?_)
    (try (apply wO pk; exact rfl)); (repeat' (first | (show All _; constructor) | (show Imp _ _; constructor) | (show ImpX _ _ _ _; constructor) | (apply wC pk; (iterate 2 exact rfl)) | (apply wE pk; (iterate 2 exact rfl)) | (apply wX pk; exact rfl) | (apply wN pk; exact rfl) | (apply wD pk [] []; kernel_rfl; exact rfl; exact rfl) | (apply pwp_condC; simp only [cond_true, cond_false]) | (refine pwp_cond rfl (fun h => ?_) (fun h => ?_) <;> (try simp at h) <;> try (exfalso; omega)) | (refine pwp_ret ?_; refine ⟨_, _, _, rfl, Wk.refl _, StSub.refl _, ?_, rfl⟩; try first | rfl | ((first | (simp; done) | (exfalso; omega)); done)) | (intros; (try simp only [List.length_map]); omega)))
  rw [if_neg h2]
  refine pf_of tt_ok Tryz.func92 (by kernel_rfl) rfl rfl rfl rfl (fun st => ?_)
  (try (apply wO pk; exact rfl)); (repeat' (first | (show All _; constructor) | (show Imp _ _; constructor) | (show ImpX _ _ _ _; constructor) | (apply wC pk; (iterate 2 exact rfl)) | (apply wE pk; (iterate 2 exact rfl)) | (apply wX pk; exact rfl) | (apply wN pk; exact rfl) | (apply wD pk [] []; kernel_rfl; exact rfl; exact rfl) | (apply pwp_condC; simp only [cond_true, cond_false]) | (refine pwp_cond rfl (fun h => ?_) (fun h => ?_) <;> (try simp at h) <;> try (exfalso; omega)) | (refine pwp_ret ?_; refine ⟨_, _, _, rfl, Wk.refl _, StSub.refl _, ?_, rfl⟩; try first | rfl | ((first | (simp; done) | (exfalso; omega)); done)) | (intros; (try simp only [List.length_map]); omega)))
def cRight (c : Cl) : Int := if c.kind ≠ 2 ∨ c.val.kind ≠ 1 then 6 else if c.val.s ≠ e0 ∨ 0 < c.parts.length then 1 else if c.val.n < -1099511627776 ∨ c.val.n > 1099511627776 then 20 else 0
theorem fits_spec (n : Int) : PF Tryz.prog 129 [(PV.val (Value.int .i64 (n)))] (PV.val (Value.bool (decide (n ≥ -1099511627776) && decide (n ≤ 1099511627776)))) := by
  refine pf_of tt_ok Tryz.func129 (by kernel_rfl) rfl rfl rfl rfl (fun st => ?_)
  (try (apply wO pk; exact rfl)); (repeat' (first | (show All _; constructor) | (show Imp _ _; constructor) | (show ImpX _ _ _ _; constructor) | (apply wC pk; (iterate 2 exact rfl)) | (apply wE pk; (iterate 2 exact rfl)) | (apply wX pk; exact rfl) | (apply wN pk; exact rfl) | (apply wD pk [] []; kernel_rfl; exact rfl; exact rfl) | (apply pwp_condC; simp only [cond_true, cond_false]) | (refine pwp_cond rfl (fun h => ?_) (fun h => ?_) <;> (try simp at h) <;> try (exfalso; omega)) | (refine pwp_ret ?_; refine ⟨_, _, _, rfl, Wk.refl _, StSub.refl _, ?_, rfl⟩; try rfl) | (intros; (try simp only [List.length_map]); omega)))
theorem cright_spec (c : Cl) : PF Tryz.prog 94 [.agg c.cells] (PV.val (Value.int .i64 (cRight c))) := by
  have hf := fits_spec c.val.n
  unfold cRight
  by_cases h1 : c.kind ≠ 2 ∨ c.val.kind ≠ 1
  · rw [if_pos h1]
    refine pf_of tt_ok Tryz.func94 (by kernel_rfl) rfl rfl rfl rfl (fun st => ?_)
    (try (apply wO pk; exact rfl)); (repeat' (first | (show All _; constructor) | (show Imp _ _; constructor) | (show ImpX _ _ _ _; constructor) | (apply wC pk; (iterate 2 exact rfl)) | (apply wE pk; (iterate 2 exact rfl)) | (apply wX pk; exact rfl) | (apply wN pk; exact rfl) | (apply wD pk [] []; kernel_rfl; exact rfl; exact rfl) | (apply pwp_condC; simp only [cond_true, cond_false]) | (refine pwp_cond rfl (fun h => ?_) (fun h => ?_) <;> (try simp at h) <;> try (exfalso; omega)) | (refine pwp_ret ?_; refine ⟨_, _, _, rfl, Wk.refl _, StSub.refl _, ?_, rfl⟩; try first | rfl | ((first | rfl | (exfalso; omega)); done)) | (apply callS; (iterate 3 exact rfl); (intro _; apply hf <;> first | assumption | omega); rotate_left; (iterate 2 exact rfl)) | (intros; (try simp only [List.length_map]); omega)))
  rw [if_neg h1]
  by_cases h2 : c.val.s ≠ e0 ∨ 0 < c.parts.length
  · rw [if_pos h2]
    refine pf_of tt_ok Tryz.func94 (by kernel_rfl) rfl rfl rfl rfl (fun st => ?_)
    (try (apply wO pk; exact rfl)); (repeat' (first | (show All _; constructor) | (show Imp _ _; constructor) | (show ImpX _ _ _ _; constructor) | (apply wC pk; (iterate 2 exact rfl)) | (apply wE pk; (iterate 2 exact rfl)) | (apply wX pk; exact rfl) | (apply wN pk; exact rfl) | (apply wD pk [] []; kernel_rfl; exact rfl; exact rfl) | (apply pwp_condC; simp only [cond_true, cond_false]) | (refine pwp_cond rfl (fun h => ?_) (fun h => ?_) <;> (try simp at h) <;> try (exfalso; omega)) | (refine pwp_ret ?_; refine ⟨_, _, _, rfl, Wk.refl _, StSub.refl _, ?_, rfl⟩; try first | rfl | ((first | rfl | (exfalso; omega) | (exfalso; simp at *; grind)); done)) | (apply callS; (iterate 3 exact rfl); (intro _; apply hf <;> first | assumption | omega); rotate_left; (iterate 2 exact rfl)) | (intros; (try simp only [List.length_map]); omega)))
  rw [if_neg h2]
  by_cases h3 : c.val.n < -1099511627776 ∨ c.val.n > 1099511627776
  · rw [if_pos h3]
    refine pf_of tt_ok Tryz.func94 (by kernel_rfl) rfl rfl rfl rfl (fun st => ?_)
    (try (apply wO pk; exact rfl)); (repeat' (first | (show All _; constructor) | (show Imp _ _; constructor) | (show ImpX _ _ _ _; constructor) | (apply wC pk; (iterate 2 exact rfl)) | (apply wE pk; (iterate 2 exact rfl)) | (apply wX pk; exact rfl) | (apply wN pk; exact rfl) | (apply wD pk [] []; kernel_rfl; exact rfl; exact rfl) | (apply pwp_condC; simp only [cond_true, cond_false]) | (refine pwp_cond rfl (fun h => ?_) (fun h => ?_) <;> (try simp at h) <;> try (exfalso; omega)) | (refine pwp_ret ?_; refine ⟨_, _, _, rfl, Wk.refl _, StSub.refl _, ?_, rfl⟩; try first | rfl | ((first | rfl | (exfalso; omega) | (exfalso; simp at *; grind)); done)) | (apply callS; (iterate 3 exact rfl); (intro _; apply hf <;> first | assumption | omega); rotate_left; (iterate 2 exact rfl)) | (intros; (try simp only [List.length_map]); omega)))
  rw [if_neg h3]
  refine pf_of tt_ok Tryz.func94 (by kernel_rfl) rfl rfl rfl rfl (fun st => ?_)
  (try (apply wO pk; exact rfl)); (repeat' (first | (show All _; constructor) | (show Imp _ _; constructor) | (show ImpX _ _ _ _; constructor) | (apply wC pk; (iterate 2 exact rfl)) | (apply wE pk; (iterate 2 exact rfl)) | (apply wX pk; exact rfl) | (apply wN pk; exact rfl) | (apply wD pk [] []; kernel_rfl; exact rfl; exact rfl) | (apply pwp_condC; simp only [cond_true, cond_false]) | (refine pwp_cond rfl (fun h => ?_) (fun h => ?_) <;> (try simp at h) <;> try (exfalso; omega)) | (refine pwp_ret ?_; refine ⟨_, _, _, rfl, Wk.refl _, StSub.refl _, ?_, rfl⟩; try first | rfl | ((first | rfl | (exfalso; omega) | (exfalso; simp at *; grind)); done)) | (apply callS; (iterate 3 exact rfl); (intro _; apply hf <;> first | assumption | omega); rotate_left; (iterate 2 exact rfl)) | (intros; (try simp only [List.length_map]); omega)))
theorem crights_spec (c : Cl) : PF Tryz.prog 75 [.seq [c.cells]] (PV.val (Value.int .i64 (cRight c))) := by
  have hc := cright_spec c
  generalize cRight c = R at *
  refine pf_of tt_ok Tryz.func75 (by kernel_rfl) rfl rfl rfl rfl (fun st => ?_)
  (try (apply wO pk; exact rfl)); (repeat' (first | (show All _; constructor) | (show Imp _ _; constructor) | (show ImpX _ _ _ _; constructor) | (apply wC pk; (iterate 2 exact rfl)) | (apply wE pk; (iterate 2 exact rfl)) | (apply wX pk; exact rfl) | (apply wN pk; exact rfl) | (apply wD pk [] []; kernel_rfl; exact rfl; exact rfl) | (apply pwp_condC; simp only [cond_true, cond_false]) | (refine pwp_cond rfl (fun h => ?_) (fun h => ?_) <;> (try simp at h) <;> try (exfalso; omega)) | (refine pwp_ret ?_; refine ⟨_, _, _, rfl, Wk.refl _, StSub.refl _, ?_, rfl⟩; try rfl) | (intros; (try simp only [List.length_map]); omega)))
  refine pwp_loop (X := { x : Nat // x ≤ 1 ∧ (x = 1 → R = 0) }) (fun i => ((((St.nil 18 st).pv 6 (.seq [c.cells])).pv 7 ((PV.val (Value.int .i64 ((([c.cells]).length : Nat)))))).pv 8 ((PV.val (Value.int .i64 ((i.1 : Nat))))))) (fun i => 1 - i.1) ⟨0, by omega, by omega⟩ ?_ (fun i => ?_)
  · ((repeat (first | refine Sub.pv ?_ rfl | refine Sub.var ?_ rfl rfl)); exact Sub.nil _ _ _ (StSub.refl _) rfl)
  obtain ⟨i, h1, hinv⟩ := i
  dsimp only
  rcases (show i = 0 ∨ i = 1 by omega) with rfl | rfl
  · (try (apply wO pk; exact rfl)); (repeat' (first | (show All _; constructor) | (show Imp _ _; constructor) | (show ImpX _ _ _ _; constructor) | (apply wC pk; (iterate 2 exact rfl)) | (apply wE pk; (iterate 2 exact rfl)) | (apply wX pk; exact rfl) | (apply wN pk; exact rfl) | (apply wD pk [] []; kernel_rfl; exact rfl; exact rfl) | (apply pwp_condC; simp only [cond_true, cond_false]) | (refine pwp_cond rfl (fun h => ?_) (fun h => ?_) <;> (try simp at h) <;> try (exfalso; omega)) | (refine pwp_ret ?_; refine ⟨_, _, _, rfl, Wk.refl _, StSub.refl _, ?_, rfl⟩; try first | rfl | (rfl; done)) | (apply callS; (iterate 3 exact rfl); (intro _; apply hc <;> first | assumption | omega); rotate_left; (iterate 2 exact rfl)) | (apply idxS pk; (iterate 6 exact rfl); rotate_left; exact rfl; (intro hw; exact rfl); (intro hw; apply (rfl : ([c.cells] : List (List PV))[0]? = some c.cells) <;> omega); (intro _; exact rfl); exact rfl) | (refine ⟨⟨1, by omega, fun _ => by assumption⟩, ?_, by simp only; omega⟩; ((repeat (first | refine Sub.pv ?_ rfl | refine Sub.var ?_ rfl rfl)); exact Sub.nil _ _ _ (StSub.refl _) rfl)) | (intros; (try simp only [List.length_map]); omega)))
  · have h0 := hinv rfl
    (try (apply wO pk; exact rfl)); (repeat' (first | (show All _; constructor) | (show Imp _ _; constructor) | (show ImpX _ _ _ _; constructor) | (apply wC pk; (iterate 2 exact rfl)) | (apply wE pk; (iterate 2 exact rfl)) | (apply wX pk; exact rfl) | (apply wN pk; exact rfl) | (apply wD pk [] []; kernel_rfl; exact rfl; exact rfl) | (apply pwp_condC; simp only [cond_true, cond_false]) | (refine pwp_cond rfl (fun h => ?_) (fun h => ?_) <;> (try simp at h) <;> try (exfalso; omega)) | (refine pwp_ret ?_; refine ⟨_, _, _, rfl, Wk.refl _, StSub.refl _, ?_, rfl⟩; try first | rfl | ((rw [h0]); done)) | (intros; (try simp only [List.length_map]); omega)))
def cShow (c : Cl) : Vl := if cRight c = 0 then c.val else Vl.zero
theorem cshow_spec (c : Cl) : PF Tryz.prog 55 [.agg c.cells] (.agg (cShow c).cells) := by
  have hc := crights_spec c
  unfold cShow
  by_cases h : cRight c = 0
  · rw [if_pos h]
    rw [h] at hc
    refine pf_of tt_ok Tryz.func55 (by kernel_rfl) rfl rfl rfl rfl (fun st => ?_)
    (try (apply wO pk; exact rfl)); (repeat' (first | (show All _; constructor) | (show Imp _ _; constructor) | (show ImpX _ _ _ _; constructor) | (apply wC pk; (iterate 2 exact rfl)) | (apply wE pk; (iterate 2 exact rfl)) | (apply wX pk; exact rfl) | (apply wN pk; exact rfl) | (apply wD pk [] []; kernel_rfl; exact rfl; exact rfl) | (apply pwp_condC; simp only [cond_true, cond_false]) | (refine pwp_cond rfl (fun h => ?_) (fun h => ?_) <;> (try simp at h) <;> try (exfalso; omega)) | (refine pwp_ret ?_; refine ⟨_, _, _, rfl, Wk.refl _, StSub.refl _, ?_, rfl⟩; try rfl) | (apply callS; (iterate 3 exact rfl); (intro _; apply hc <;> first | assumption | omega); rotate_left; (iterate 2 exact rfl)) | (intros; (try simp only [List.length_map]); omega)))
  rw [if_neg h]
  refine pf_of tt_ok Tryz.func55 (by kernel_rfl) rfl rfl rfl rfl (fun st => ?_)
  (try (apply wO pk; exact rfl)); (repeat' (first | (show All _; constructor) | (show Imp _ _; constructor) | (show ImpX _ _ _ _; constructor) | (apply wC pk; (iterate 2 exact rfl)) | (apply wE pk; (iterate 2 exact rfl)) | (apply wX pk; exact rfl) | (apply wN pk; exact rfl) | (apply wD pk [] []; kernel_rfl; exact rfl; exact rfl) | (apply pwp_condC; simp only [cond_true, cond_false]) | (refine pwp_cond rfl (fun h => ?_) (fun h => ?_) <;> (try simp at h) <;> try (exfalso; omega)) | (refine pwp_ret ?_; refine ⟨_, _, _, rfl, Wk.refl _, StSub.refl _, ?_, rfl⟩; try first | rfl | ((exfalso; omega); done)) | (apply callS; (iterate 3 exact rfl); (intro _; apply hc <;> first | assumption | omega); rotate_left; (iterate 2 exact rfl)) | (intros; (try simp only [List.length_map]); omega)))
end Go.Proofs.YtkaliolnijkadaaGreatDoor
namespace Go.Proofs.YtkaliolnijkadaaGreatDoor
open Go Go.Abs
attribute [local irreducible] Ev PWp
set_option maxRecDepth 10000
set_option maxHeartbeats 4000000
theorem mbyD_spec (a b : Dt) : PF Tryz.prog 128 [.agg a.cells, .agg b.cells] (PV.val (Value.int .i64 (byD a b))) := by
  have ho := or_spec [cmpI a.dev b.dev, cmpI a.seq b.seq] (by simp)
  refine pf_of tt_ok Tryz.func128 (by kernel_rfl) rfl rfl rfl rfl (fun st => ?_)
  (try (apply wO pk; exact rfl)); (repeat' (first | (show All _; constructor) | (show Imp _ _; constructor) | (show ImpX _ _ _ _; constructor) | (apply wC pk; (iterate 2 exact rfl)) | (apply wE pk; (iterate 2 exact rfl)) | (apply wX pk; exact rfl) | (apply wN pk; exact rfl) | (apply wD pk [] []; kernel_rfl; exact rfl; exact rfl) | (apply pwp_condC; simp only [cond_true, cond_false]) | (refine pwp_cond rfl (fun h => ?_) (fun h => ?_) <;> (try simp at h) <;> try (exfalso; omega)) | (refine pwp_ret ?_; refine ⟨_, _, _, rfl, Wk.refl _, StSub.refl _, ?_, rfl⟩; try rfl) | (apply callS; (iterate 3 exact rfl); (intro _; (first | apply (cmp_spec a.dev b.dev) | apply (cmp_spec a.seq b.seq) | apply ho) <;> first | assumption | omega); rotate_left; (iterate 2 exact rfl)) | (intros; (try simp only [List.length_map]); omega)))
theorem byD_neg (a b : Dt) : decide (byD a b ≥ 0) = !aboveB b a := by
  unfold byD aboveB cmpI
  simp only [orI]
  rw [Bool.eq_iff_iff]
  simp only [decide_eq_true_eq, Bool.not_eq_true', Bool.or_eq_false_iff, Bool.and_eq_false_iff, decide_eq_false_iff_not]
  grind
def bareP (p : Pt) : Prop := p.at_ = 0 ∧ p.time = 0 ∧ p.after = Dt.zero ∧ p.afterAt = 0 ∧ p.gone = false
instance (p : Pt) : Decidable (bareP p) := by unfold bareP; infer_instance
def dotOK (d : Dt) : Bool := ((decide (1 ≤ d.dev) && decide (d.dev ≤ 64)) && decide (1 ≤ d.seq)) && decide (d.seq ≤ 1048576)
def partM (p : Pt) : Bool := (decide (bareP p) && vRight p.val) && dotOK p.dot
def partB (p : Pt) : Bool := (decide (bareP p) && (decide (p.val.kind = 1) && vRight p.val)) && dotOK p.dot
def runB (ok : Pt → Bool) (bh : Pt → Pt → Bool) (l : List Pt) : Bool := (List.range l.length).all fun j => ok l[j]! && (decide (j = 0) || bh l[j]! l[j - 1]!)
theorem run_no {ok : Pt → Bool} {bh : Pt → Pt → Bool} {l : List Pt} {j : Nat} (h : j < l.length) (hf : (ok l[j] && (decide (j = 0) || bh l[j] (l[j - 1]'(by omega)))) = false) : runB ok bh l = false := by
  unfold runB
  rw [← Bool.not_eq_true, List.all_eq_true]
  intro q
  have := q j (List.mem_range.2 h)
  rw [getElem!_pos l j h, getElem!_pos l (j - 1) (by omega), hf] at this
  cases this
theorem run_yes {ok : Pt → Bool} {bh : Pt → Pt → Bool} {l : List Pt} (hf : ∀ j (h : j < l.length), (ok l[j] && (decide (j = 0) || bh l[j] (l[j - 1]'(by omega)))) = true) : runB ok bh l = true := by
  unfold runB
  rw [List.all_eq_true]
  intro j hj
  have h := List.mem_range.1 hj
  rw [getElem!_pos l j h, getElem!_pos l (j - 1) (by omega)]
  exact hf j h
def mRight (c : Cl) : Bool := decide (c.kind = 1 ∧ c.val = Vl.zero) && runB partM (fun p q => aboveB p.dot q.dot) c.parts
def placeC (p : Pt) : List PV := [(PV.val (Value.int .i64 (p.val.n))), (PV.val (Value.int .i64 (p.dot.dev))), (PV.val (Value.int .i64 (p.dot.seq)))]
theorem bof_spec (p : Pt) : PF Tryz.prog 130 [.agg p.cells] (.agg (placeC p)) := by
  refine pf_of tt_ok Tryz.func130 (by kernel_rfl) rfl rfl rfl rfl (fun st => ?_)
  (try (apply wO pk; exact rfl)); (repeat' (first | (show All _; constructor) | (show Imp _ _; constructor) | (show ImpX _ _ _ _; constructor) | (apply wC pk; (iterate 2 exact rfl)) | (apply wE pk; (iterate 2 exact rfl)) | (apply wX pk; exact rfl) | (apply wN pk; exact rfl) | (apply wD pk [] []; kernel_rfl; exact rfl; exact rfl) | (apply pwp_condC; simp only [cond_true, cond_false]) | (refine pwp_cond rfl (fun h => ?_) (fun h => ?_) <;> (try simp at h) <;> try (exfalso; omega)) | (refine pwp_ret ?_; refine ⟨_, _, _, rfl, Wk.refl _, StSub.refl _, ?_, rfl⟩; try rfl) | (intros; (try simp only [List.length_map]); omega)))
def ahI (p q : Pt) : Int := orI [cmpI p.val.n q.val.n, cmpI p.dot.dev q.dot.dev, cmpI p.dot.seq q.dot.seq]
theorem ah_spec (p q : Pt) : PF Tryz.prog 131 [.agg (placeC p), .agg (placeC q)] (PV.val (Value.int .i64 (ahI p q))) := by
  have ho := or_spec [cmpI p.val.n q.val.n, cmpI p.dot.dev q.dot.dev, cmpI p.dot.seq q.dot.seq] (by simp)
  refine pf_of tt_ok Tryz.func131 (by kernel_rfl) rfl rfl rfl rfl (fun st => ?_)
  (try (apply wO pk; exact rfl)); (repeat' (first | (show All _; constructor) | (show Imp _ _; constructor) | (show ImpX _ _ _ _; constructor) | (apply wC pk; (iterate 2 exact rfl)) | (apply wE pk; (iterate 2 exact rfl)) | (apply wX pk; exact rfl) | (apply wN pk; exact rfl) | (apply wD pk [] []; kernel_rfl; exact rfl; exact rfl) | (apply pwp_condC; simp only [cond_true, cond_false]) | (refine pwp_cond rfl (fun h => ?_) (fun h => ?_) <;> (try simp at h) <;> try (exfalso; omega)) | (refine pwp_ret ?_; refine ⟨_, _, _, rfl, Wk.refl _, StSub.refl _, ?_, rfl⟩; try rfl) | (apply callS; (iterate 3 exact rfl); (intro _; (first | apply (cmp_spec p.val.n q.val.n) | apply (cmp_spec p.dot.dev q.dot.dev) | apply (cmp_spec p.dot.seq q.dot.seq) | apply ho) <;> first | assumption | omega); rotate_left; (iterate 2 exact rfl)) | (intros; (try simp only [List.length_map]); omega)))
def behB (p q : Pt) : Bool := decide (p.val.n > q.val.n) || (decide (p.val.n = q.val.n) && aboveB p.dot q.dot)
theorem ah_neg (p q : Pt) : decide (ahI p q ≥ 0) = !behB q p := by
  unfold ahI behB aboveB cmpI
  simp only [orI]
  rw [Bool.eq_iff_iff]
  simp only [decide_eq_true_eq, Bool.not_eq_true', Bool.or_eq_false_iff, Bool.and_eq_false_iff, decide_eq_false_iff_not]
  grind
def bRight (c : Cl) : Bool := decide (c.kind = 3 ∧ c.val = Vl.zero) && runB partB behB c.parts
theorem gw_no {x : Bool} (h : gw x (decide (((0 : Nat) : Int) > 0)) true = true) : False := by
  cases x <;> simp [gw] at h
theorem mright_spec (c : Cl) (hl : c.parts.length < 4611686018427387904) : PF Tryz.prog 93 [.agg c.cells] (PV.val (Value.bool (mRight c))) := by
  unfold mRight
  by_cases hk : ¬ (c.kind = 1 ∧ c.val = Vl.zero)
  · rw [decide_eq_false hk, Bool.false_and]
    rw [Vl.ext_iff] at hk
    simp only [Vl.zero] at hk
    refine pf_of tt_ok Tryz.func93 (by kernel_rfl) rfl rfl rfl rfl (fun st => ?_)
    (try (apply wO pk; exact rfl)); (repeat' (first | ((exfalso; grind)) | (show All _; constructor) | (show Imp _ _; constructor) | (show ImpX _ _ _ _; constructor) | (apply wC pk; (iterate 2 exact rfl)) | (apply wE pk; (iterate 2 exact rfl)) | (apply wX pk; exact rfl) | (apply wN pk; exact rfl) | (apply wD pk [] []; kernel_rfl; exact rfl; exact rfl) | (apply pwp_condC; simp only [cond_true, cond_false]) | (refine pwp_cond rfl (fun h => ?_) (fun h => ?_) <;> (try simp at h) <;> try (exfalso; omega)) | (refine pwp_ret ?_; refine ⟨_, _, _, rfl, Wk.refl _, StSub.refl _, ?_, rfl⟩; try first | rfl | ((exfalso; grind); done)) | (intros; (try simp only [List.length_map]); omega)))
  replace hk := Decidable.of_not_not hk
  rw [decide_eq_true hk, Bool.true_and]
  obtain ⟨k1, k2⟩ := hk
  rw [Vl.ext_iff] at k2
  obtain ⟨k2, k3, k4⟩ := k2
  simp only [Vl.zero] at k2 k3 k4
  refine pf_of tt_ok Tryz.func93 (by kernel_rfl) rfl rfl rfl rfl (fun st => ?_)
  (try (apply wO pk; exact rfl)); (repeat' (first | (show All _; constructor) | (show Imp _ _; constructor) | (show ImpX _ _ _ _; constructor) | (apply wC pk; (iterate 2 exact rfl)) | (apply wE pk; (iterate 2 exact rfl)) | (apply wX pk; exact rfl) | (apply wN pk; exact rfl) | (apply wD pk [] []; kernel_rfl; exact rfl; exact rfl) | (apply pwp_condC; simp only [cond_true, cond_false]) | (refine pwp_cond rfl (fun h => ?_) (fun h => ?_) <;> (try simp at h) <;> try (exfalso; omega)) | (refine pwp_ret ?_; refine ⟨_, _, _, rfl, Wk.refl _, StSub.refl _, ?_, rfl⟩; try first | rfl | ((exfalso; grind); done)) | (intros; (try simp only [List.length_map]); omega)))
  refine pwp_loop (X := { x : Nat // x ≤ c.parts.length ∧ ∀ j (h : j < x) (h1 : j < c.parts.length), (partM c.parts[j] && (decide (j = 0) || aboveB c.parts[j].dot (c.parts[j - 1]'(by omega)).dot)) = true }) (fun i => (((((St.nil 79 st).var 1 72 (c.cells)).pv 16 (.seq (c.parts.map Pt.cells))).pv 17 ((PV.val (Value.int .i64 (((c.parts.map Pt.cells).length : Nat)))))).pv 18 ((PV.val (Value.int .i64 ((i.1 : Nat))))))) (fun i => c.parts.length - i.1) ⟨0, by omega, fun _ h => absurd h (Nat.not_lt_zero _)⟩ ?_ (fun i => ?_)
  · ((repeat (first | refine Sub.pv ?_ rfl | refine Sub.var ?_ rfl rfl)); exact Sub.nil _ _ _ (StSub.refl _) rfl)
  obtain ⟨i, hi, hI⟩ := i
  dsimp only
  by_cases hend : c.parts.length ≤ i
  · have e := run_yes (ok := partM) (bh := fun p q => aboveB p.dot q.dot) fun j h => hI j (by omega) h
    (try (apply wO pk; exact rfl)); (repeat' (first | (show All _; constructor) | (show Imp _ _; constructor) | (show ImpX _ _ _ _; constructor) | (apply wC pk; (iterate 2 exact rfl)) | (apply wE pk; (iterate 2 exact rfl)) | (apply wX pk; exact rfl) | (apply wN pk; exact rfl) | (apply wD pk [] []; kernel_rfl; exact rfl; exact rfl) | (apply pwp_condC; simp only [cond_true, cond_false]) | (refine pwp_cond rfl (fun h => ?_) (fun h => ?_) <;> (try simp at h) <;> try (exfalso; omega)) | (refine pwp_ret ?_; refine ⟨_, _, _, rfl, Wk.refl _, StSub.refl _, ?_, rfl⟩; try first | rfl | ((rw [e]); done)) | (intros; (try simp only [List.length_map]); omega)))
  have h1 : i < c.parts.length := by omega
  have hF := run_no (ok := partM) (bh := fun p q => aboveB p.dot q.dot) h1
  have hS : (partM c.parts[i] && (decide (i = 0) || aboveB c.parts[i].dot (c.parts[i - 1]'(by omega)).dot)) = true → ∀ j (h : j < i + 1) (h1 : j < c.parts.length), (partM c.parts[j] && (decide (j = 0) || aboveB c.parts[j].dot (c.parts[j - 1]'(by omega)).dot)) = true := fun h j hj h1 => by
    rcases Nat.lt_succ_iff_lt_or_eq.1 hj with q | q
    · exact hI j q h1
    · subst q; exact h
  have hv := vright_spec c.parts[i].val
  by_cases h0 : i = 0
  · subst h0
    have hF' : ¬ (partM c.parts[0] = true) → runB partM (fun p q => aboveB p.dot q.dot) c.parts = false := fun h => hF (by rw [← Bool.not_eq_true]; intro q; rw [Bool.and_eq_true] at q; exact h q.1)
    simp only [partM, bareP, dotOK, Dt.ext_iff, Dt.zero, Bool.and_eq_true, decide_eq_true_eq] at hF'
    (try (apply wO pk; exact rfl)); (repeat' (first | (show All _; constructor) | (show Imp _ _; constructor) | (show ImpX _ _ _ _; constructor) | (apply wC pk; (iterate 2 exact rfl)) | (apply wE pk; (iterate 2 exact rfl)) | (apply wX pk; exact rfl) | (apply wN pk; exact rfl) | (apply wD pk [] []; kernel_rfl; exact rfl; exact rfl) | (apply pwp_condC; simp only [cond_true, cond_false]) | (refine pwp_cond rfl (fun h => ?_) (fun h => ?_) <;> (try simp at h) <;> try (exfalso; omega)) | (refine pwp_ret ?_; refine ⟨_, _, _, rfl, Wk.refl _, StSub.refl _, ?_, rfl⟩; try first | rfl | ((first | (rw [hF' (by grind)]; done) | (exact absurd (by assumption : c.parts = []) (List.ne_nil_of_length_pos h1))); done)) | (apply callS; (iterate 3 exact rfl); (intro _; (first | apply hv | apply (show PF Tryz.prog 128 [_, .agg c.parts[0].dot.cells] (PV.val (Value.int .i64 (0))) from by rename_i hh; exact (gw_no hh).elim)) <;> first | assumption | omega); rotate_left; (iterate 2 exact rfl)) | (apply idxS pk; (iterate 6 exact rfl); rotate_left; exact rfl; (first | ((intro hw; exact (show _ = ((0 : Nat) : Int) from by exact (gw_no hw).elim)); (intro hw; apply get_map <;> omega); (intro _; exact rfl)) | ((intro hw; exact rfl); (intro hw; apply get_map <;> omega); (intro _; exact rfl))); exact rfl) | (refine ⟨⟨1, by omega, hS (by simp [partM, bareP, dotOK, Dt.ext_iff, Dt.zero]; grind)⟩, ?_, by simp only; omega⟩; ((repeat (first | refine Sub.pv ?_ rfl | refine Sub.var ?_ rfl rfl)); exact Sub.nil _ _ _ (StSub.refl _) rfl)) | (intros; (try simp only [List.length_map]); omega)))
  obtain ⟨k, rfl⟩ : ∃ k, i = k + 1 := ⟨i - 1, by omega⟩
  have hd := mbyD_spec c.parts[k].dot c.parts[k + 1].dot
  have hb : byD c.parts[k].dot c.parts[k + 1].dot ≥ 0 ↔ aboveB c.parts[k + 1].dot c.parts[k].dot = false := by have := byD_neg c.parts[k].dot c.parts[k + 1].dot; cases h : aboveB c.parts[k + 1].dot c.parts[k].dot <;> simp [h] at this ⊢ <;> omega
  have hF' : ¬ (partM c.parts[k + 1] = true ∧ byD c.parts[k].dot c.parts[k + 1].dot < 0) → runB partM (fun p q => aboveB p.dot q.dot) c.parts = false := fun h => hF (by rw [← Bool.not_eq_true]; intro q; rw [Bool.and_eq_true] at q; exact h ⟨q.1, by have q2 := q.2; simp at q2; grind⟩)
  simp only [partM, bareP, dotOK, Dt.ext_iff, Dt.zero, Bool.and_eq_true, decide_eq_true_eq] at hF'
  (try (apply wO pk; exact rfl)); (repeat' (first | (show All _; constructor) | (show Imp _ _; constructor) | (show ImpX _ _ _ _; constructor) | (apply wC pk; (iterate 2 exact rfl)) | (apply wE pk; (iterate 2 exact rfl)) | (apply wX pk; exact rfl) | (apply wN pk; exact rfl) | (apply wD pk [] []; kernel_rfl; exact rfl; exact rfl) | (apply pwp_condC; simp only [cond_true, cond_false]) | (refine pwp_cond rfl (fun h => ?_) (fun h => ?_) <;> (try simp at h) <;> try (exfalso; omega)) | (refine pwp_ret ?_; refine ⟨_, _, _, rfl, Wk.refl _, StSub.refl _, ?_, rfl⟩; try first | rfl | ((rw [hF' (by grind)]); done)) | (apply callS; (iterate 3 exact rfl); (intro _; (first | apply hv | apply hd) <;> first | assumption | omega); rotate_left; (iterate 2 exact rfl)) | (apply idxS pk; (iterate 6 exact rfl); rotate_left; exact rfl; (first | ((intro hw; exact (show ((((k + 1 : Nat) : Int)) - 1 = ((k : Nat) : Int)) from by omega)); (intro hw; apply get_map <;> omega); (intro _; exact rfl)) | ((intro hw; exact rfl); (intro hw; apply get_map <;> omega); (intro _; exact rfl))); exact rfl) | (refine ⟨⟨k + 2, by omega, hS (by simp [partM, bareP, dotOK, Dt.ext_iff, Dt.zero]; grind)⟩, ?_, by simp only; omega⟩; ((repeat (first | refine Sub.pv ?_ rfl | refine Sub.var ?_ rfl rfl)); exact Sub.nil _ _ _ (StSub.refl _) rfl)) | (intros; (try simp only [List.length_map]); omega)))
theorem bright_spec (c : Cl) (hl : c.parts.length < 4611686018427387904) : PF Tryz.prog 95 [.agg c.cells] (PV.val (Value.bool (bRight c))) := by
  unfold bRight
  by_cases hk : ¬ (c.kind = 3 ∧ c.val = Vl.zero)
  · rw [decide_eq_false hk, Bool.false_and]
    rw [Vl.ext_iff] at hk
    simp only [Vl.zero] at hk
    refine pf_of tt_ok Tryz.func95 (by kernel_rfl) rfl rfl rfl rfl (fun st => ?_)
    (try (apply wO pk; exact rfl)); (repeat' (first | ((exfalso; grind)) | (show All _; constructor) | (show Imp _ _; constructor) | (show ImpX _ _ _ _; constructor) | (apply wC pk; (iterate 2 exact rfl)) | (apply wE pk; (iterate 2 exact rfl)) | (apply wX pk; exact rfl) | (apply wN pk; exact rfl) | (apply wD pk [] []; kernel_rfl; exact rfl; exact rfl) | (apply pwp_condC; simp only [cond_true, cond_false]) | (refine pwp_cond rfl (fun h => ?_) (fun h => ?_) <;> (try simp at h) <;> try (exfalso; omega)) | (refine pwp_ret ?_; refine ⟨_, _, _, rfl, Wk.refl _, StSub.refl _, ?_, rfl⟩; try first | rfl | ((exfalso; grind); done)) | (intros; (try simp only [List.length_map]); omega)))
  replace hk := Decidable.of_not_not hk
  rw [decide_eq_true hk, Bool.true_and]
  obtain ⟨k1, k2⟩ := hk
  rw [Vl.ext_iff] at k2
  obtain ⟨k2, k3, k4⟩ := k2
  simp only [Vl.zero] at k2 k3 k4
  refine pf_of tt_ok Tryz.func95 (by kernel_rfl) rfl rfl rfl rfl (fun st => ?_)
  (try (apply wO pk; exact rfl)); (repeat' (first | (show All _; constructor) | (show Imp _ _; constructor) | (show ImpX _ _ _ _; constructor) | (apply wC pk; (iterate 2 exact rfl)) | (apply wE pk; (iterate 2 exact rfl)) | (apply wX pk; exact rfl) | (apply wN pk; exact rfl) | (apply wD pk [] []; kernel_rfl; exact rfl; exact rfl) | (apply pwp_condC; simp only [cond_true, cond_false]) | (refine pwp_cond rfl (fun h => ?_) (fun h => ?_) <;> (try simp at h) <;> try (exfalso; omega)) | (refine pwp_ret ?_; refine ⟨_, _, _, rfl, Wk.refl _, StSub.refl _, ?_, rfl⟩; try first | rfl | ((exfalso; grind); done)) | (intros; (try simp only [List.length_map]); omega)))
  refine pwp_loop (X := { x : Nat // x ≤ c.parts.length ∧ ∀ j (h : j < x) (h1 : j < c.parts.length), (partB c.parts[j] && (decide (j = 0) || behB c.parts[j] (c.parts[j - 1]'(by omega)))) = true }) (fun i => (((((St.nil 85 st).var 1 72 (c.cells)).pv 16 (.seq (c.parts.map Pt.cells))).pv 17 ((PV.val (Value.int .i64 (((c.parts.map Pt.cells).length : Nat)))))).pv 18 ((PV.val (Value.int .i64 ((i.1 : Nat))))))) (fun i => c.parts.length - i.1) ⟨0, by omega, fun _ h => absurd h (Nat.not_lt_zero _)⟩ ?_ (fun i => ?_)
  · ((repeat (first | refine Sub.pv ?_ rfl | refine Sub.var ?_ rfl rfl)); exact Sub.nil _ _ _ (StSub.refl _) rfl)
  obtain ⟨i, hi, hI⟩ := i
  dsimp only
  by_cases hend : c.parts.length ≤ i
  · have e := run_yes (ok := partB) (bh := behB) fun j h => hI j (by omega) h
    (try (apply wO pk; exact rfl)); (repeat' (first | (show All _; constructor) | (show Imp _ _; constructor) | (show ImpX _ _ _ _; constructor) | (apply wC pk; (iterate 2 exact rfl)) | (apply wE pk; (iterate 2 exact rfl)) | (apply wX pk; exact rfl) | (apply wN pk; exact rfl) | (apply wD pk [] []; kernel_rfl; exact rfl; exact rfl) | (apply pwp_condC; simp only [cond_true, cond_false]) | (refine pwp_cond rfl (fun h => ?_) (fun h => ?_) <;> (try simp at h) <;> try (exfalso; omega)) | (refine pwp_ret ?_; refine ⟨_, _, _, rfl, Wk.refl _, StSub.refl _, ?_, rfl⟩; try first | rfl | ((rw [e]); done)) | (intros; (try simp only [List.length_map]); omega)))
  have h1 : i < c.parts.length := by omega
  have hF := run_no (ok := partB) (bh := behB) h1
  have hS : (partB c.parts[i] && (decide (i = 0) || behB c.parts[i] (c.parts[i - 1]'(by omega)))) = true → ∀ j (h : j < i + 1) (h1 : j < c.parts.length), (partB c.parts[j] && (decide (j = 0) || behB c.parts[j] (c.parts[j - 1]'(by omega)))) = true := fun h j hj h1 => by
    rcases Nat.lt_succ_iff_lt_or_eq.1 hj with q | q
    · exact hI j q h1
    · subst q; exact h
  have hv := vright_spec c.parts[i].val
  by_cases h0 : i = 0
  · subst h0
    have hof := bof_spec c.parts[0]
    have hF' : ¬ (partB c.parts[0] = true) → runB partB (behB) c.parts = false := fun h => hF (by rw [← Bool.not_eq_true]; intro q; rw [Bool.and_eq_true] at q; exact h q.1)
    simp only [partB, bareP, dotOK, Dt.ext_iff, Dt.zero, Bool.and_eq_true, decide_eq_true_eq] at hF'
    (try (apply wO pk; exact rfl)); (repeat' (first | (show All _; constructor) | (show Imp _ _; constructor) | (show ImpX _ _ _ _; constructor) | (apply wC pk; (iterate 2 exact rfl)) | (apply wE pk; (iterate 2 exact rfl)) | (apply wX pk; exact rfl) | (apply wN pk; exact rfl) | (apply wD pk [] []; kernel_rfl; exact rfl; exact rfl) | (apply pwp_condC; simp only [cond_true, cond_false]) | (refine pwp_cond rfl (fun h => ?_) (fun h => ?_) <;> (try simp at h) <;> try (exfalso; omega)) | (refine pwp_ret ?_; refine ⟨_, _, _, rfl, Wk.refl _, StSub.refl _, ?_, rfl⟩; try first | rfl | ((first | (rw [hF' (by grind)]; done) | (exact absurd (by assumption : c.parts = []) (List.ne_nil_of_length_pos h1))); done)) | (apply callS; (iterate 3 exact rfl); (intro _; (first | apply hv | apply hof | apply (show PF Tryz.prog 131 [_, _] (PV.val (Value.int .i64 (0))) from by rename_i hh; exact (gw_no hh).elim)) <;> first | assumption | omega); rotate_left; (iterate 2 exact rfl)) | (apply idxS pk; (iterate 6 exact rfl); rotate_left; exact rfl; (first | ((intro hw; exact (show _ = ((0 : Nat) : Int) from by exact (gw_no hw).elim)); (intro hw; apply get_map <;> omega); (intro _; exact rfl)) | ((intro hw; exact rfl); (intro hw; apply get_map <;> omega); (intro _; exact rfl))); exact rfl) | (refine ⟨⟨1, by omega, hS (by simp [partB, bareP, dotOK, Dt.ext_iff, Dt.zero]; grind)⟩, ?_, by simp only; omega⟩; ((repeat (first | refine Sub.pv ?_ rfl | refine Sub.var ?_ rfl rfl)); exact Sub.nil _ _ _ (StSub.refl _) rfl)) | (intros; (try simp only [List.length_map]); omega)))
  obtain ⟨k, rfl⟩ : ∃ k, i = k + 1 := ⟨i - 1, by omega⟩
  have hd1 := bof_spec c.parts[k]
  have hd2 := bof_spec c.parts[k + 1]
  have hd := ah_spec c.parts[k] c.parts[k + 1]
  have hb : ahI c.parts[k] c.parts[k + 1] ≥ 0 ↔ behB c.parts[k + 1] c.parts[k] = false := by have := ah_neg c.parts[k] c.parts[k + 1]; cases h : behB c.parts[k + 1] c.parts[k] <;> simp [h] at this ⊢ <;> omega
  have hF' : ¬ (partB c.parts[k + 1] = true ∧ ahI c.parts[k] c.parts[k + 1] < 0) → runB partB (behB) c.parts = false := fun h => hF (by rw [← Bool.not_eq_true]; intro q; rw [Bool.and_eq_true] at q; exact h ⟨q.1, by have q2 := q.2; simp at q2; grind⟩)
  simp only [partB, bareP, dotOK, Dt.ext_iff, Dt.zero, Bool.and_eq_true, decide_eq_true_eq] at hF'
  (try (apply wO pk; exact rfl)); (repeat' (first | (show All _; constructor) | (show Imp _ _; constructor) | (show ImpX _ _ _ _; constructor) | (apply wC pk; (iterate 2 exact rfl)) | (apply wE pk; (iterate 2 exact rfl)) | (apply wX pk; exact rfl) | (apply wN pk; exact rfl) | (apply wD pk [] []; kernel_rfl; exact rfl; exact rfl) | (apply pwp_condC; simp only [cond_true, cond_false]) | (refine pwp_cond rfl (fun h => ?_) (fun h => ?_) <;> (try simp at h) <;> try (exfalso; omega)) | (refine pwp_ret ?_; refine ⟨_, _, _, rfl, Wk.refl _, StSub.refl _, ?_, rfl⟩; try first | rfl | ((rw [hF' (by grind)]); done)) | (apply callS; (iterate 3 exact rfl); (intro _; (first | apply hv | apply hd1 | apply hd2 | apply hd) <;> first | assumption | omega); rotate_left; (iterate 2 exact rfl)) | (apply idxS pk; (iterate 6 exact rfl); rotate_left; exact rfl; (first | ((intro hw; exact (show ((((k + 1 : Nat) : Int)) - 1 = ((k : Nat) : Int)) from by omega)); (intro hw; apply get_map <;> omega); (intro _; exact rfl)) | ((intro hw; exact rfl); (intro hw; apply get_map <;> omega); (intro _; exact rfl))); exact rfl) | (refine ⟨⟨k + 2, by omega, hS (by simp [partB, bareP, dotOK, Dt.ext_iff, Dt.zero]; grind)⟩, ?_, by simp only; omega⟩; ((repeat (first | refine Sub.pv ?_ rfl | refine Sub.var ?_ rfl rfl)); exact Sub.nil _ _ _ (StSub.refl _) rfl)) | (intros; (try simp only [List.length_map]); omega)))
end Go.Proofs.YtkaliolnijkadaaGreatDoor
