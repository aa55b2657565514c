import Derived.Test.YtkaliolnijkadaaGreatDoorBsSch
import Derived.Test.YtkaliolnijkadaaGreatDoorBsNum
import Derived.Test.YtkaliolnijkadaaGreatDoorBsRef
set_option linter.unusedSimpArgs false
set_option linter.unusedVariables false
namespace Go.Proofs.YtkaliolnijkadaaGreatDoor
open Go Go.Abs
attribute [local irreducible] Ev PWp
set_option maxRecDepth 10000
set_option maxHeartbeats 4000000
def allR (f : Nat → Bool) (n : Nat) : Bool := (List.range n).all f
theorem allR_no {f : Nat → Bool} {n k : Nat} (h : k < n) (hf : f k = false) : allR f n = false := by
  unfold allR
  rw [← Bool.not_eq_true, List.all_eq_true]
  exact fun q => by rw [q k (List.mem_range.2 h)] at hf; cases hf
theorem allR_yes {f : Nat → Bool} {n : Nat} (hf : ∀ k < n, f k = true) : allR f n = true := by
  unfold allR
  rw [List.all_eq_true]
  exact fun k h => hf k (List.mem_range.1 h)
theorem allR_iff {f : Nat → Bool} {n : Nat} : allR f n = true ↔ ∀ k < n, f k = true := by
  unfold allR
  rw [List.all_eq_true]
  exact ⟨fun h k hk => h k (List.mem_range.2 hk), fun h k hk => h k (List.mem_range.1 hk)⟩
theorem allR_up {f : Nat → Bool} {i : Nat} (hI : ∀ j < i, f j = true) (h : f i = true) : ∀ j < i + 1, f j = true := fun j hj => by
  rcases Nat.lt_succ_iff_lt_or_eq.1 hj with q | q
  · exact hI j q
  · subst q; exact h
theorem up_of {f : Nat → Bool} {i : Nat} {p : Prop} (hI : ∀ j < i, f j = true) (e : f i = true ↔ p) (h : p) : ∀ j < i + 1, f j = true := allR_up hI (e.2 h)
theorem no_of {f : Nat → Bool} {i : Nat} {p R : Prop} (h : f i = false → R) (e : f i = true ↔ p) (hp : ¬ p) : R := h (by rw [← Bool.not_eq_true]; exact fun q => hp (e.1 q))
theorem get_mapB {α β : Type} [Inhabited α] {f : α → β} {l : List α} {i : Nat} (h : i < l.length) : (l.map f)[i]? = some (f l[i]!) := by
  rw [getElem!_pos l i h, List.getElem?_map, List.getElem?_eq_getElem h]; rfl
variable (tx : Cl → Int)
def TxOK (c : Cl) : Prop := c.parts.length < 1000000000000 ∧ (c.kind = 4 → PF Tryz.prog 77 [.agg c.cells] (PV.val (Value.int .i64 (tx c))))
def cellB (c : Cl) : Bool := if c.kind = 0 then vRight c.val && decide (c.parts.length = 0) else if c.kind = 1 then mRight c else if c.kind = 2 then decide (cRight c = 0) else if c.kind = 3 then bRight c else if c.kind = 4 then decide (tx c = 0) else false
theorem cell_spec (c : Cl) (h : TxOK tx c) : PF Tryz.prog 59 [.agg c.cells] (PV.val (Value.bool (cellB tx c))) := by
  obtain ⟨hl, ht⟩ := h
  have h1 := mright_spec c (by omega)
  have h3 := bright_spec c (by omega)
  have hv := vright_spec c.val
  have h2 := cright_spec c
  unfold cellB
  generalize vRight c.val = A at *
  generalize mRight c = B at *
  generalize cRight c = C at *
  generalize bRight c = D at *
  generalize tx c = E at *
  refine pf_of tt_ok Tryz.func59 (by kernel_rfl) rfl rfl rfl rfl (fun st => ?_)
  (try (apply wO pk; exact rfl)); (repeat' (first | (show All _; constructor) | (show Imp _ _; constructor) | (show ImpX _ _ _ _; constructor) | (apply wC pk; (iterate 2 exact rfl)) | (apply wE pk; (iterate 2 exact rfl)) | (apply wX pk; exact rfl) | (apply wN pk; exact rfl) | (apply wD pk [] []; kernel_rfl; exact rfl; exact rfl) | (apply pwp_condC; simp only [cond_true, cond_false]) | (refine pwp_cond rfl (fun h => ?_) (fun h => ?_) <;> (try simp at h) <;> try (exfalso; omega)) | (refine pwp_ret ?_; refine ⟨_, _, _, rfl, Wk.refl _, StSub.refl _, ?_, rfl⟩; try first | rfl | ((simp [*]; done); done)) | (apply callS; (iterate 3 exact rfl); (intro _; (first | apply hv | apply h1 | apply h2 | apply h3 | apply (ht (by assumption))) <;> first | assumption | omega); rotate_left; (iterate 2 exact rfl)) | (intros; (try simp only [List.length_map]); omega)))
def dotR (l : List Dt) (k : Nat) : Bool := dotOK l[k]! && (decide (k = 0) || aboveB l[k]! l[k - 1]!)
def dotsB (l : List Dt) : Bool := allR (dotR l) l.length
def cellR (t : Tb) (l : Ln) (k : Nat) : Bool := decide (l.cells_[k]!.kind = t.cols[k]!.kind) && cellB tx l.cells_[k]!
def headB (t : Tb) (l : Ln) : Bool := decide (0 ≤ l.key ∧ l.key < 1073741824 ∧ l.cells_.length = t.cols.length) && decide (l.cells_[0]!.val = ⟨1, l.key, e0⟩)
def lineB (t : Tb) (l : Ln) : Bool := headB t l && (allR (cellR tx t l) l.cells_.length && dotsB l.by_)
theorem head_no {t : Tb} {l : Ln} (h : headB t l = false) : lineB tx t l = false := by unfold lineB; rw [h]; rfl
theorem cell_no {t : Tb} {l : Ln} {k : Nat} (h : k < l.cells_.length) (hf : cellR tx t l k = false) : lineB tx t l = false := by unfold lineB; rw [allR_no h hf]; simp
theorem dot_no {t : Tb} {l : Ln} {k : Nat} (h : k < l.by_.length) (hf : dotR l.by_ k = false) : lineB tx t l = false := by unfold lineB dotsB; rw [allR_no h hf]; simp
theorem line_yes {t : Tb} {l : Ln} (h : headB t l = true) (hc : ∀ k < l.cells_.length, cellR tx t l k = true) (hd : ∀ k < l.by_.length, dotR l.by_ k = true) : lineB tx t l = true := by
  unfold lineB dotsB
  rw [h, allR_yes hc, allR_yes hd]; rfl
theorem line_spec (t : Tb) (l : Ln) (ht : 0 < t.cols.length) (hl : l.cells_.length < 1000000000000 ∧ l.by_.length < 1000000000000) (hp : ∀ c ∈ l.cells_, TxOK tx c) : PF Tryz.prog 33 [.agg t.cells, .agg l.cells] (PV.val (Value.bool (lineB tx t l))) := by
  by_cases h0 : ¬ ((0 ≤ l.key ∧ l.key < 1073741824) ∧ l.cells_.length = t.cols.length)
  · rw [head_no tx (by unfold headB; rw [decide_eq_false (fun h => h0 ⟨⟨h.1, h.2.1⟩, h.2.2⟩)]; rfl)]
    refine pf_of tt_ok Tryz.func33 (by kernel_rfl) rfl rfl rfl rfl (fun st => ?_)
    (try (apply wO pk; exact rfl)); (repeat' (first | (show All _; constructor) | (show Imp _ _; constructor) | (show ImpX _ _ _ _; constructor) | (apply wC pk; (iterate 2 exact rfl)) | (apply wE pk; (iterate 2 exact rfl)) | (apply wX pk; exact rfl) | (apply wN pk; exact rfl) | (apply wD pk [] []; kernel_rfl; exact rfl; exact rfl) | (apply pwp_condC; simp only [cond_true, cond_false]) | (refine pwp_cond rfl (fun h => ?_) (fun h => ?_) <;> (try simp at h) <;> try (exfalso; omega)) | (refine pwp_ret ?_; refine ⟨_, _, _, rfl, Wk.refl _, StSub.refl _, ?_, rfl⟩; try rfl) | (apply idxS pk; (iterate 6 exact rfl); rotate_left; exact rfl; (intro hw; exact rfl); (intro hw; apply get_mapB <;> first | omega | ((exfalso; simp [gw] at hw; omega))); (intro _; exact rfl); exact rfl) | (intros; (try simp only [List.length_map]); omega)))
  obtain ⟨⟨h1, h2⟩, h3⟩ := Decidable.of_not_not h0
  have hh : ¬ l.cells_[0].val = ⟨1, l.key, e0⟩ → headB t l = false := fun h => by unfold headB; rw [getElem!_pos l.cells_ 0 (by omega), decide_eq_false h]; simp
  rw [Vl.ext_iff] at hh
  have hy : l.cells_[0].val = ⟨1, l.key, e0⟩ → headB t l = true := fun h => by unfold headB; rw [getElem!_pos l.cells_ 0 (by omega), decide_eq_true h, decide_eq_true ⟨h1, h2, h3⟩]; rfl
  rw [Vl.ext_iff] at hy
  refine pf_of tt_ok Tryz.func33 (by kernel_rfl) rfl rfl rfl rfl (fun st => ?_)
  (try (apply wO pk; exact rfl)); (repeat' (first | (show All _; constructor) | (show Imp _ _; constructor) | (show ImpX _ _ _ _; constructor) | (apply wC pk; (iterate 2 exact rfl)) | (apply wE pk; (iterate 2 exact rfl)) | (apply wX pk; exact rfl) | (apply wN pk; exact rfl) | (apply wD pk [] []; kernel_rfl; exact rfl; exact rfl) | (apply pwp_condC; simp only [cond_true, cond_false]) | (refine pwp_cond rfl (fun h => ?_) (fun h => ?_) <;> (try simp at h) <;> try (exfalso; omega)) | (refine pwp_ret ?_; refine ⟨_, _, _, rfl, Wk.refl _, StSub.refl _, ?_, rfl⟩; try first | rfl | ((first | (rw [head_no tx (hh (by grind))]; done) | (exfalso; omega)); done)) | (apply idxS pk; (iterate 6 exact rfl); rotate_left; exact rfl; (intro hw; exact rfl); (intro hw; apply get_map <;> omega); (intro _; exact rfl); exact rfl) | (intros; (try simp only [List.length_map]); omega)))
  have hy1 : headB t l = true := hy (by grind)
  refine pwp_loop (X := { x : Nat // x ≤ l.cells_.length ∧ ∀ j < x, cellR tx t l j = true }) (fun i => ((((((St.nil 102 st).var 2 66 (t.cells)).var 3 37 (l.cells)).pv 38 (.seq (l.cells_.map Cl.cells))).pv 39 ((PV.val (Value.int .i64 (((l.cells_.map Cl.cells).length : Nat)))))).pv 40 ((PV.val (Value.int .i64 ((i.1 : Nat))))))) (fun i => l.cells_.length - i.1) ⟨0, by omega, by omega⟩ ?_ (fun i => ?_)
  · ((repeat (first | refine Sub.pv ?_ rfl | refine Sub.var ?_ rfl rfl)); exact Sub.nil _ _ _ (StSub.refl _) rfl)
  obtain ⟨i, hi, hI⟩ := i
  dsimp only
  by_cases hend : l.cells_.length ≤ i
  · (try (apply wO pk; exact rfl)); (repeat' (first | (show All _; constructor) | (show Imp _ _; constructor) | (show ImpX _ _ _ _; constructor) | (apply wC pk; (iterate 2 exact rfl)) | (apply wE pk; (iterate 2 exact rfl)) | (apply wX pk; exact rfl) | (apply wN pk; exact rfl) | (apply wD pk [] []; kernel_rfl; exact rfl; exact rfl) | (apply pwp_condC; simp only [cond_true, cond_false]) | (refine pwp_cond rfl (fun h => ?_) (fun h => ?_) <;> (try simp at h) <;> try (exfalso; omega)) | (refine pwp_ret ?_; refine ⟨_, _, _, rfl, Wk.refl _, StSub.refl _, ?_, rfl⟩; try rfl) | (intros; (try simp only [List.length_map]); omega)))
    refine pwp_loop (X := { x : Nat // x ≤ l.by_.length ∧ ∀ j < x, dotR l.by_ j = true }) (fun y => (((((St.nil 102 st).var 3 37 (l.cells)).pv 61 (.seq (l.by_.map Dt.cells))).pv 62 ((PV.val (Value.int .i64 (((l.by_.map Dt.cells).length : Nat)))))).pv 63 ((PV.val (Value.int .i64 ((y.1 : Nat))))))) (fun y => l.by_.length - y.1) ⟨0, by omega, by omega⟩ ?_ (fun y => ?_)
    · ((repeat (first | refine Sub.pv ?_ rfl | refine Sub.var ?_ rfl rfl)); exact Sub.nil _ _ _ (StSub.refl _) rfl)
    obtain ⟨y, hy, hyI⟩ := y
    dsimp only
    by_cases hend2 : l.by_.length ≤ y
    have e := line_yes tx hy1 (fun k hk => hI k (by omega)) fun k hk => hyI k (by omega)
    rotate_left
    have h1 : y < l.by_.length := by omega
    have e := Iff.refl (dotR l.by_ y = true)
    by_cases h0 : y = 0
    subst h0
    conv at e => rhs; simp only [dotR, dotOK, getElem!_pos l.by_ 0 h1, Bool.and_eq_true, decide_eq_true_eq, decide_true, Bool.true_or, and_true]
    have hF := no_of (dot_no tx (t := t) h1) e
    have hS := up_of hyI e
    rotate_left
    obtain ⟨k, rfl⟩ : ∃ k, y = k + 1 := ⟨y - 1, by omega⟩
    have hd := byD_spec l.by_[k] l.by_[k + 1]
    have hb := byD_neg l.by_[k] l.by_[k + 1]
    conv at e => rhs; simp only [dotR, dotOK, getElem!_pos l.by_ (k + 1) h1, show k + 1 - 1 = k from rfl, getElem!_pos l.by_ k (by omega), Bool.and_eq_true, decide_eq_true_eq, Bool.or_eq_true, h0, false_or]
    have hF := no_of (dot_no tx (t := t) h1) e
    have hS := up_of hyI e
    rotate_left
    all_goals ((try (apply wO pk; exact rfl)); (repeat' (first | (show All _; constructor) | (show Imp _ _; constructor) | (show ImpX _ _ _ _; constructor) | (apply wC pk; (iterate 2 exact rfl)) | (apply wE pk; (iterate 2 exact rfl)) | (apply wX pk; exact rfl) | (apply wN pk; exact rfl) | (apply wD pk [] []; kernel_rfl; exact rfl; exact rfl) | (apply pwp_condC; simp only [cond_true, cond_false]) | (refine pwp_cond rfl (fun h => ?_) (fun h => ?_) <;> (try simp at h) <;> try (exfalso; omega)) | (refine pwp_ret ?_; refine ⟨_, _, _, rfl, Wk.refl _, StSub.refl _, ?_, rfl⟩; try first | rfl | ((first | ((rw [e]); done) | ((first | (rw [hF (by grind)]; done) | (exfalso; grind)); done) | ((rw [hF (by grind)]); done)); done)) | (apply callS; (iterate 3 exact rfl); (intro _; (first | apply (show PF Tryz.prog 49 [_, _] (PV.val (Value.int .i64 (0))) from by rename_i hh; exact (gw_no hh).elim) | apply hd) <;> first | assumption | omega); rotate_left; (iterate 2 exact rfl)) | (apply idxS pk; (iterate 6 exact rfl); rotate_left; exact rfl; (first | ((intro hw; exact (show _ = ((0 : Nat) : Int) from by exact (gw_no hw).elim)); (intro hw; apply get_map <;> omega); (intro _; exact rfl)) | ((intro hw; exact rfl); (intro hw; apply get_map <;> omega); (intro _; exact rfl)) | ((intro hw; exact (show ((((k + 1 : Nat) : Int)) - 1 = ((k : Nat) : Int)) from by omega)); (intro hw; apply get_map <;> omega); (intro _; exact rfl))); exact rfl) | ((first | refine ⟨⟨1, by omega, hS (by grind)⟩, ?_, by simp only; omega⟩ | refine ⟨⟨k + 2, by omega, hS (by grind)⟩, ?_, by simp only; omega⟩); ((repeat (first | refine Sub.pv ?_ rfl | refine Sub.var ?_ rfl rfl)); exact Sub.nil _ _ _ (StSub.refl _) rfl)) | (intros; (try simp only [List.length_map]); omega))))
  have h1 : i < l.cells_.length := by omega
  have hc := cell_spec tx l.cells_[i] (hp _ (List.getElem_mem h1))
  have e := Iff.refl (cellR tx t l i = true)
  conv at e => rhs; simp only [cellR, getElem!_pos l.cells_ i h1, getElem!_pos t.cols i (show i < t.cols.length by omega), Bool.and_eq_true, decide_eq_true_eq]
  have hF := no_of (cell_no tx (t := t) h1) e
  have hS := up_of hI e
  (try (apply wO pk; exact rfl)); (repeat' (first | (show All _; constructor) | (show Imp _ _; constructor) | (show ImpX _ _ _ _; constructor) | (apply wC pk; (iterate 2 exact rfl)) | (apply wE pk; (iterate 2 exact rfl)) | (apply wX pk; exact rfl) | (apply wN pk; exact rfl) | (apply wD pk [] []; kernel_rfl; exact rfl; exact rfl) | (apply pwp_condC; simp only [cond_true, cond_false]) | (refine pwp_cond rfl (fun h => ?_) (fun h => ?_) <;> (try simp at h) <;> try (exfalso; omega)) | (refine pwp_ret ?_; refine ⟨_, _, _, rfl, Wk.refl _, StSub.refl _, ?_, rfl⟩; try first | rfl | ((rw [hF (by grind)]); done)) | (apply callS; (iterate 3 exact rfl); (intro _; apply hc <;> first | assumption | omega); rotate_left; (iterate 2 exact rfl)) | (apply idxS pk; (iterate 6 exact rfl); rotate_left; exact rfl; (intro hw; exact rfl); (intro hw; apply get_map <;> omega); (intro _; exact rfl); exact rfl) | (refine ⟨⟨i + 1, by omega, hS (by grind)⟩, ?_, by simp only; omega⟩; ((repeat (first | refine Sub.pv ?_ rfl | refine Sub.var ?_ rfl rfl)); exact Sub.nil _ _ _ (StSub.refl _) rfl)) | (intros; (try simp only [List.length_map]); omega)))
end Go.Proofs.YtkaliolnijkadaaGreatDoor
namespace Go.Proofs.YtkaliolnijkadaaGreatDoor
open Go Go.Abs
attribute [local irreducible] Ev PWp
set_option maxRecDepth 10000
set_option maxHeartbeats 4000000
theorem orI_zero : ∀ {l : List Int}, orI l = 0 → ∀ x ∈ l, x = 0
  | [], _, _, h => by cases h
  | a :: l, h, x, hx => by
    rw [orI] at h
    split at h
    · rename_i e
      rcases List.mem_cons.1 hx with rfl | q
      · exact e
      · exact orI_zero h x q
    · rename_i e; exact absurd h e
theorem first_zero {f : Nat → Int} {n : Nat} (h : firstP f n = 0) {k : Nat} (hk : k < n) : f k = 0 :=
  orI_zero h _ (List.mem_map.2 ⟨k, List.mem_range.2 hk, rfl⟩)
theorem rightS_tab {s : Sc} (h : rightS s = 0) {k : Nat} (hk : k < s.length) : ∀ x ∈ lks s k, x = 0 := by
  unfold rightS at h
  split at h
  · cases h
  · exact orI_zero (first_zero h hk)
theorem rightS_cols {s : Sc} (h : rightS s = 0) {k : Nat} (hk : k < s.length) : 0 < s[k].cols.length := by
  have := rightS_tab h hk (lk1 s[k]!) (by simp [lks])
  rw [getElem!_pos s k hk] at this
  unfold lk1 at this
  split at this
  · cases this
  · omega
variable (tx : Cl → Int)
def LnOK (l : Ln) : Prop := (l.cells_.length < 1000000000000 ∧ l.by_.length < 1000000000000) ∧ ∀ c ∈ l.cells_, TxOK tx c
def DaOK (d : Da) : Prop := d.lines.length < 1000000000000 ∧ ∀ l ∈ d.lines, LnOK tx l
def lnR (t : Tb) (L : List Ln) (i : Nat) : Bool := lineB tx t L[i]! && (decide (i = 0) || decide (L[i - 1]!.key < L[i]!.key))
def dataB (t : Tb) (L : List Ln) : Bool := decide (L.length ≤ 2000) && allR (lnR tx t L) L.length
def dataR (s : Sc) (b : Bs) (k : Nat) : Bool := dataB tx s[k]! b[k]!.lines
def baseB (s : Sc) (b : Bs) : Bool := decide (rightS s = 0 ∧ b.length = s.length) && allR (dataR tx s b) b.length
theorem base_no {s : Sc} {b : Bs} (h : ¬ (rightS s = 0 ∧ b.length = s.length)) : baseB tx s b = false := by unfold baseB; rw [decide_eq_false h]; rfl
theorem data_no {s : Sc} {b : Bs} {k : Nat} (h : k < b.length) (hf : dataR tx s b k = false) : baseB tx s b = false := by unfold baseB; rw [allR_no h hf]; simp
theorem base_yes {s : Sc} {b : Bs} (h : rightS s = 0 ∧ b.length = s.length) (hf : ∀ k < b.length, dataR tx s b k = true) : baseB tx s b = true := by unfold baseB; rw [allR_yes hf, decide_eq_true h]; rfl
theorem baseR_spec (s : Sc) (b : Bs) (hl : s.length < 1000000000000) (hB : ∀ t ∈ s, TbB t) (hb : b.length < 1000000000000) (hd : ∀ d ∈ b, DaOK tx d) : PF Tryz.prog 12 [.agg (scC s), .agg (bsC b)] (PV.val (Value.bool (baseB tx s b))) := by
  have hs := rightS_spec s (by omega) hB
  by_cases h0 : ¬ (rightS s = 0 ∧ b.length = s.length)
  · rw [base_no tx h0]
    generalize rightS s = R at *
    refine pf_of tt_ok Tryz.func12 (by kernel_rfl) rfl rfl rfl rfl (fun st => ?_)
    (try (apply wO pk; exact rfl)); (repeat' (first | ((exfalso; omega)) | (show All _; constructor) | (show Imp _ _; constructor) | (show ImpX _ _ _ _; constructor) | (apply wC pk; (iterate 2 exact rfl)) | (apply wE pk; (iterate 2 exact rfl)) | (apply wX pk; exact rfl) | (apply wN pk; exact rfl) | (apply wD pk [] []; kernel_rfl; exact rfl; exact rfl) | (apply pwp_condC; simp only [cond_true, cond_false]) | (refine pwp_cond rfl (fun h => ?_) (fun h => ?_) <;> (try simp at h) <;> try (exfalso; omega)) | (refine pwp_ret ?_; refine ⟨_, _, _, rfl, Wk.refl _, StSub.refl _, ?_, rfl⟩; try first | rfl | ((exfalso; omega); done)) | (apply callS; (iterate 3 exact rfl); (intro _; apply hs <;> first | assumption | omega); rotate_left; (iterate 2 exact rfl)) | (intros; (try simp only [List.length_map]); omega)))
  replace h0 := Decidable.of_not_not h0
  obtain ⟨h1, h2⟩ := h0
  rw [h1] at hs
  refine pf_of tt_ok Tryz.func12 (by kernel_rfl) rfl rfl rfl rfl (fun st => ?_)
  (try (apply wO pk; exact rfl)); (repeat' (first | (show All _; constructor) | (show Imp _ _; constructor) | (show ImpX _ _ _ _; constructor) | (apply wC pk; (iterate 2 exact rfl)) | (apply wE pk; (iterate 2 exact rfl)) | (apply wX pk; exact rfl) | (apply wN pk; exact rfl) | (apply wD pk [] []; kernel_rfl; exact rfl; exact rfl) | (apply pwp_condC; simp only [cond_true, cond_false]) | (refine pwp_cond rfl (fun h => ?_) (fun h => ?_) <;> (try simp at h) <;> try (exfalso; omega)) | (refine pwp_ret ?_; refine ⟨_, _, _, rfl, Wk.refl _, StSub.refl _, ?_, rfl⟩; try first | rfl | ((exfalso; omega); done)) | (apply callS; (iterate 3 exact rfl); (intro _; apply hs <;> first | assumption | omega); rotate_left; (iterate 2 exact rfl)) | (intros; (try simp only [List.length_map]); omega)))
  refine pwp_loop (X := { x : Nat // x ≤ b.length ∧ ∀ j < x, dataR tx s b j = true }) (fun i => (((((St.nil 67 st).var 2 24 ((scC s))).pv 22 (.seq (b.map Da.cells))).pv 23 ((PV.val (Value.int .i64 (((b.map Da.cells).length : Nat)))))).pv 24 ((PV.val (Value.int .i64 ((i.1 : Nat))))))) (fun i => b.length - i.1) ⟨0, by omega, by omega⟩ ?_ (fun i => ?_)
  · ((repeat (first | refine Sub.pv ?_ rfl | refine Sub.var ?_ rfl rfl)); exact Sub.nil _ _ _ (StSub.refl _) rfl)
  obtain ⟨i, hi, hI⟩ := i
  dsimp only
  by_cases hend : b.length ≤ i
  have e := base_yes tx ⟨h1, h2⟩ fun k hk => hI k (by omega)
  rotate_left
  have hib : i < b.length := by omega
  have his : i < s.length := by omega
  have hcl := rightS_cols h1 his
  obtain ⟨d1, d2⟩ := hd _ (List.getElem_mem hib)
  have e := Iff.refl (dataR tx s b i = true)
  conv at e => rhs; simp only [dataR, dataB, getElem!_pos s i his, getElem!_pos b i hib, Bool.and_eq_true, decide_eq_true_eq, allR_iff]
  have hF := no_of (data_no tx (s := s) hib) e
  have hS := up_of hI e
  by_cases h2k : ¬ b[i].lines.length ≤ 2000
  have hF0 := hF fun q => h2k q.1
  rotate_left
  all_goals ((try (apply wO pk; exact rfl)); (repeat' (first | ((exfalso; omega)) | (show All _; constructor) | (show Imp _ _; constructor) | (show ImpX _ _ _ _; constructor) | (apply wC pk; (iterate 2 exact rfl)) | (apply wE pk; (iterate 2 exact rfl)) | (apply wX pk; exact rfl) | (apply wN pk; exact rfl) | (apply wD pk [] []; kernel_rfl; exact rfl; exact rfl) | (apply pwp_condC; simp only [cond_true, cond_false]) | (refine pwp_cond rfl (fun h => ?_) (fun h => ?_) <;> (try simp at h) <;> try (exfalso; omega)) | (refine pwp_ret ?_; refine ⟨_, _, _, rfl, Wk.refl _, StSub.refl _, ?_, rfl⟩; try first | rfl | ((first | ((rw [e]); done) | ((rw [hF0]); done)); done)) | (apply idxS pk; (iterate 6 exact rfl); rotate_left; exact rfl; (intro hw; exact rfl); (intro hw; apply get_map <;> omega); (intro _; exact rfl); exact rfl) | (intros; (try simp only [List.length_map]); omega))))
  focus ((try (apply wO pk; exact rfl)); (repeat' (first | ((exfalso; omega)) | (show All _; constructor) | (show Imp _ _; constructor) | (show ImpX _ _ _ _; constructor) | (apply wC pk; (iterate 2 exact rfl)) | (apply wE pk; (iterate 2 exact rfl)) | (apply wX pk; exact rfl) | (apply wN pk; exact rfl) | (apply wD pk [] []; kernel_rfl; exact rfl; exact rfl) | (apply pwp_condC; simp only [cond_true, cond_false]) | (refine pwp_cond rfl (fun h => ?_) (fun h => ?_) <;> (try simp at h) <;> try (exfalso; omega)) | (refine pwp_ret ?_; refine ⟨_, _, _, rfl, Wk.refl _, StSub.refl _, ?_, rfl⟩; try rfl) | (apply idxS pk; (iterate 6 exact rfl); rotate_left; exact rfl; (intro hw; exact rfl); (intro hw; apply get_map <;> omega); (intro _; exact rfl); exact rfl) | (intros; (try simp only [List.length_map]); omega))))
  refine pwp_loop (X := { x : Nat // x ≤ b[i].lines.length ∧ ∀ j < x, lnR tx s[i] b[i].lines j = true }) (fun y => ((((((((((St.nil 67 st).var 2 24 ((scC s))).pv 5 ((PV.val (Value.int .i64 ((i : Nat)))))).var 6 57 (b[i].cells)).pv 22 (.seq (b.map Da.cells))).pv 23 ((PV.val (Value.int .i64 (((b.map Da.cells).length : Nat)))))).pv 24 ((PV.val (Value.int .i64 ((i : Nat)))))).pv 34 (.seq (b[i].lines.map Ln.cells))).pv 35 ((PV.val (Value.int .i64 (((b[i].lines.map Ln.cells).length : Nat)))))).pv 36 ((PV.val (Value.int .i64 ((y.1 : Nat))))))) (fun y => b[i].lines.length - y.1) ⟨0, by omega, by omega⟩ ?_ (fun y => ?_)
  · ((repeat (first | refine Sub.pv ?_ rfl | refine Sub.var ?_ rfl rfl)); exact Sub.nil _ _ _ (StSub.refl _) rfl)
  obtain ⟨y, hy, hyI⟩ := y
  dsimp only
  by_cases hend2 : b[i].lines.length ≤ y
  rotate_left
  have hyl : y < b[i].lines.length := by omega
  obtain ⟨l1, l2⟩ := d2 _ (List.getElem_mem hyl)
  have hls := line_spec tx s[i] b[i].lines[y] hcl l1 l2
  have e := Iff.refl (lnR tx s[i] b[i].lines y = true)
  have hF2 := fun h : ¬ lnR tx s[i] b[i].lines y = true => hF fun q => h (q.2 y hyl)
  by_cases h0 : y = 0
  subst h0
  conv at e => rhs; simp only [lnR, getElem!_pos b[i].lines 0 hyl, decide_true, Bool.true_or, Bool.and_true]
  have hS2 := up_of hyI e
  rw [e] at hF2
  rotate_left
  obtain ⟨k, rfl⟩ : ∃ k, y = k + 1 := ⟨y - 1, by omega⟩
  conv at e => rhs; simp only [lnR, getElem!_pos b[i].lines (k + 1) hyl, show k + 1 - 1 = k from rfl, getElem!_pos b[i].lines k (by omega), Bool.and_eq_true, decide_eq_true_eq, Bool.or_eq_true, h0, false_or]
  have hS2 := up_of hyI e
  rw [e] at hF2
  rotate_left
  all_goals ((try (apply wO pk; exact rfl)); (repeat' (first | (show All _; constructor) | (show Imp _ _; constructor) | (show ImpX _ _ _ _; constructor) | (apply wC pk; (iterate 2 exact rfl)) | (apply wE pk; (iterate 2 exact rfl)) | (apply wX pk; exact rfl) | (apply wN pk; exact rfl) | (apply wD pk [] []; kernel_rfl; exact rfl; exact rfl) | (apply pwp_condC; simp only [cond_true, cond_false]) | (refine pwp_cond rfl (fun h => ?_) (fun h => ?_) <;> (try simp at h) <;> try (exfalso; omega)) | (refine pwp_ret ?_; refine ⟨_, _, _, rfl, Wk.refl _, StSub.refl _, ?_, rfl⟩; try first | rfl | ((rw [hF2 (by grind)]); done)) | (apply callS; (iterate 3 exact rfl); (intro _; apply hls <;> first | assumption | omega); rotate_left; (iterate 2 exact rfl)) | (apply idxS pk; (iterate 6 exact rfl); rotate_left; exact rfl; (first | ((intro hw; exact rfl); (intro hw; apply get_map <;> omega); (intro _; exact rfl)) | ((intro hw; exact (show _ = ((0 : Nat) : Int) from by exact (gw_no hw).elim)); (intro hw; apply get_map <;> omega); (intro _; exact rfl)) | ((intro hw; exact (show ((((k + 1 : Nat) : Int)) - 1 = ((k : Nat) : Int)) from by omega)); (intro hw; apply get_map <;> omega); (intro _; exact rfl))); exact rfl) | (exact absurd (by assumption : b[i].lines = []) (List.ne_nil_of_length_pos hyl)) | ((first | refine ⟨⟨i + 1, by omega, hS ⟨by omega, fun k hk => hyI k (by omega)⟩⟩, ?_, by simp only; omega⟩ | refine ⟨⟨1, by omega, hS2 (by grind)⟩, ?_, by simp only; omega⟩ | refine ⟨⟨k + 2, by omega, hS2 (by grind)⟩, ?_, by simp only; omega⟩); ((repeat (first | refine Sub.pv ?_ rfl | refine Sub.var ?_ rfl rfl)); exact Sub.nil _ _ _ (StSub.refl _) rfl)) | (intros; (try simp only [List.length_map]); omega))))
end Go.Proofs.YtkaliolnijkadaaGreatDoor
