import Derived.Test.YtkaliolnijkadaaGreatDoorBsRefS
set_option linter.unusedSimpArgs false
set_option linter.unusedVariables false
namespace Go.Proofs.YtkaliolnijkadaaGreatDoor
open Go Go.Abs
theorem above_tr {a b c : Dt} (h1 : aboveB b a = true) (h2 : aboveB c b = true) : aboveB c a = true := by
  unfold aboveB at *
  simp only [Bool.or_eq_true, Bool.and_eq_true, decide_eq_true_eq] at *
  omega
theorem above_irr {a : Dt} : ¬ aboveB a a = true := by
  unfold aboveB
  simp only [Bool.or_eq_true, Bool.and_eq_true, decide_eq_true_eq]
  omega
theorem above_tot {a b : Dt} (h : aboveB a b = false) (hne : a ≠ b) : aboveB b a = true := by
  rw [Ne, Dt.ext_iff] at hne
  unfold aboveB at *
  simp only [Bool.or_eq_true, Bool.and_eq_true, decide_eq_true_eq, Bool.or_eq_false_iff, Bool.and_eq_false_iff, decide_eq_false_iff_not] at *
  omega
def Rise (l : List Dt) : Prop := l.Pairwise fun a b => aboveB b a = true
theorem rise_ext : ∀ {l m : List Dt}, Rise l → Rise m → (∀ x, x ∈ l ↔ x ∈ m) → l = m
  | [], [], _, _, _ => rfl
  | [], b :: m, _, _, h => absurd ((h b).2 (by simp)) (by simp)
  | a :: l, [], _, _, h => absurd ((h a).1 (by simp)) (by simp)
  | a :: l, b :: m, h1, h2, h => by
    have h1' := List.pairwise_cons.1 h1
    have h2' := List.pairwise_cons.1 h2
    have e : a = b := by
      rcases List.mem_cons.1 ((h a).1 (by simp)) with q | q
      · exact q
      rcases List.mem_cons.1 ((h b).2 (by simp)) with r | r
      · exact r.symm
      exact absurd (above_tr (h2'.1 a q) (h1'.1 b r)) above_irr
    subst e
    rw [rise_ext h1'.2 h2'.2 fun x => ?_]
    constructor
    · intro q
      rcases List.mem_cons.1 ((h x).1 (List.mem_cons_of_mem _ q)) with r | r
      · subst r; exact absurd (h1'.1 x q) above_irr
      · exact r
    · intro q
      rcases List.mem_cons.1 ((h x).2 (List.mem_cons_of_mem _ q)) with r | r
      · subst r; exact absurd (h2'.1 x q) above_irr
      · exact r
def insD (l : List Dt) (d : Dt) : List Dt := if d ∈ l then l else putInDt l (dotAt l d) [d]
theorem wrote_by (l : Ln) (d : Dt) : wroteP l d = { l with by_ := insD l.by_ d } := by
  unfold wroteP insD
  split <;> rfl
theorem insD_mem (l : List Dt) (d x : Dt) : x ∈ insD l d ↔ x = d ∨ x ∈ l := by
  unfold insD
  split
  · rename_i h
    exact ⟨.inr, fun q => by rcases q with rfl | q <;> assumption⟩
  · unfold putInDt
    have e := List.take_append_drop (dotAt l d) l
    conv => rhs; rw [← e]
    simp only [List.mem_append, List.mem_singleton]
    grind
theorem insD_rise {l : List Dt} (h : Rise l) (d : Dt) : Rise (insD l d) := by
  unfold insD
  split
  · exact h
  rename_i hd
  unfold putInDt Rise
  have e := List.take_append_drop (dotAt l d) l
  have hp := h
  unfold Rise at hp
  rw [← e, List.pairwise_append] at hp
  have hlo : ∀ x ∈ l.take (dotAt l d), aboveB d x = true := fun x hx => by
    obtain ⟨q, hq, rfl⟩ := List.getElem_of_mem hx
    rw [List.length_take] at hq
    rw [List.getElem_take]
    exact above_tot (dotAt_lo (by omega) (by omega)) fun q => hd (q ▸ List.getElem_mem _)
  have hhi : ∀ x ∈ l.drop (dotAt l d), aboveB x d = true := fun x hx => by
    obtain ⟨q, hq, rfl⟩ := List.getElem_of_mem hx
    rw [List.length_drop] at hq
    rw [List.getElem_drop]
    have h0 := dotAt_hi (L := l) rfl (show dotAt l d < l.length by omega)
    rcases Nat.eq_zero_or_pos q with rfl | hq0
    · exact h0
    · exact above_tr h0 (List.pairwise_iff_getElem.1 h _ _ (by omega) (by omega) (by omega))
  rw [List.pairwise_append, List.pairwise_append]
  refine ⟨⟨hp.1, List.pairwise_singleton .., fun x hx y hy => ?_⟩, hp.2.1, fun x hx y hy => ?_⟩
  · rw [List.mem_singleton.1 hy]; exact hlo x hx
  · rcases List.mem_append.1 hx with q | q
    · exact hp.2.2 x q y hy
    · rw [List.mem_singleton.1 q]; exact hhi y hy
theorem insD_comm {l : List Dt} (h : Rise l) (c d : Dt) : insD (insD l c) d = insD (insD l d) c :=
  rise_ext (insD_rise (insD_rise h c) d) (insD_rise (insD_rise h d) c) fun x => by simp only [insD_mem]; grind
theorem wrote_comm {l : Ln} (h : Rise l.by_) (c d : Dt) : wroteP (wroteP l c) d = wroteP (wroteP l d) c := by
  simp only [wrote_by]
  rw [insD_comm h]
def cntD (d : Dt) (l : List Dt) : Nat := l.countP fun y => decide (y = d)
theorem cnt_up {d : Dt} {l : List Dt} {i : Nat} (h : i < l.length) : cntD d (l.take (i + 1)) = cntD d (l.take i) + if l[i] = d then 1 else 0 := by
  unfold cntD
  rw [List.take_succ_eq_append_getElem h, List.countP_append, List.countP_singleton]
  simp
theorem cnt_ins (l : List Dt) (d : Dt) : cntD d (insD l d) = max 1 (cntD d l) ∧ (insD l d).length + cntD d l = l.length + cntD d (insD l d) := by
  unfold insD
  split
  · rename_i h
    have : 0 < cntD d l := List.countP_pos_iff.2 ⟨d, h, decide_eq_true rfl⟩
    exact ⟨by omega, by omega⟩
  · rename_i h
    have h0 : cntD d l = 0 := List.countP_eq_zero.2 fun x hx => by rw [decide_eq_true_eq]; exact fun q => h (q ▸ hx)
    have h1 : cntD d (putInDt l (dotAt l d) [d]) = 1 := by
      have e := List.take_append_drop (dotAt l d) l
      unfold cntD at h0 ⊢
      rw [← e, List.countP_append] at h0
      unfold putInDt
      rw [List.countP_append, List.countP_append]
      simp
      omega
    rw [h0, h1, putInDt_len (dotAt_le _ _)]
    exact ⟨rfl, rfl⟩
def upR (l : List Dt) (k : Nat) : Bool := decide (k = 0) || aboveB l[k]! l[k - 1]!
theorem rise_of {l : List Dt} (h : ∀ k < l.length, upR l k = true) : Rise l := by
  have key : ∀ j (hj : j < l.length) i (hi : i < j), aboveB l[j] (l[i]'(by omega)) = true := by
    intro j
    induction j with
    | zero => intro _ i hi; exact absurd hi (Nat.not_lt_zero _)
    | succ j ih =>
      intro hj i hi
      have := h (j + 1) hj
      unfold upR at this
      rw [getElem!_pos l (j + 1) hj, show j + 1 - 1 = j from rfl, getElem!_pos l j (by omega)] at this
      have this : aboveB l[j + 1] l[j] = true := by simpa using this
      rcases Nat.lt_succ_iff_lt_or_eq.1 hi with q | q
      · exact above_tr (ih (by omega) i q) this
      · subst q; exact this
  exact List.pairwise_iff_getElem.2 fun i j hi hj hij => key j hj i hij
theorem allR_succ (f : Nat → Bool) (n : Nat) : allR f (n + 1) = (allR f n && f n) := by
  unfold allR
  rw [List.range_succ, List.all_append]; simp
end Go.Proofs.YtkaliolnijkadaaGreatDoor
namespace Go.Proofs.YtkaliolnijkadaaGreatDoor
open Go Go.Abs
attribute [local irreducible] Ev PWp
set_option maxRecDepth 10000
set_option maxHeartbeats 4000000
theorem bwrote_spec (l : Ln) (d e : Dt) (hl : l.cells_.length < 4611686018427387904) : PF Tryz.prog 9 [.agg l.cells, .agg (d.cells ++ e.cells)] (PV.val (Value.bool (true))) := by
  have hA := alive_spec
  have hs := Small_spec l hl
  cases hg : smallP l with
  | false =>
    rw [hg] at hs
    refine pf_of tt_ok Tryz.func9 (by kernel_rfl) rfl rfl rfl rfl (fun st => ?_)
    (try (apply wO pk; exact rfl)); (repeat' (first | (show All _; constructor) | (show Imp _ _; constructor) | (show ImpX _ _ _ _; constructor) | (apply wC pk; (iterate 2 exact rfl)) | (apply wE pk; (iterate 2 exact rfl)) | (apply wX pk; exact rfl) | (apply wN pk; exact rfl) | (apply wD pk [] []; kernel_rfl; exact rfl; exact rfl) | (apply pwp_condC; simp only [cond_true, cond_false]) | (refine pwp_cond rfl (fun h => ?_) (fun h => ?_) <;> (try simp at h) <;> try (exfalso; omega)) | (refine pwp_ret ?_; refine ⟨_, _, _, rfl, Wk.refl _, StSub.refl _, ?_, rfl⟩; try rfl) | (apply callS; (iterate 3 exact rfl); (intro _; (first | apply hA | apply hs) <;> first | assumption | omega); rotate_left; (iterate 2 exact rfl)) | (intros; (try simp only [List.length_map]); omega)))
  | true =>
  rw [hg] at hs
  have hL := small_S hg
  have hL60 : l.by_.length ≤ 60 := by unfold smallP at hg; simp only [Bool.and_eq_true, decide_eq_true_eq] at hg; omega
  have c1 := cnt_ins l.by_ d
  have eX := wrote_by l d
  have hX := hL.wrote (by omega) d
  have hXk : (wroteP l d).key = l.key := by rw [eX]
  have hXb : (wroteP l d).by_ = insD l.by_ d := by rw [eX]
  have hcl : ∀ m : List Dt, cntD d m ≤ m.length := fun m => List.countP_le_length
  have hXl : (wroteP l d).by_.length ≤ 61 := by have := hcl l.by_; have := c1.1; rw [hXb]; omega
  have w1 := wrote_spec l d (by omega)
  have w2 := wrote_spec l e (by omega)
  have hY := hL.wrote (by omega) e
  have hYl : (wroteP l e).by_.length ≤ 61 := by have := (cnt_ins l.by_ e).2; have := (cnt_ins l.by_ e).1; have : ∀ m : List Dt, cntD e m ≤ m.length := fun m => List.countP_le_length; have := this l.by_; rw [show (wroteP l e).by_ = insD l.by_ e from by rw [wrote_by]]; omega
  have w3 := wrote_spec (wroteP l d) e (by omega)
  have w4 := wrote_spec (wroteP l e) d (by omega)
  have w5 := sameL_spec (hX.wrote (by omega) e) (wroteP (wroteP l e) d)
  have hcom := fun h : ∀ k < l.by_.length, upR l.by_ k = true => wrote_comm (rise_of h) d e
  generalize wroteP (wroteP l d) e = A at *
  generalize wroteP (wroteP l e) d = B at *
  generalize hXe : wroteP l d = X at *
  refine pf_of tt_ok Tryz.func9 (by kernel_rfl) rfl rfl rfl rfl (fun st => ?_)
  focus ((try (apply wO pk; exact rfl)); (repeat' (first | (show All _; constructor) | (show Imp _ _; constructor) | (show ImpX _ _ _ _; constructor) | (apply wC pk; (iterate 2 exact rfl)) | (apply wE pk; (iterate 2 exact rfl)) | (apply wX pk; exact rfl) | (apply wN pk; exact rfl) | (apply wD pk [] []; kernel_rfl; exact rfl; exact rfl) | (apply pwp_condC; simp only [cond_true, cond_false]) | (refine pwp_cond rfl (fun h => ?_) (fun h => ?_) <;> (try simp at h) <;> try (exfalso; omega)) | (refine pwp_ret ?_; refine ⟨_, _, _, rfl, Wk.refl _, StSub.refl _, ?_, rfl⟩; try rfl) | (apply callS; (iterate 3 exact rfl); (intro _; (first | apply hs | apply w1) <;> first | assumption | omega); rotate_left; (iterate 2 exact rfl)) | ((apply idxL pk 0; (iterate 5 exact rfl); (focus repeat' constructor); exact rfl; (intro _; rfl); (intro _; omega); exact rfl)) | (intros; (try simp only [List.length_map]); omega))))
  refine pwp_loop (X := { x : Nat // x ≤ X.by_.length }) (fun i => ((((((((St.nil 155 st).var 2 37 (l.cells)).var 3 74 ((d.cells ++ e.cells))).var 5 37 (X.cells)).pv 6 ((PV.val (Value.int .i64 (((cntD d (X.by_.take i.1) : Nat) : Int)))))).pv 25 (.seq (X.by_.map Dt.cells))).pv 26 ((PV.val (Value.int .i64 (((X.by_.map Dt.cells).length : Nat)))))).pv 27 ((PV.val (Value.int .i64 ((i.1 : Nat))))))) (fun i => X.by_.length - i.1) ⟨0, by omega⟩ ?_ (fun i => ?_)
  · ((repeat (first | refine Sub.pv ?_ rfl | refine Sub.var ?_ rfl rfl)); exact Sub.nil _ _ _ (StSub.refl _) rfl)
  obtain ⟨i, hi⟩ := i
  dsimp only
  have hci := hcl (X.by_.take i)
  rw [List.length_take] at hci
  by_cases hil : i < X.by_.length
  have hu := cnt_up (d := d) hil
  by_cases hk : X.by_[i] = d
  rw [if_pos hk] at hu
  rotate_left
  rw [if_neg hk] at hu
  rotate_left
  rw [List.take_of_length_le (by omega)]
  focus ((try (apply wO pk; exact rfl)); (repeat' (first | (show All _; constructor) | (show Imp _ _; constructor) | (show ImpX _ _ _ _; constructor) | (apply wC pk; (iterate 2 exact rfl)) | (apply wE pk; (iterate 2 exact rfl)) | (apply wX pk; exact rfl) | (apply wN pk; exact rfl) | (apply wD pk [] []; kernel_rfl; exact rfl; exact rfl) | (apply pwp_condC; simp only [cond_true, cond_false]) | (refine pwp_cond rfl (fun h => ?_) (fun h => ?_) <;> (try simp at h) <;> try (exfalso; omega)) | (refine pwp_ret ?_; refine ⟨_, _, _, rfl, Wk.refl _, StSub.refl _, ?_, rfl⟩; try rfl) | (intros; (try simp only [List.length_map]); omega))))
  refine pwp_loop (X := { x : Nat // x ≤ l.by_.length }) (fun y => (((((((((St.nil 155 st).var 2 37 (l.cells)).var 3 74 ((d.cells ++ e.cells))).var 5 37 (X.cells)).pv 6 ((PV.val (Value.int .i64 (((cntD d X.by_ : Nat) : Int)))))).pv 9 ((PV.val (Value.int .i64 (((cntD d (l.by_.take y.1) : Nat) : Int)))))).pv 39 (.seq (l.by_.map Dt.cells))).pv 40 ((PV.val (Value.int .i64 (((l.by_.map Dt.cells).length : Nat)))))).pv 41 ((PV.val (Value.int .i64 ((y.1 : Nat))))))) (fun y => l.by_.length - y.1) ⟨0, by omega⟩ ?_ (fun y => ?_)
  · ((repeat (first | refine Sub.pv ?_ rfl | refine Sub.var ?_ rfl rfl)); exact Sub.nil _ _ _ (StSub.refl _) rfl)
  obtain ⟨y, hy⟩ := y
  dsimp only
  have hcy := hcl (l.by_.take y)
  rw [List.length_take] at hcy
  by_cases hyl : y < l.by_.length
  have hu := cnt_up (d := d) hyl
  by_cases hk : l.by_[y] = d
  rw [if_pos hk] at hu
  rotate_left
  rw [if_neg hk] at hu
  rotate_left
  rw [List.take_of_length_le (by omega)]
  focus ((try (apply wO pk; exact rfl)); (repeat' (first | (show All _; constructor) | (show Imp _ _; constructor) | (show ImpX _ _ _ _; constructor) | (apply wC pk; (iterate 2 exact rfl)) | (apply wE pk; (iterate 2 exact rfl)) | (apply wX pk; exact rfl) | (apply wN pk; exact rfl) | (apply wD pk [] []; kernel_rfl; exact rfl; exact rfl) | (apply pwp_condC; simp only [cond_true, cond_false]) | (refine pwp_cond rfl (fun h => ?_) (fun h => ?_) <;> (try simp at h) <;> try (exfalso; omega)) | (refine pwp_ret ?_; refine ⟨_, _, _, rfl, Wk.refl _, StSub.refl _, ?_, rfl⟩; try rfl) | (apply callS; (iterate 3 exact rfl); (intro _; (first | apply w2 | apply w3 | apply w4) <;> first | assumption | omega); rotate_left; (iterate 2 exact rfl)) | ((apply idxL pk 0; (iterate 5 exact rfl); (focus repeat' constructor); exact rfl; (intro _; rfl); (intro _; omega); exact rfl)) | ((apply idxL pk 1; (iterate 5 exact rfl); (focus repeat' constructor); exact rfl; (intro _; rfl); (intro _; omega); exact rfl)) | (intros; (try simp only [List.length_map]); omega))))
  refine pwp_loop (X := { x : Nat // 1 ≤ x ∧ (x ≤ l.by_.length ∨ x = 1) }) (fun z => (((((((((St.nil 155 st).var 2 37 (l.cells)).var 5 37 (X.cells)).pv 6 ((PV.val (Value.int .i64 (((cntD d X.by_ : Nat) : Int)))))).pv 9 ((PV.val (Value.int .i64 (((cntD d l.by_ : Nat) : Int)))))).var 12 37 (A.cells)).var 13 37 (B.cells)).pv 14 ((PV.val (Value.bool (allR (upR l.by_) z.1))))).pv 15 ((PV.val (Value.int .i64 ((z.1 : Nat))))))) (fun z => l.by_.length - z.1) ⟨1, by omega, by omega⟩ ?_ (fun z => ?_)
  · ((repeat (first | refine Sub.pv ?_ rfl | refine Sub.var ?_ rfl rfl)); exact Sub.nil _ _ _ (StSub.refl _) rfl)
  obtain ⟨z, hz1, hz2⟩ := z
  dsimp only
  by_cases hend3 : l.by_.length ≤ z
  have f1 : ((cntD d X.by_ : Nat) : Int) = max 1 ((cntD d l.by_ : Nat) : Int) := by rw [hXb]; have := c1.1; omega
  have f2 : ((X.by_.length : Nat) : Int) = ((l.by_.length : Nat) : Int) + ((cntD d X.by_ : Nat) : Int) - ((cntD d l.by_ : Nat) : Int) := by rw [hXb]; have := c1.2; omega
  have f3 : (!allR (upR l.by_) z || decide (A = B)) = true := by
    cases q : allR (upR l.by_) z with
    | false => rfl
    | true => rw [decide_eq_true (hcom fun k hk => allR_iff.1 q k (by omega))]; rfl
  have hcX := hcl X.by_
  have hcl2 := hcl l.by_
  rotate_left
  obtain ⟨k, rfl⟩ : ∃ k, z = k + 1 := ⟨z - 1, by omega⟩
  have hkl : k + 1 < l.by_.length := by omega
  have hup : allR (upR l.by_) (k + 1 + 1) = (allR (upR l.by_) (k + 1) && (decide (l.by_[k].dev < l.by_[k + 1].dev) || (decide (l.by_[k].dev = l.by_[k + 1].dev) && decide (l.by_[k].seq < l.by_[k + 1].seq)))) := by
    rw [allR_succ]
    congr 1
    unfold upR aboveB
    rw [getElem!_pos l.by_ (k + 1) hkl, show k + 1 - 1 = k from rfl, getElem!_pos l.by_ k (by omega)]
    simp [eq_comm]
  rotate_left
  all_goals ((try (apply wO pk; exact rfl)); (repeat' (first | (show All _; constructor) | (show Imp _ _; constructor) | (show ImpX _ _ _ _; constructor) | (apply wC pk; (iterate 2 exact rfl)) | (apply wE pk; (iterate 2 exact rfl)) | (apply wX pk; exact rfl) | (apply wN pk; exact rfl) | (apply wD pk [] []; kernel_rfl; exact rfl; exact rfl) | (apply pwp_condC; simp only [cond_true, cond_false]) | (refine pwp_cond rfl (fun h => ?_) (fun h => ?_) <;> (try simp at h) <;> try (exfalso; omega)) | (refine pwp_ret ?_; refine ⟨_, _, _, rfl, Wk.refl _, StSub.refl _, ?_, rfl⟩; try first | rfl | ((rw [List.length_map, List.length_map, decide_eq_true f1, decide_eq_true f2, decide_eq_true hXk, f3]; rfl); done)) | (apply callS; (iterate 3 exact rfl); (intro _; (first | apply hA | apply w5) <;> first | assumption | omega); rotate_left; (iterate 2 exact rfl)) | (apply idxS pk; (iterate 6 exact rfl); rotate_left; exact rfl; (first | ((intro hw; exact rfl); (intro hw; apply get_map <;> omega); (intro _; exact rfl)) | ((intro hw; exact (show ((((k + 1 : Nat) : Int)) - 1 = ((k : Nat) : Int)) from by omega)); (intro hw; apply get_map <;> omega); (intro _; exact rfl))); exact rfl) | ((apply idxL pk 0; (iterate 5 exact rfl); (focus repeat' constructor); exact rfl; (intro _; rfl); (intro _; omega); exact rfl)) | ((first | refine ⟨⟨i + 1, by omega⟩, ?_, by simp only; omega⟩ | refine ⟨⟨y + 1, by omega⟩, ?_, by simp only; omega⟩); ((dsimp only)); ((repeat (first | refine Sub.pv ?_ rfl | refine Sub.var ?_ rfl rfl | refine Sub.pv' ?_ rfl (by (congr 2; omega)) | refine Sub.var' ?_ rfl rfl (by (congr 2; omega)))); exact Sub.nil _ _ _ (StSub.refl _) rfl)) | (refine ⟨⟨k + 2, by omega, by omega⟩, ?_, by simp only; omega⟩; ((dsimp only)); ((repeat (first | refine Sub.pv ?_ rfl | refine Sub.var ?_ rfl rfl | refine Sub.pv' ?_ rfl (by (rw [hup])) | refine Sub.var' ?_ rfl rfl (by (rw [hup])))); exact Sub.nil _ _ _ (StSub.refl _) rfl)) | (intros; (try simp only [List.length_map]); omega) | (exfalso; grind [Dt.ext_iff]))))
end Go.Proofs.YtkaliolnijkadaaGreatDoor
