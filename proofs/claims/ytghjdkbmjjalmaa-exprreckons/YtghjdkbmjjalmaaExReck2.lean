import Derived.Test.YtghjdkbmjjalmaaExReck
namespace Go.Proofs.Ytghjdkbmjjalmaa
open Go Go.Abs
attribute [local irreducible] Ev PWp
set_option maxRecDepth 10000
set_option maxHeartbeats 4000000
def greatV (x y : Int) : Bool := (!decide (x = 0) && !decide (y = 0)) && decide (max x (0 - x) > IntKind.wrap .i64 (Int.tdiv 1099511627776 (max y (0 - y))))
def wI (i : Nat) (x y : Int) : Int := IntKind.wrap .i64 (opI i x y)
theorem fits_eq {i : Nat} (hi : i < 3) (x y : Int) : ((decide (wI i x y ≤ 1099511627776) && decide (wI i x y ≥ -1099511627776)) && (decide ((i : Int) < 2) || !greatV x y)) = !reckR (opI i) x y := by
  have hx : (decide (max x (0 - x) > 0)) = !decide (x = 0) := by
    by_cases h : x = 0
    · subst h; rfl
    · simp [h]; omega
  have hy : (decide (max y (0 - y) > 0)) = !decide (y = 0) := by
    by_cases h : y = 0
    · subst h; rfl
    · simp [h]; omega
  unfold reckR bigR
  rw [hx, hy]
  have e : ∀ w : Int, (!(decide (w > 1099511627776))) = decide (w ≤ 1099511627776) ∧ (!(decide (w < -1099511627776))) = decide (w ≥ -1099511627776) := fun w => by
    constructor <;> (rw [← decide_not]; congr 1; simp)
  match i, hi with
  | 0, _ =>
    have h1 : decide (IntKind.wrap .i64 (opI 0 1 1) = 1) = false := by decide
    rw [h1]
    simp only [Bool.and_false, Bool.false_and, Bool.false_or, Bool.not_or, (e _).1, (e _).2]
    simp [wI]
    rfl
  | 1, _ =>
    have h1 : decide (IntKind.wrap .i64 (opI 1 1 1) = 1) = false := by decide
    rw [h1]
    simp only [Bool.and_false, Bool.false_and, Bool.false_or, Bool.not_or, (e _).1, (e _).2]
    simp [wI]
    rfl
  | 2, _ =>
    have h1 : decide (IntKind.wrap .i64 (opI 2 1 1) = 1) = true := by decide
    rw [h1]
    simp only [Bool.and_true, Bool.not_or, (e _).1, (e _).2, greatV, wI]
    simp only [show decide (((2 : Nat) : Int) < 2) = false from by decide, Bool.false_or]
    generalize (!(!decide (x = 0) && !decide (y = 0) && decide (max x (0 - x) > IntKind.wrap .i64 (Int.tdiv 1099511627776 (max y (0 - y)))))) = g
    cases g
    · simp
    · simp; rfl
theorem EvalN_spec {k x y : Int} (hx : inM x) (hy : inM y) (h1 : 2 ≤ k) (h2 : k ≤ 8) : PF Try.prog 10 [.agg (xOf k (xNum x) (xNum y)).cells, .seq []] (resPV (saysK k (numV x) (numV y))) := by
  have := Eval_spec (ok_xof (k := k) (ok_xnum x) (ok_xnum y)) row_nil
  rw [eval_bin hx hy h1 h2] at this
  exact this
theorem EvalN0_spec {k x : Int} (hx : inM x) (h1 : 2 ≤ k) (h2 : k ≤ 8) : PF Try.prog 10 [.agg (xOf k (xNum x) xNil).cells, .seq []] (resPV (saysK k (numV x) v0)) := by
  have := Eval_spec (ok_xof (k := k) (ok_xnum x) ok_xnil) row_nil
  rw [eval_binN hx h1 h2] at this
  exact this
theorem less_empty : lessB e0 e0 = false := by
  unfold lessB
  rw [ByteArray.toList_eq]
  rfl
theorem HoldsN_spec {x y : Int} (hx : inM x) (hy : inM y) : PF Try.prog 13 [.agg (xOf 6 (xNum x) (xNum y)).cells, .seq []] (.tup [(PV.val (Value.bool (decide (x < y)))), (PV.val (Value.int .i64 (0)))]) := by
  have := Holds_spec (ok_xof (k := 6) (ok_xnum x) (ok_xnum y)) row_nil
  have e : HoldsR (xOf 6 (xNum x) (xNum y)) [] = (decide (x < y), 0) := by
    unfold HoldsR
    rw [eval_bin hx hy (by omega) (by omega)]
    by_cases h : x < y <;> simp [saysK, knownV, numV, truthV, vN, lessV, less_empty, oneV, h]
  rw [e] at this
  exact this
theorem HoldsE_spec {x y : Int} (hx : inM x) (hy : inM y) : PF Try.prog 13 [.agg (xOf 5 (xNum x) (xNum y)).cells, .seq []] (.tup [(PV.val (Value.bool (decide (x = y)))), (PV.val (Value.int .i64 (0)))]) := by
  have := Holds_spec (ok_xof (k := 5) (ok_xnum x) (ok_xnum y)) row_nil
  have e : HoldsR (xOf 5 (xNum x) (xNum y)) [] = (decide (x = y), 0) := by
    unfold HoldsR
    rw [eval_bin hx hy (by omega) (by omega)]
    by_cases h : x = y <;> simp [saysK, knownV, numV, truthV, vN, eqV, oneV, h]
  rw [e] at this
  exact this
theorem reckons_spec {a b t : Int} (ha : -2147483648 ≤ a ∧ a ≤ 2147483647) (hb : -2147483648 ≤ b ∧ b ≤ 2147483647) (ht : 0 ≤ t ∧ t ≤ 255) : PF Try.prog 4 [.val (.int .i32 a), .val (.int .i32 b), .val (.int .u8 t)] (PV.val (Value.bool (true))) := by
  refine pf_of tt_ok Try.func4 (by kernel_rfl) rfl rfl rfl rfl (fun st => ?_)
  (try ((first | apply goE pk | apply go pk | apply goX pk | apply goN pk | apply go0 pk); exact rfl; (focus repeat' constructor); (focus repeat' (first | exact All.nil | refine All.cons ?_ ?_ | (intros; omega))))); (repeat (first | (apply goD pk; kernel_rfl; exact rfl; (focus repeat' constructor); (focus repeat' (first | exact All.nil | refine All.cons ?_ ?_ | (intros; omega)))) | (apply goX pk; exact rfl; (focus repeat' constructor); (focus repeat' (first | exact All.nil | refine All.cons ?_ ?_ | (intros; omega)))) | (apply callS; exact rfl; exact rfl; exact rfl; (intro _; first | (apply awake_spec <;> first | assumption | omega)); (focus repeat' constructor); exact rfl; ((first | apply goE pk | apply go pk | apply goX pk | apply goN pk | apply go0 pk); exact rfl; (focus repeat' constructor); (focus repeat' (first | exact All.nil | refine All.cons ?_ ?_ | (intros; omega)))))))
  (apply ev_conv tt_ok; exact rfl; exact rfl; exact rfl; exact wrap64 (by omega) (by omega); exact rfl; exact rfl)
  (try ((first | apply goE pk | apply go pk | apply goX pk | apply goN pk | apply go0 pk); exact rfl; (focus repeat' constructor); (focus repeat' (first | exact All.nil | refine All.cons ?_ ?_ | (intros; omega))))); (repeat (first | (apply goD pk; kernel_rfl; exact rfl; (focus repeat' constructor); (focus repeat' (first | exact All.nil | refine All.cons ?_ ?_ | (intros; omega)))) | (apply goX pk; exact rfl; (focus repeat' constructor); (focus repeat' (first | exact All.nil | refine All.cons ?_ ?_ | (intros; omega))))))
  refine pwp_loop (X := { i : Nat // (i : Int) ≤ t.tmod 9 }) (fun i => ((((((St.nil 218 st).pv 1 (.val (.int .i32 b))).pv 2 (.val (.int .u8 t))).pv 7 ((PV.val (Value.bool (true))))).pv 8 ((PV.val (Value.int .i64 (a * 2 ^ i.1))))).pv 9 ((PV.val (Value.int .i64 ((i.1 : Nat))))))) (fun i => (t.tmod 9).toNat - i.1) ⟨0, by have := Int.tmod_nonneg 9 ht.1; omega⟩ ?_ (fun i => ?_)
  · refine Sub.pv ?_ rfl
    refine Sub.pv' ?_ rfl (by simp)
    (first | exact Sub.nil _ _ _ (StSub.refl _) rfl | ((repeat (first | refine Sub.pv ?_ rfl | refine Sub.var ?_ rfl rfl)); exact Sub.nil _ _ _ (StSub.refl _) rfl))
  have htm : t.tmod 9 < 9 := Int.tmod_lt_of_pos t (by omega)
  have htn : 0 ≤ t.tmod 9 := Int.tmod_nonneg 9 ht.1
  obtain ⟨i, hi⟩ := i
  dsimp only
  (try ((first | apply goE pk | apply go pk | apply goX pk | apply goN pk | apply go0 pk); exact rfl; (focus repeat' constructor); (focus repeat' (first | exact All.nil | refine All.cons ?_ ?_ | (intros; omega))))); (repeat (first | (apply goD pk; kernel_rfl; exact rfl; (focus repeat' constructor); (focus repeat' (first | exact All.nil | refine All.cons ?_ ?_ | (intros; omega)))) | (apply goX pk; exact rfl; (focus repeat' constructor); (focus repeat' (first | exact All.nil | refine All.cons ?_ ?_ | (intros; omega))))))
  (apply ev_rem; exact rfl; exact rfl; omega; exact rfl; exact rfl; exact rfl)
  (try ((first | apply goE pk | apply go pk | apply goX pk | apply goN pk | apply go0 pk); exact rfl; (focus repeat' constructor); (focus repeat' (first | exact All.nil | refine All.cons ?_ ?_ | (intros; omega))))); (repeat (first | (apply goD pk; kernel_rfl; exact rfl; (focus repeat' constructor); (focus repeat' (first | exact All.nil | refine All.cons ?_ ?_ | (intros; omega)))) | (apply goX pk; exact rfl; (focus repeat' constructor); (focus repeat' (first | exact All.nil | refine All.cons ?_ ?_ | (intros; omega))))))
  (apply ev_conv tt_ok; exact rfl; exact rfl; exact rfl; exact wrap64 (by omega) (by omega); exact rfl; exact rfl)
  (try ((first | apply goE pk | apply go pk | apply goX pk | apply goN pk | apply go0 pk); exact rfl; (focus repeat' constructor); (focus repeat' (first | exact All.nil | refine All.cons ?_ ?_ | (intros; omega))))); (repeat (first | (apply goD pk; kernel_rfl; exact rfl; (focus repeat' constructor); (focus repeat' (first | exact All.nil | refine All.cons ?_ ?_ | (intros; omega)))) | (apply goX pk; exact rfl; (focus repeat' constructor); (focus repeat' (first | exact All.nil | refine All.cons ?_ ?_ | (intros; omega))))))
  have hx : inM (a * 2 ^ i) := by
    have : i = 0 ∨ i = 1 ∨ i = 2 ∨ i = 3 ∨ i = 4 ∨ i = 5 ∨ i = 6 ∨ i = 7 ∨ i = 8 := by omega
    rcases this with rfl | rfl | rfl | rfl | rfl | rfl | rfl | rfl | rfl <;> (simp only [inM, Int.reducePow]; omega)
  refine pwp_cond rfl (fun h => ?_) (fun h => ?_)
  · (try ((first | apply goE pk | apply go pk | apply goX pk | apply goN pk | apply go0 pk); exact rfl; (focus repeat' constructor); (focus repeat' (first | exact All.nil | refine All.cons ?_ ?_ | (intros; omega))))); (repeat (first | (apply goD pk; kernel_rfl; exact rfl; (focus repeat' constructor); (focus repeat' (first | exact All.nil | refine All.cons ?_ ?_ | (intros; omega)))) | (apply goX pk; exact rfl; (focus repeat' constructor); (focus repeat' (first | exact All.nil | refine All.cons ?_ ?_ | (intros; omega))))))
    have hx2 : -9223372036854775808 ≤ a * 2 ^ i * 2 ∧ a * 2 ^ i * 2 ≤ 9223372036854775807 := by have := hx.1; have := hx.2; omega
    (apply ev_mul (a * 2 ^ i * 2); exact rfl; exact rfl; exact rfl; exact rfl; exact rfl; exact hx2.1; exact hx2.2)
    (try ((first | apply goE pk | apply go pk | apply goX pk | apply goN pk | apply go0 pk); exact rfl; (focus repeat' constructor); (focus repeat' (first | exact All.nil | refine All.cons ?_ ?_ | (intros; omega))))); (repeat (first | (apply goD pk; kernel_rfl; exact rfl; (focus repeat' constructor); (focus repeat' (first | exact All.nil | refine All.cons ?_ ?_ | (intros; omega)))) | (apply goX pk; exact rfl; (focus repeat' constructor); (focus repeat' (first | exact All.nil | refine All.cons ?_ ?_ | (intros; omega))))))
    simp at h
    refine ⟨⟨i + 1, by omega⟩, ?_, by simp only; omega⟩
    refine Sub.pv ?_ rfl
    refine Sub.pv' ?_ rfl (by simp only [Int.pow_succ, Int.mul_assoc])
    (first | exact Sub.nil _ _ _ (StSub.refl _) rfl | ((repeat (first | refine Sub.pv ?_ rfl | refine Sub.var ?_ rfl rfl)); exact Sub.nil _ _ _ (StSub.refl _) rfl))
  · (try ((first | apply goE pk | apply go pk | apply goX pk | apply goN pk | apply go0 pk); exact rfl; (focus repeat' constructor); (focus repeat' (first | exact All.nil | refine All.cons ?_ ?_ | (intros; omega))))); (repeat (first | (apply goD pk; kernel_rfl; exact rfl; (focus repeat' constructor); (focus repeat' (first | exact All.nil | refine All.cons ?_ ?_ | (intros; omega)))) | (apply goX pk; exact rfl; (focus repeat' constructor); (focus repeat' (first | exact All.nil | refine All.cons ?_ ?_ | (intros; omega))))))
    generalize a * 2 ^ i = x at *
    clear h
    (apply ev_conv tt_ok; exact rfl; exact rfl; exact rfl; exact wrap64 (by omega) (by omega); exact rfl; exact rfl)
    have hy : inM b := ⟨by omega, by omega⟩
    obtain ⟨hx1, hx2⟩ := hx
    have hx : inM x := ⟨hx1, hx2⟩
    (try ((first | apply goE pk | apply go pk | apply goX pk | apply goN pk | apply go0 pk); exact rfl; (focus repeat' constructor); (focus repeat' (first | exact All.nil | refine All.cons ?_ ?_ | (intros; omega))))); (repeat (first | (apply goD pk; kernel_rfl; exact rfl; (focus repeat' constructor); (focus repeat' (first | exact All.nil | refine All.cons ?_ ?_ | (intros; omega)))) | (apply goX pk; exact rfl; (focus repeat' constructor); (focus repeat' (first | exact All.nil | refine All.cons ?_ ?_ | (intros; omega))))))
    (apply ev_mulw; exact rfl; exact rfl; exact rfl; exact rfl)
    (try ((first | apply goE pk | apply go pk | apply goX pk | apply goN pk | apply go0 pk); exact rfl; (focus repeat' constructor); (focus repeat' (first | exact All.nil | refine All.cons ?_ ?_ | (intros; omega))))); (repeat (first | (apply goD pk; kernel_rfl; exact rfl; (focus repeat' constructor); (focus repeat' (first | exact All.nil | refine All.cons ?_ ?_ | (intros; omega)))) | (apply goX pk; exact rfl; (focus repeat' constructor); (focus repeat' (first | exact All.nil | refine All.cons ?_ ?_ | (intros; omega))))))
    refine pwp_cond rfl (fun h => ?_) (fun h => ?_)
    · (try ((first | apply goE pk | apply go pk | apply goX pk | apply goN pk | apply go0 pk); exact rfl; (focus repeat' constructor); (focus repeat' (first | exact All.nil | refine All.cons ?_ ?_ | (intros; omega))))); (repeat (first | (apply goD pk; kernel_rfl; exact rfl; (focus repeat' constructor); (focus repeat' (first | exact All.nil | refine All.cons ?_ ?_ | (intros; omega)))) | (apply goX pk; exact rfl; (focus repeat' constructor); (focus repeat' (first | exact All.nil | refine All.cons ?_ ?_ | (intros; omega))))))
      (refine pwp_ret ?_; exact ⟨_, _, _, rfl, Wk.refl _, StSub.refl _, rfl, rfl⟩)
    (try ((first | apply goE pk | apply go pk | apply goX pk | apply goN pk | apply go0 pk); exact rfl; (focus repeat' constructor); (focus repeat' (first | exact All.nil | refine All.cons ?_ ?_ | (intros; omega))))); (repeat (first | (apply goD pk; kernel_rfl; exact rfl; (focus repeat' constructor); (focus repeat' (first | exact All.nil | refine All.cons ?_ ?_ | (intros; omega)))) | (apply goX pk; exact rfl; (focus repeat' constructor); (focus repeat' (first | exact All.nil | refine All.cons ?_ ?_ | (intros; omega))))))
    refine pwp_join (((((((St.nil 218 st).pv 7 ((PV.val (Value.bool (true))))).pv 8 ((PV.val (Value.int .i64 (x))))).pv 10 ((PV.val (Value.int .i64 (b))))).pv 11 (.seq (irows [2, 3, 4]))).pv 12 (.seq (irows [x + b, x - b, IntKind.wrap .i64 (x * b)]))).pv 13 ((PV.val (Value.bool (greatV x b))))) ?_ ?_
    · refine pwp_cond rfl (fun h => ?_) (fun h => ?_)
      · (try ((first | apply goE pk | apply go pk | apply goX pk | apply goN pk | apply go0 pk); exact rfl; (focus repeat' constructor); (focus repeat' (first | exact All.nil | refine All.cons ?_ ?_ | (intros; omega))))); (repeat (first | (apply goD pk; kernel_rfl; exact rfl; (focus repeat' constructor); (focus repeat' (first | exact All.nil | refine All.cons ?_ ?_ | (intros; omega)))) | (apply goX pk; exact rfl; (focus repeat' constructor); (focus repeat' (first | exact All.nil | refine All.cons ?_ ?_ | (intros; omega))))))
        have hb0 : max b (0 - b) ≠ 0 := by simp at h; omega
        (apply ev_quo; exact rfl; exact rfl; exact hb0; exact rfl; exact rfl; exact rfl)
        (try ((first | apply goE pk | apply go pk | apply goX pk | apply goN pk | apply go0 pk); exact rfl; (focus repeat' constructor); (focus repeat' (first | exact All.nil | refine All.cons ?_ ?_ | (intros; omega))))); (repeat (first | (apply goD pk; kernel_rfl; exact rfl; (focus repeat' constructor); (focus repeat' (first | exact All.nil | refine All.cons ?_ ?_ | (intros; omega)))) | (apply goX pk; exact rfl; (focus repeat' constructor); (focus repeat' (first | exact All.nil | refine All.cons ?_ ?_ | (intros; omega))))))
        refine Sub.pv' ?_ rfl (by simp only [greatV, h, Bool.true_and])
        (first | exact Sub.nil _ _ _ (StSub.refl _) rfl | ((repeat (first | refine Sub.pv ?_ rfl | refine Sub.var ?_ rfl rfl)); exact Sub.nil _ _ _ (StSub.refl _) rfl))
      · (try ((first | apply goE pk | apply go pk | apply goX pk | apply goN pk | apply go0 pk); exact rfl; (focus repeat' constructor); (focus repeat' (first | exact All.nil | refine All.cons ?_ ?_ | (intros; omega))))); (repeat (first | (apply goD pk; kernel_rfl; exact rfl; (focus repeat' constructor); (focus repeat' (first | exact All.nil | refine All.cons ?_ ?_ | (intros; omega)))) | (apply goX pk; exact rfl; (focus repeat' constructor); (focus repeat' (first | exact All.nil | refine All.cons ?_ ?_ | (intros; omega))))))
        refine Sub.pv' ?_ rfl (by simp only [greatV, h, Bool.false_and])
        (first | exact Sub.nil _ _ _ (StSub.refl _) rfl | ((repeat (first | refine Sub.pv ?_ rfl | refine Sub.var ?_ rfl rfl)); exact Sub.nil _ _ _ (StSub.refl _) rfl))
    · (try ((first | apply goE pk | apply go pk | apply goX pk | apply goN pk | apply go0 pk); exact rfl; (focus repeat' constructor); (focus repeat' (first | exact All.nil | refine All.cons ?_ ?_ | (intros; omega))))); (repeat (first | (apply goD pk; kernel_rfl; exact rfl; (focus repeat' constructor); (focus repeat' (first | exact All.nil | refine All.cons ?_ ?_ | (intros; omega)))) | (apply goX pk; exact rfl; (focus repeat' constructor); (focus repeat' (first | exact All.nil | refine All.cons ?_ ?_ | (intros; omega))))))
      have hw : ∀ i : Nat, i < 3 → ([x + b, x - b, IntKind.wrap .i64 (x * b)] : List Int)[i]? = some (wI i x b) := fun i hi => by
        match i, hi with
        | 0, _ => show _ = some (IntKind.wrap .i64 (x + b)); rw [show IntKind.wrap .i64 (x + b) = x + b from wrap64 (by omega) (by omega)]; rfl
        | 1, _ => show _ = some (IntKind.wrap .i64 (x - b)); rw [show IntKind.wrap .i64 (x - b) = x - b from wrap64 (by omega) (by omega)]; rfl
        | 2, _ => rfl
      have hk : ∀ i : Nat, i < 3 → ([2, 3, 4] : List Int)[i]? = some (2 + (i : Int)) := fun i hi => by
        match i, hi with
        | 0, _ => rfl
        | 1, _ => rfl
        | 2, _ => rfl
      refine pwp_loop (X := { i : Nat // i ≤ 3 }) (fun i => ((((((((St.nil 218 st).pv 7 ((PV.val (Value.bool (true))))).pv 8 ((PV.val (Value.int .i64 (x))))).pv 10 ((PV.val (Value.int .i64 (b))))).pv 11 (.seq (irows [2, 3, 4]))).pv 12 (.seq (irows [x + b, x - b, IntKind.wrap .i64 (x * b)]))).pv 13 ((PV.val (Value.bool (greatV x b))))).pv 14 ((PV.val (Value.int .i64 ((i.1 : Nat))))))) (fun i => 3 - i.1) ⟨0, by omega⟩ ?_ (fun i => ?_)
      · (first | exact Sub.nil _ _ _ (StSub.refl _) rfl | ((repeat (first | refine Sub.pv ?_ rfl | refine Sub.var ?_ rfl rfl)); exact Sub.nil _ _ _ (StSub.refl _) rfl))
      obtain ⟨i, hi⟩ := i
      dsimp only
      (try ((first | apply goE pk | apply go pk | apply goX pk | apply goN pk | apply go0 pk); exact rfl; (focus repeat' constructor); (focus repeat' (first | exact All.nil | refine All.cons ?_ ?_ | (intros; omega))))); (repeat (first | (apply goD pk; kernel_rfl; exact rfl; (focus repeat' constructor); (focus repeat' (first | exact All.nil | refine All.cons ?_ ?_ | (intros; omega)))) | (apply goX pk; exact rfl; (focus repeat' constructor); (focus repeat' (first | exact All.nil | refine All.cons ?_ ?_ | (intros; omega))))))
      refine pwp_cond rfl (fun h => ?_) (fun h => ?_) <;> simp at h
      · have hi3 : i < 3 := by omega
        have s1 := EvalN_spec (k := 2 + i) hx hy (by omega) (by omega)
        have s2 := EvalN0_spec (k := 2 + i) hx (by omega) (by omega)
        rw [says_op hi3] at s1
        rw [says_opN hi3] at s2
        have hfits := fits_eq hi3 x b
        generalize reckR (opI i) x b = bad at *
        have hwi := hw i hi3
        have hwe : wI i x b = IntKind.wrap .i64 (opI i x b) := rfl
        rw [← hwe] at s1
        generalize wI i x b = W at *
        (try ((first | apply goE pk | apply go pk | apply goX pk | apply goN pk | apply go0 pk); exact rfl; (focus repeat' constructor); (focus repeat' (first | exact All.nil | refine All.cons ?_ ?_ | (intros; omega))))); (repeat (first | (apply goD pk; kernel_rfl; exact rfl; (focus repeat' constructor); (focus repeat' (first | exact All.nil | refine All.cons ?_ ?_ | (intros; omega)))) | (apply goX pk; exact rfl; (focus repeat' constructor); (focus repeat' (first | exact All.nil | refine All.cons ?_ ?_ | (intros; omega))))))
        (apply idxS pk; exact rfl; exact rfl; exact rfl; exact rfl; exact rfl; exact rfl; (focus repeat' constructor); exact rfl; (intro _; exact rfl); (intro _; exact (irows_get (hk i hi3))); (intro _; exact (rfl)))
        (try ((first | apply goE pk | apply go pk | apply goX pk | apply goN pk | apply go0 pk); exact rfl; (focus repeat' constructor); (focus repeat' (first | exact All.nil | refine All.cons ?_ ?_ | (intros; omega))))); (repeat (first | (apply goD pk; kernel_rfl; exact rfl; (focus repeat' constructor); (focus repeat' (first | exact All.nil | refine All.cons ?_ ?_ | (intros; omega)))) | (apply goX pk; exact rfl; (focus repeat' constructor); (focus repeat' (first | exact All.nil | refine All.cons ?_ ?_ | (intros; omega)))) | (apply callS; exact rfl; exact rfl; exact rfl; (intro _; first | (apply num_spec <;> first | assumption | omega) | (apply of_spec <;> first | assumption | omega)); (focus repeat' constructor); exact rfl; ((first | apply goE pk | apply go pk | apply goX pk | apply goN pk | apply go0 pk); exact rfl; (focus repeat' constructor); (focus repeat' (first | exact All.nil | refine All.cons ?_ ?_ | (intros; omega)))))))
        (apply callW [.agg (xOf (2 + i) (xNum x) (xNum b)).cells, .seq []]; exact rfl; exact rfl; exact rfl; exact .cons (Wk.refl _) (.cons Wk.nil .nil); (intro _; exact s1); (focus repeat' constructor); exact rfl)
        (try ((first | apply goE pk | apply go pk | apply goX pk | apply goN pk | apply go0 pk); exact rfl; (focus repeat' constructor); (focus repeat' (first | exact All.nil | refine All.cons ?_ ?_ | (intros; omega))))); (repeat (first | (apply goD pk; kernel_rfl; exact rfl; (focus repeat' constructor); (focus repeat' (first | exact All.nil | refine All.cons ?_ ?_ | (intros; omega)))) | (apply goX pk; exact rfl; (focus repeat' constructor); (focus repeat' (first | exact All.nil | refine All.cons ?_ ?_ | (intros; omega))))))
        (apply idxS pk; exact rfl; exact rfl; exact rfl; exact rfl; exact rfl; exact rfl; (focus repeat' constructor); exact rfl; (intro _; exact rfl); (intro _; exact (irows_get (hk i hi3))); (intro _; exact (rfl)))
        (try ((first | apply goE pk | apply go pk | apply goX pk | apply goN pk | apply go0 pk); exact rfl; (focus repeat' constructor); (focus repeat' (first | exact All.nil | refine All.cons ?_ ?_ | (intros; omega))))); (repeat (first | (apply goD pk; kernel_rfl; exact rfl; (focus repeat' constructor); (focus repeat' (first | exact All.nil | refine All.cons ?_ ?_ | (intros; omega)))) | (apply goX pk; exact rfl; (focus repeat' constructor); (focus repeat' (first | exact All.nil | refine All.cons ?_ ?_ | (intros; omega)))) | (apply callS; exact rfl; exact rfl; exact rfl; (intro _; first | (apply num_spec <;> first | assumption | omega)); (focus repeat' constructor); exact rfl; ((first | apply goE pk | apply go pk | apply goX pk | apply goN pk | apply go0 pk); exact rfl; (focus repeat' constructor); (focus repeat' (first | exact All.nil | refine All.cons ?_ ?_ | (intros; omega)))))))
        (apply callW [(PV.val (Value.int .i64 (2 + i))), .agg (xNum x).cells, .agg xNil.cells]; exact rfl; exact rfl; exact rfl; exact .cons (Wk.refl _) (.cons (Wk.refl _) (.cons wk_nil .nil)); (intro _; exact of_spec); (focus repeat' constructor); exact rfl)
        (try ((first | apply goE pk | apply go pk | apply goX pk | apply goN pk | apply go0 pk); exact rfl; (focus repeat' constructor); (focus repeat' (first | exact All.nil | refine All.cons ?_ ?_ | (intros; omega))))); (repeat (first | (apply goD pk; kernel_rfl; exact rfl; (focus repeat' constructor); (focus repeat' (first | exact All.nil | refine All.cons ?_ ?_ | (intros; omega)))) | (apply goX pk; exact rfl; (focus repeat' constructor); (focus repeat' (first | exact All.nil | refine All.cons ?_ ?_ | (intros; omega))))))
        (apply callW [.agg (xOf (2 + i) (xNum x) xNil).cells, .seq []]; exact rfl; exact rfl; exact rfl; exact .cons (Wk.refl _) (.cons Wk.nil .nil); (intro _; exact s2); (focus repeat' constructor); exact rfl)
        (try ((first | apply goE pk | apply go pk | apply goX pk | apply goN pk | apply go0 pk); exact rfl; (focus repeat' constructor); (focus repeat' (first | exact All.nil | refine All.cons ?_ ?_ | (intros; omega))))); (repeat (first | (apply goD pk; kernel_rfl; exact rfl; (focus repeat' constructor); (focus repeat' (first | exact All.nil | refine All.cons ?_ ?_ | (intros; omega)))) | (apply goX pk; exact rfl; (focus repeat' constructor); (focus repeat' (first | exact All.nil | refine All.cons ?_ ?_ | (intros; omega))))))
        (apply idxS pk; exact rfl; exact rfl; exact rfl; exact rfl; exact rfl; exact rfl; (focus repeat' constructor); exact rfl; (intro _; exact rfl); (intro _; exact (irows_get hwi)); (intro _; exact (rfl)))
        (try ((first | apply goE pk | apply go pk | apply goX pk | apply goN pk | apply go0 pk); exact rfl; (focus repeat' constructor); (focus repeat' (first | exact All.nil | refine All.cons ?_ ?_ | (intros; omega))))); (repeat (first | (apply goD pk; kernel_rfl; exact rfl; (focus repeat' constructor); (focus repeat' (first | exact All.nil | refine All.cons ?_ ?_ | (intros; omega)))) | (apply goX pk; exact rfl; (focus repeat' constructor); (focus repeat' (first | exact All.nil | refine All.cons ?_ ?_ | (intros; omega))))))
        (apply idxS pk; exact rfl; exact rfl; exact rfl; exact rfl; exact rfl; exact rfl; (focus repeat' constructor); exact rfl; (intro _; exact rfl); (intro _; exact (irows_get hwi)); (intro _; exact (rfl)))
        (try ((first | apply goE pk | apply go pk | apply goX pk | apply goN pk | apply go0 pk); exact rfl; (focus repeat' constructor); (focus repeat' (first | exact All.nil | refine All.cons ?_ ?_ | (intros; omega))))); (repeat (first | (apply goD pk; kernel_rfl; exact rfl; (focus repeat' constructor); (focus repeat' (first | exact All.nil | refine All.cons ?_ ?_ | (intros; omega)))) | (apply goX pk; exact rfl; (focus repeat' constructor); (focus repeat' (first | exact All.nil | refine All.cons ?_ ?_ | (intros; omega))))))
        (apply idxS pk; exact rfl; exact rfl; exact rfl; exact rfl; exact rfl; exact rfl; (focus repeat' constructor); exact rfl; (intro _; exact rfl); (intro _; exact (irows_get hwi)); (intro _; exact (rfl)))
        (try ((first | apply goE pk | apply go pk | apply goX pk | apply goN pk | apply go0 pk); exact rfl; (focus repeat' constructor); (focus repeat' (first | exact All.nil | refine All.cons ?_ ?_ | (intros; omega))))); (repeat (first | (apply goD pk; kernel_rfl; exact rfl; (focus repeat' constructor); (focus repeat' (first | exact All.nil | refine All.cons ?_ ?_ | (intros; omega)))) | (apply goX pk; exact rfl; (focus repeat' constructor); (focus repeat' (first | exact All.nil | refine All.cons ?_ ?_ | (intros; omega))))))
        refine pwp_cond rfl (fun h2 => ?_) (fun h2 => ?_)
        · exfalso
          rw [hfits] at h2
          cases bad <;> simp [numV, v0] at h2
        · (try ((first | apply goE pk | apply go pk | apply goX pk | apply goN pk | apply go0 pk); exact rfl; (focus repeat' constructor); (focus repeat' (first | exact All.nil | refine All.cons ?_ ?_ | (intros; omega))))); (repeat (first | (apply goD pk; kernel_rfl; exact rfl; (focus repeat' constructor); (focus repeat' (first | exact All.nil | refine All.cons ?_ ?_ | (intros; omega)))) | (apply goX pk; exact rfl; (focus repeat' constructor); (focus repeat' (first | exact All.nil | refine All.cons ?_ ?_ | (intros; omega))))))
          refine ⟨⟨i + 1, by omega⟩, ?_, by simp only; omega⟩
          (first | exact Sub.nil _ _ _ (StSub.refl _) rfl | ((repeat (first | refine Sub.pv ?_ rfl | refine Sub.var ?_ rfl rfl)); exact Sub.nil _ _ _ (StSub.refl _) rfl))
      · have h1 := HoldsN_spec hx hy
        have h2 := HoldsN_spec hy hx
        have h3 := HoldsE_spec hx hy
        (try ((first | apply goE pk | apply go pk | apply goX pk | apply goN pk | apply go0 pk); exact rfl; (focus repeat' constructor); (focus repeat' (first | exact All.nil | refine All.cons ?_ ?_ | (intros; omega))))); (repeat (first | (apply goD pk; kernel_rfl; exact rfl; (focus repeat' constructor); (focus repeat' (first | exact All.nil | refine All.cons ?_ ?_ | (intros; omega)))) | (apply goX pk; exact rfl; (focus repeat' constructor); (focus repeat' (first | exact All.nil | refine All.cons ?_ ?_ | (intros; omega)))) | (apply callS; exact rfl; exact rfl; exact rfl; (intro _; first | (apply num_spec <;> first | assumption | omega) | (apply of_spec <;> first | assumption | omega)); (focus repeat' constructor); exact rfl; ((first | apply goE pk | apply go pk | apply goX pk | apply goN pk | apply go0 pk); exact rfl; (focus repeat' constructor); (focus repeat' (first | exact All.nil | refine All.cons ?_ ?_ | (intros; omega)))))))
        (apply callW [.agg (xOf 6 (xNum x) (xNum b)).cells, .seq []]; exact rfl; exact rfl; exact rfl; exact .cons (Wk.refl _) (.cons Wk.nil .nil); (intro _; exact h1); (focus repeat' constructor); exact rfl)
        (try ((first | apply goE pk | apply go pk | apply goX pk | apply goN pk | apply go0 pk); exact rfl; (focus repeat' constructor); (focus repeat' (first | exact All.nil | refine All.cons ?_ ?_ | (intros; omega))))); (repeat (first | (apply goD pk; kernel_rfl; exact rfl; (focus repeat' constructor); (focus repeat' (first | exact All.nil | refine All.cons ?_ ?_ | (intros; omega)))) | (apply goX pk; exact rfl; (focus repeat' constructor); (focus repeat' (first | exact All.nil | refine All.cons ?_ ?_ | (intros; omega)))) | (apply callS; exact rfl; exact rfl; exact rfl; (intro _; first | (apply num_spec <;> first | assumption | omega) | (apply of_spec <;> first | assumption | omega)); (focus repeat' constructor); exact rfl; ((first | apply goE pk | apply go pk | apply goX pk | apply goN pk | apply go0 pk); exact rfl; (focus repeat' constructor); (focus repeat' (first | exact All.nil | refine All.cons ?_ ?_ | (intros; omega)))))))
        (apply callW [.agg (xOf 6 (xNum b) (xNum x)).cells, .seq []]; exact rfl; exact rfl; exact rfl; exact .cons (Wk.refl _) (.cons Wk.nil .nil); (intro _; exact h2); (focus repeat' constructor); exact rfl)
        (try ((first | apply goE pk | apply go pk | apply goX pk | apply goN pk | apply go0 pk); exact rfl; (focus repeat' constructor); (focus repeat' (first | exact All.nil | refine All.cons ?_ ?_ | (intros; omega))))); (repeat (first | (apply goD pk; kernel_rfl; exact rfl; (focus repeat' constructor); (focus repeat' (first | exact All.nil | refine All.cons ?_ ?_ | (intros; omega)))) | (apply goX pk; exact rfl; (focus repeat' constructor); (focus repeat' (first | exact All.nil | refine All.cons ?_ ?_ | (intros; omega)))) | (apply callS; exact rfl; exact rfl; exact rfl; (intro _; first | (apply num_spec <;> first | assumption | omega) | (apply of_spec <;> first | assumption | omega)); (focus repeat' constructor); exact rfl; ((first | apply goE pk | apply go pk | apply goX pk | apply goN pk | apply go0 pk); exact rfl; (focus repeat' constructor); (focus repeat' (first | exact All.nil | refine All.cons ?_ ?_ | (intros; omega)))))))
        (apply callW [.agg (xOf 5 (xNum x) (xNum b)).cells, .seq []]; exact rfl; exact rfl; exact rfl; exact .cons (Wk.refl _) (.cons Wk.nil .nil); (intro _; exact h3); (focus repeat' constructor); exact rfl)
        (try ((first | apply goE pk | apply go pk | apply goX pk | apply goN pk | apply go0 pk); exact rfl; (focus repeat' constructor); (focus repeat' (first | exact All.nil | refine All.cons ?_ ?_ | (intros; omega))))); (repeat (first | (apply goD pk; kernel_rfl; exact rfl; (focus repeat' constructor); (focus repeat' (first | exact All.nil | refine All.cons ?_ ?_ | (intros; omega)))) | (apply goX pk; exact rfl; (focus repeat' constructor); (focus repeat' (first | exact All.nil | refine All.cons ?_ ?_ | (intros; omega))))))
        (refine pwp_ret ?_; exact ⟨_, _, _, rfl, Wk.refl _, StSub.refl _, by simp, rfl⟩)
end Go.Proofs.Ytghjdkbmjjalmaa
