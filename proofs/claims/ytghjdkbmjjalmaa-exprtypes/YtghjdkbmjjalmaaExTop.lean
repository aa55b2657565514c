import Derived.Test.YtghjdkbmjjalmaaExEv2
namespace Go.Proofs.Ytghjdkbmjjalmaa
open Go Go.Abs
attribute [local irreducible] Ev PWp
set_option maxRecDepth 10000
set_option maxHeartbeats 4000000
def EvalR (e : Ex) (row : List Vl) : Vl × Int := if mayR e ≠ 0 then (v0, mayR e) else evalR row e
theorem Eval_spec {e : Ex} (hok : e.ok) {row : List Vl} (hr : rowOK row) : PF Try.prog 10 [.agg e.cells, .seq (vrows row)] (resPV (EvalR e row)) := by
  have h1 := may_spec hok
  have h3 : mayR e = 0 → _ := fun hm => eval_spec hr e hok (mayR_zero hm).2
  unfold EvalR
  obtain ⟨k, n, v, of⟩ := e
  refine pf_of tt_ok Try.func10 (by kernel_rfl) rfl rfl rfl rfl (fun st => ?_)
  (try ((first | apply goE pk | apply go pk | apply goX pk | apply goN pk | apply go0 pk); exact rfl; (focus repeat' constructor); (focus repeat' (first | exact All.nil | refine All.cons ?_ ?_ | (intros; omega))))); (repeat (first | (apply goD pk; kernel_rfl; exact rfl; (focus repeat' constructor); (focus repeat' (first | exact All.nil | refine All.cons ?_ ?_ | (intros; omega)))) | (apply goX pk; exact rfl; (focus repeat' constructor); (focus repeat' (first | exact All.nil | refine All.cons ?_ ?_ | (intros; omega)))) | (apply callS; exact rfl; exact rfl; exact rfl; (intro _; first | (apply h1 <;> first | assumption | omega)); (focus repeat' constructor); exact rfl; ((first | apply goE pk | apply go pk | apply goX pk | apply goN pk | apply go0 pk); exact rfl; (focus repeat' constructor); (focus repeat' (first | exact All.nil | refine All.cons ?_ ?_ | (intros; omega)))))))
  refine pwp_cond rfl (fun h => ?_) (fun h => ?_)
  · (try ((first | apply goE pk | apply go pk | apply goX pk | apply goN pk | apply go0 pk); exact rfl; (focus repeat' constructor); (focus repeat' (first | exact All.nil | refine All.cons ?_ ?_ | (intros; omega))))); (repeat (first | (apply goD pk; kernel_rfl; exact rfl; (focus repeat' constructor); (focus repeat' (first | exact All.nil | refine All.cons ?_ ?_ | (intros; omega)))) | (apply goX pk; exact rfl; (focus repeat' constructor); (focus repeat' (first | exact All.nil | refine All.cons ?_ ?_ | (intros; omega))))))
    (refine pwp_ret ?_; exact ⟨_, _, _, rfl, Wk.refl _, StSub.refl _, by simp at h; simp [h, resPV, v0], rfl⟩)
  · simp at h
    have h3 := h3 h
    (try ((first | apply goE pk | apply go pk | apply goX pk | apply goN pk | apply go0 pk); exact rfl; (focus repeat' constructor); (focus repeat' (first | exact All.nil | refine All.cons ?_ ?_ | (intros; omega))))); (repeat (first | (apply goD pk; kernel_rfl; exact rfl; (focus repeat' constructor); (focus repeat' (first | exact All.nil | refine All.cons ?_ ?_ | (intros; omega)))) | (apply goX pk; exact rfl; (focus repeat' constructor); (focus repeat' (first | exact All.nil | refine All.cons ?_ ?_ | (intros; omega)))) | (apply callS; exact rfl; exact rfl; exact rfl; (intro _; first | (apply h3 <;> first | assumption | omega)); (focus repeat' constructor); exact rfl; ((first | apply goE pk | apply go pk | apply goX pk | apply goN pk | apply go0 pk); exact rfl; (focus repeat' constructor); (focus repeat' (first | exact All.nil | refine All.cons ?_ ?_ | (intros; omega)))))))
    (refine pwp_ret ?_; exact ⟨_, _, _, rfl, Wk.refl _, StSub.refl _, by simp [h, resPV], rfl⟩)
def HoldsR (e : Ex) (row : List Vl) : Bool × Int :=
  let no := if (EvalR e row).2 = 0 ∧ (EvalR e row).1.k = 2 then 6 else (EvalR e row).2
  (decide (no = 0) && oneV (EvalR e row).1, no)
theorem Holds_spec {e : Ex} (hok : e.ok) {row : List Vl} (hr : rowOK row) : PF Try.prog 13 [.agg e.cells, .seq (vrows row)] (.tup [(PV.val (Value.bool ((HoldsR e row).1))), (PV.val (Value.int .i64 ((HoldsR e row).2)))]) := by
  have h1 := Eval_spec hok hr
  unfold HoldsR
  generalize EvalR e row = r at *
  obtain ⟨⟨rk, rn, rs⟩, re⟩ := r
  obtain ⟨k, n, v, of⟩ := e
  refine pf_of tt_ok Try.func13 (by kernel_rfl) rfl rfl rfl rfl (fun st => ?_)
  (try ((first | apply goE pk | apply go pk | apply goX pk | apply goN pk | apply go0 pk); exact rfl; (focus repeat' constructor); (focus repeat' (first | exact All.nil | refine All.cons ?_ ?_ | (intros; omega))))); (repeat (first | (apply goD pk; kernel_rfl; exact rfl; (focus repeat' constructor); (focus repeat' (first | exact All.nil | refine All.cons ?_ ?_ | (intros; omega)))) | (apply goX pk; exact rfl; (focus repeat' constructor); (focus repeat' (first | exact All.nil | refine All.cons ?_ ?_ | (intros; omega)))) | (apply callS; exact rfl; exact rfl; exact rfl; (intro _; first | (apply h1 <;> first | assumption | omega)); (focus repeat' constructor); exact rfl; ((first | apply goE pk | apply go pk | apply goX pk | apply goN pk | apply go0 pk); exact rfl; (focus repeat' constructor); (focus repeat' (first | exact All.nil | refine All.cons ?_ ?_ | (intros; omega)))))))
  refine pwp_cond rfl (fun h => ?_) (fun h => ?_)
  · (try ((first | apply goE pk | apply go pk | apply goX pk | apply goN pk | apply go0 pk); exact rfl; (focus repeat' constructor); (focus repeat' (first | exact All.nil | refine All.cons ?_ ?_ | (intros; omega))))); (repeat (first | (apply goD pk; kernel_rfl; exact rfl; (focus repeat' constructor); (focus repeat' (first | exact All.nil | refine All.cons ?_ ?_ | (intros; omega)))) | (apply goX pk; exact rfl; (focus repeat' constructor); (focus repeat' (first | exact All.nil | refine All.cons ?_ ?_ | (intros; omega)))) | (apply callS; exact rfl; exact rfl; exact rfl; (intro _; first | (apply one_spec <;> first | assumption | omega)); (focus repeat' constructor); exact rfl; ((first | apply goE pk | apply go pk | apply goX pk | apply goN pk | apply go0 pk); exact rfl; (focus repeat' constructor); (focus repeat' (first | exact All.nil | refine All.cons ?_ ?_ | (intros; omega)))))))
    (refine pwp_ret ?_; exact ⟨_, _, _, rfl, Wk.refl _, StSub.refl _, by simp at h; simp [h], rfl⟩)
  · (try ((first | apply goE pk | apply go pk | apply goX pk | apply goN pk | apply go0 pk); exact rfl; (focus repeat' constructor); (focus repeat' (first | exact All.nil | refine All.cons ?_ ?_ | (intros; omega))))); (repeat (first | (apply goD pk; kernel_rfl; exact rfl; (focus repeat' constructor); (focus repeat' (first | exact All.nil | refine All.cons ?_ ?_ | (intros; omega)))) | (apply goX pk; exact rfl; (focus repeat' constructor); (focus repeat' (first | exact All.nil | refine All.cons ?_ ?_ | (intros; omega)))) | (apply callS; exact rfl; exact rfl; exact rfl; (intro _; first | (apply one_spec <;> first | assumption | omega)); (focus repeat' constructor); exact rfl; ((first | apply goE pk | apply go pk | apply goX pk | apply goN pk | apply go0 pk); exact rfl; (focus repeat' constructor); (focus repeat' (first | exact All.nil | refine All.cons ?_ ?_ | (intros; omega)))))))
    (refine pwp_ret ?_; exact ⟨_, _, _, rfl, Wk.refl _, StSub.refl _, by simp at h; have hn : ¬ (re = 0 ∧ rk = 2) := (fun hh => h hh.1 hh.2); simp only [if_neg hn], rfl⟩)
theorem num_spec {n : Int} : PF Try.prog 12 [(PV.val (Value.int .i64 (n)))] (.agg (Ex.mk 1 0 ⟨1, n, e0⟩ []).cells) := by
  refine pf_of tt_ok Try.func12 (by kernel_rfl) rfl rfl rfl rfl (fun st => ?_)
  (try ((first | apply goE pk | apply go pk | apply goX pk | apply goN pk | apply go0 pk); exact rfl; (focus repeat' constructor); (focus repeat' (first | exact All.nil | refine All.cons ?_ ?_ | (intros; omega))))); (repeat (first | (apply goD pk; kernel_rfl; exact rfl; (focus repeat' constructor); (focus repeat' (first | exact All.nil | refine All.cons ?_ ?_ | (intros; omega)))) | (apply goX pk; exact rfl; (focus repeat' constructor); (focus repeat' (first | exact All.nil | refine All.cons ?_ ?_ | (intros; omega))))))
  refine pwp_ret ?_
  exact ⟨_, _, _, rfl, Wk.agg (.cons (Wk.refl _) (.cons (Wk.refl _) (.cons (Wk.refl _) (.cons (Wk.refl _) (.cons (Wk.refl _) (.cons Wk.nil .nil)))))), StSub.refl _, rfl, rfl⟩
theorem of_spec {k : Int} {a b : Ex} : PF Try.prog 11 [(PV.val (Value.int .i64 (k))), .agg a.cells, .agg b.cells] (.agg (Ex.mk k 0 v0 [a, b]).cells) := by
  obtain ⟨k1, n1, v1, of1⟩ := a
  obtain ⟨k2, n2, v2, of2⟩ := b
  refine pf_of tt_ok Try.func11 (by kernel_rfl) rfl rfl rfl rfl (fun st => ?_)
  (try ((first | apply goE pk | apply go pk | apply goX pk | apply goN pk | apply go0 pk); exact rfl; (focus repeat' constructor); (focus repeat' (first | exact All.nil | refine All.cons ?_ ?_ | (intros; omega))))); (repeat (first | (apply goD pk; kernel_rfl; exact rfl; (focus repeat' constructor); (focus repeat' (first | exact All.nil | refine All.cons ?_ ?_ | (intros; omega)))) | (apply goX pk; exact rfl; (focus repeat' constructor); (focus repeat' (first | exact All.nil | refine All.cons ?_ ?_ | (intros; omega))))))
  (refine pwp_ret ?_; exact ⟨_, _, _, rfl, Wk.refl _, StSub.refl _, rfl, rfl⟩)
def nodesL (f : Ex → Int → Int) (left : Int) : Int → List Ex → Int
  | n, [] => n
  | n, x :: xs => if n ≤ left then nodesL f left (n + f x (left - n)) xs else n
def nodesR : Nat → Ex → Int → Int
  | 0, _, left => left + 1
  | d + 1, e, left => nodesL (nodesR d) left 1 e.of
theorem nodesL_le {f : Ex → Int → Int} {left : Int} (hf : ∀ x l, 0 ≤ l → 1 ≤ f x l ∧ f x l ≤ l + 1) : ∀ (l : List Ex) (n : Int), 1 ≤ n → n ≤ left + 1 → 1 ≤ nodesL f left n l ∧ nodesL f left n l ≤ left + 1
  | [], n, h1, h2 => ⟨h1, h2⟩
  | x :: xs, n, h1, h2 => by
    simp only [nodesL]
    split
    · rename_i h
      have := hf x (left - n) (by omega)
      exact nodesL_le hf xs _ (by omega) (by omega)
    · exact ⟨h1, h2⟩
theorem nodesR_le : ∀ (d : Nat) (e : Ex) (left : Int), 0 ≤ left → 1 ≤ nodesR d e left ∧ nodesR d e left ≤ left + 1
  | 0, _, left, h => by simp only [nodesR]; omega
  | d + 1, e, left, h => by
    simp only [nodesR]
    exact nodesL_le (fun x l hl => nodesR_le d x l hl) _ _ (by omega) (by omega)
theorem Nodes_spec : ∀ (d : Nat) (e : Ex) (left z : Int), z = (d : Nat) → d ≤ 1000 → 0 ≤ left → left ≤ 1000 → e.ok → PF Try.prog 20 [.agg e.cells, (PV.val (Value.int .i64 (left))), (PV.val (Value.int .i64 (z)))] (PV.val (Value.int .i64 (nodesR d e left))) := by
  intro d
  induction d with
  | zero =>
    intro e left z hz _ h1 h2 hok
    subst hz
    obtain ⟨k, n, v, of⟩ := e
    refine pf_of tt_ok Try.func20 (by kernel_rfl) rfl rfl rfl rfl (fun st => ?_)
    (try ((first | apply goE pk | apply go pk | apply goX pk | apply goN pk | apply go0 pk); exact rfl; (focus repeat' constructor); (focus repeat' (first | exact All.nil | refine All.cons ?_ ?_ | (intros; omega))))); (repeat (first | (apply goD pk; kernel_rfl; exact rfl; (focus repeat' constructor); (focus repeat' (first | exact All.nil | refine All.cons ?_ ?_ | (intros; omega)))) | (apply goX pk; exact rfl; (focus repeat' constructor); (focus repeat' (first | exact All.nil | refine All.cons ?_ ?_ | (intros; omega))))))
    refine pwp_cond rfl (fun h => ?_) (fun h => by simp at h)
    (try ((first | apply goE pk | apply go pk | apply goX pk | apply goN pk | apply go0 pk); exact rfl; (focus repeat' constructor); (focus repeat' (first | exact All.nil | refine All.cons ?_ ?_ | (intros; omega))))); (repeat (first | (apply goD pk; kernel_rfl; exact rfl; (focus repeat' constructor); (focus repeat' (first | exact All.nil | refine All.cons ?_ ?_ | (intros; omega)))) | (apply goX pk; exact rfl; (focus repeat' constructor); (focus repeat' (first | exact All.nil | refine All.cons ?_ ?_ | (intros; omega))))))
    (refine pwp_ret ?_; exact ⟨_, _, _, rfl, Wk.refl _, StSub.refl _, rfl, rfl⟩)
  | succ d ih =>
    intro e left z hz hd h1 h2 hok
    subst hz
    obtain ⟨k, n, v, of⟩ := e
    simp only [Ex.ok] at hok
    refine pf_of tt_ok Try.func20 (by kernel_rfl) rfl rfl rfl rfl (fun st => ?_)
    (try ((first | apply goE pk | apply go pk | apply goX pk | apply goN pk | apply go0 pk); exact rfl; (focus repeat' constructor); (focus repeat' (first | exact All.nil | refine All.cons ?_ ?_ | (intros; omega))))); (repeat (first | (apply goD pk; kernel_rfl; exact rfl; (focus repeat' constructor); (focus repeat' (first | exact All.nil | refine All.cons ?_ ?_ | (intros; omega)))) | (apply goX pk; exact rfl; (focus repeat' constructor); (focus repeat' (first | exact All.nil | refine All.cons ?_ ?_ | (intros; omega))))))
    refine pwp_cond rfl (fun h => by simp at h; omega) (fun h => ?_)
    (try ((first | apply goE pk | apply go pk | apply goX pk | apply goN pk | apply go0 pk); exact rfl; (focus repeat' constructor); (focus repeat' (first | exact All.nil | refine All.cons ?_ ?_ | (intros; omega))))); (repeat (first | (apply goD pk; kernel_rfl; exact rfl; (focus repeat' constructor); (focus repeat' (first | exact All.nil | refine All.cons ?_ ?_ | (intros; omega)))) | (apply goX pk; exact rfl; (focus repeat' constructor); (focus repeat' (first | exact All.nil | refine All.cons ?_ ?_ | (intros; omega))))))
    refine pwp_loop (X := { x : Nat × Int // x.1 ≤ of.length ∧ 1 ≤ x.2 ∧ x.2 ≤ left + 1 ∧ nodesL (nodesR d) left 1 of = nodesL (nodesR d) left x.2 (of.drop x.1) }) (fun x => ((((((St.nil 39 st).pv 1 ((PV.val (Value.int .i64 (left))))).pv 2 ((PV.val (Value.int .i64 ((d + 1 : Nat)))))).var 3 26 ((Ex.mk k n v of).cells)).pv 7 ((PV.val (Value.int .i64 (x.1.2))))).pv 8 ((PV.val (Value.int .i64 ((x.1.1 : Nat))))))) (fun x => of.length - x.1.1) ⟨(0, 1), by simp, by simp, by simp; omega, by simp⟩ ?_ (fun x => ?_)
    · (first | exact Sub.nil _ _ _ (StSub.refl _) rfl | ((repeat (first | refine Sub.pv ?_ rfl | refine Sub.var ?_ rfl rfl)); exact Sub.nil _ _ _ (StSub.refl _) rfl))
    obtain ⟨⟨i, m⟩, hi, hm1, hm2, hinv⟩ := x
    simp only at hi hm1 hm2 hinv
    dsimp only
    (try ((first | apply goE pk | apply go pk | apply goX pk | apply goN pk | apply go0 pk); exact rfl; (focus repeat' constructor); (focus repeat' (first | exact All.nil | refine All.cons ?_ ?_ | (intros; omega))))); (repeat (first | (apply goD pk; kernel_rfl; exact rfl; (focus repeat' constructor); (focus repeat' (first | exact All.nil | refine All.cons ?_ ?_ | (intros; omega)))) | (apply goX pk; exact rfl; (focus repeat' constructor); (focus repeat' (first | exact All.nil | refine All.cons ?_ ?_ | (intros; omega))))))
    refine pwp_cond rfl (fun h => ?_) (fun h => ?_) <;> simp [Ex.rows_len] at h
    · obtain ⟨x, hx⟩ := get_of_lt h.1
      (try ((first | apply goE pk | apply go pk | apply goX pk | apply goN pk | apply go0 pk); exact rfl; (focus repeat' constructor); (focus repeat' (first | exact All.nil | refine All.cons ?_ ?_ | (intros; omega))))); (repeat (first | (apply goD pk; kernel_rfl; exact rfl; (focus repeat' constructor); (focus repeat' (first | exact All.nil | refine All.cons ?_ ?_ | (intros; omega)))) | (apply goX pk; exact rfl; (focus repeat' constructor); (focus repeat' (first | exact All.nil | refine All.cons ?_ ?_ | (intros; omega))))))
      (apply idxS pk; exact rfl; exact rfl; exact rfl; exact rfl; exact rfl; exact rfl; (focus repeat' constructor); exact rfl; (intro _; exact rfl); (intro _; exact (Ex.rows_get hx)); (intro _; exact (Ex.cells_len x)))
      have hx2 := nodesR_le d x (left - m) (by omega)
      have ihx := fun z hz => ih x (left - m) z hz (by omega) (by omega) (by omega) (Ex.oks_mem hok.2 (List.mem_of_getElem? hx))
      rw [drop_get hx] at hinv
      simp only [nodesL] at hinv
      rw [if_pos h.2] at hinv
      generalize nodesR d x (left - m) = r at *
      obtain ⟨k', n', v', of'⟩ := x
      (try ((first | apply goE pk | apply go pk | apply goX pk | apply goN pk | apply go0 pk); exact rfl; (focus repeat' constructor); (focus repeat' (first | exact All.nil | refine All.cons ?_ ?_ | (intros; omega))))); (repeat (first | (apply goD pk; kernel_rfl; exact rfl; (focus repeat' constructor); (focus repeat' (first | exact All.nil | refine All.cons ?_ ?_ | (intros; omega)))) | (apply goX pk; exact rfl; (focus repeat' constructor); (focus repeat' (first | exact All.nil | refine All.cons ?_ ?_ | (intros; omega)))) | (apply callS; exact rfl; exact rfl; exact rfl; (intro _; first | (apply ihx <;> first | assumption | omega)); (focus repeat' constructor); exact rfl; ((first | apply goE pk | apply go pk | apply goX pk | apply goN pk | apply go0 pk); exact rfl; (focus repeat' constructor); (focus repeat' (first | exact All.nil | refine All.cons ?_ ?_ | (intros; omega)))))))
      refine ⟨⟨(i + 1, m + r), by simp only; omega, by simp only; omega, by simp only; omega, hinv⟩, ?_, by simp only; omega⟩
      (first | exact Sub.nil _ _ _ (StSub.refl _) rfl | ((repeat (first | refine Sub.pv ?_ rfl | refine Sub.var ?_ rfl rfl)); exact Sub.nil _ _ _ (StSub.refl _) rfl))
    · (try ((first | apply goE pk | apply go pk | apply goX pk | apply goN pk | apply go0 pk); exact rfl; (focus repeat' constructor); (focus repeat' (first | exact All.nil | refine All.cons ?_ ?_ | (intros; omega))))); (repeat (first | (apply goD pk; kernel_rfl; exact rfl; (focus repeat' constructor); (focus repeat' (first | exact All.nil | refine All.cons ?_ ?_ | (intros; omega)))) | (apply goX pk; exact rfl; (focus repeat' constructor); (focus repeat' (first | exact All.nil | refine All.cons ?_ ?_ | (intros; omega))))))
      have hfin : nodesL (nodesR d) left m (of.drop i) = m := by
        by_cases hlt : i < of.length
        · obtain ⟨x, hx⟩ := get_of_lt hlt
          rw [drop_get hx]
          simp only [nodesL]
          rw [if_neg (by have := h hlt; omega)]
        · rw [drop_ge hlt]; rfl
      rw [hfin] at hinv
      (refine pwp_ret ?_; exact ⟨_, _, _, rfl, Wk.refl _, StSub.refl _, by simp only [nodesR, Ex.of]; rw [hinv], rfl⟩)
theorem Few_spec {e : Ex} (hok : e.ok) : PF Try.prog 7 [.agg e.cells] (PV.val (Value.bool (decide (nodesR 25 e 60 ≤ 60)))) := by
  have h := Nodes_spec 25 e 60 25 rfl (by omega) (by omega) (by omega) hok
  obtain ⟨k, n, v, of⟩ := e
  refine pf_of tt_ok Try.func7 (by kernel_rfl) rfl rfl rfl rfl (fun st => ?_)
  (try ((first | apply goE pk | apply go pk | apply goX pk | apply goN pk | apply go0 pk); exact rfl; (focus repeat' constructor); (focus repeat' (first | exact All.nil | refine All.cons ?_ ?_ | (intros; omega))))); (repeat (first | (apply goD pk; kernel_rfl; exact rfl; (focus repeat' constructor); (focus repeat' (first | exact All.nil | refine All.cons ?_ ?_ | (intros; omega)))) | (apply goX pk; exact rfl; (focus repeat' constructor); (focus repeat' (first | exact All.nil | refine All.cons ?_ ?_ | (intros; omega)))) | (apply callS; exact rfl; exact rfl; exact rfl; (intro _; first | (apply h <;> first | assumption | omega)); (focus repeat' constructor); exact rfl; ((first | apply goE pk | apply go pk | apply goX pk | apply goN pk | apply go0 pk); exact rfl; (focus repeat' constructor); (focus repeat' (first | exact All.nil | refine All.cons ?_ ?_ | (intros; omega)))))))
  (refine pwp_ret ?_; exact ⟨_, _, _, rfl, Wk.refl _, StSub.refl _, rfl, rfl⟩)
end Go.Proofs.Ytghjdkbmjjalmaa
