import Derived.Test.YtghjdkbmjjalmaaExEval
namespace Go.Proofs.Ytghjdkbmjjalmaa
open Go Go.Abs
attribute [local irreducible] Ev PWp
set_option maxRecDepth 10000
def TypeR (e : Ex) (l : List Int) : Int × Int := if mayR e ≠ 0 then (0, mayR e) else if thereR l.length e then typedR l e else (0, 4)
theorem mayR_zero {e : Ex} (h : mayR e = 0) : deepR 20 e = false ∧ formedR e = true := by
  unfold mayR at h
  split at h
  · omega
  · rename_i h1
    split at h
    · rename_i h2; exact ⟨by simpa using h1, h2⟩
    · omega
theorem Type_spec {e : Ex} (hok : e.ok) {l : List Int} (hl : l.length < 2 ^ 62) : PF Try.prog 8 [.agg e.cells, .seq (irows l)] (.tup [(PV.val (Value.int .i64 ((TypeR e l).1))), (PV.val (Value.int .i64 ((TypeR e l).2)))]) := by
  have h1 := may_spec hok
  have h2 := there_spec ((l.length : Nat) : Int) e hok
  have h3 : mayR e = 0 → thereR l.length e = true → _ := fun hm ht => typed_spec l hl e hok (mayR_zero hm).2 ht
  have hlen := irows_len l
  unfold TypeR
  obtain ⟨k, n, v, of⟩ := e
  refine pf_of tt_ok Try.func8 (by kernel_rfl) rfl rfl rfl rfl (fun st => ?_)
  (try ((first | apply goE pk | apply go pk | apply goX pk | apply goN pk | apply go0 pk); exact rfl; (focus repeat' constructor); (focus repeat' (first | exact All.nil | refine All.cons ?_ ?_ | (intros; omega))))); (repeat (first | (apply goD pk; kernel_rfl; exact rfl; (focus repeat' constructor); (focus repeat' (first | exact All.nil | refine All.cons ?_ ?_ | (intros; omega)))) | (apply goX pk; exact rfl; (focus repeat' constructor); (focus repeat' (first | exact All.nil | refine All.cons ?_ ?_ | (intros; omega)))) | (apply callS; exact rfl; exact rfl; exact rfl; (intro _; first | (apply h1 <;> first | assumption | omega)); (focus repeat' constructor); exact rfl; ((first | apply goE pk | apply go pk | apply goX pk | apply goN pk | apply go0 pk); exact rfl; (focus repeat' constructor); (focus repeat' (first | exact All.nil | refine All.cons ?_ ?_ | (intros; omega)))))))
  refine pwp_cond rfl (fun h => ?_) (fun h => ?_)
  · (try ((first | apply goE pk | apply go pk | apply goX pk | apply goN pk | apply go0 pk); exact rfl; (focus repeat' constructor); (focus repeat' (first | exact All.nil | refine All.cons ?_ ?_ | (intros; omega))))); (repeat (first | (apply goD pk; kernel_rfl; exact rfl; (focus repeat' constructor); (focus repeat' (first | exact All.nil | refine All.cons ?_ ?_ | (intros; omega)))) | (apply goX pk; exact rfl; (focus repeat' constructor); (focus repeat' (first | exact All.nil | refine All.cons ?_ ?_ | (intros; omega))))))
    (refine pwp_ret ?_; exact ⟨_, _, _, rfl, Wk.refl _, StSub.refl _, by simp at h; simp [h], rfl⟩)
  · simp at h
    (try ((first | apply goE pk | apply go pk | apply goX pk | apply goN pk | apply go0 pk); exact rfl; (focus repeat' constructor); (focus repeat' (first | exact All.nil | refine All.cons ?_ ?_ | (intros; omega))))); (repeat (first | (apply goD pk; kernel_rfl; exact rfl; (focus repeat' constructor); (focus repeat' (first | exact All.nil | refine All.cons ?_ ?_ | (intros; omega)))) | (apply goX pk; exact rfl; (focus repeat' constructor); (focus repeat' (first | exact All.nil | refine All.cons ?_ ?_ | (intros; omega))))))
    (apply ev_call; exact rfl; exact rfl; (rw [hlen]; exact h2); exact rfl; exact rfl)
    (try ((first | apply goE pk | apply go pk | apply goX pk | apply goN pk | apply go0 pk); exact rfl; (focus repeat' constructor); (focus repeat' (first | exact All.nil | refine All.cons ?_ ?_ | (intros; omega))))); (repeat (first | (apply goD pk; kernel_rfl; exact rfl; (focus repeat' constructor); (focus repeat' (first | exact All.nil | refine All.cons ?_ ?_ | (intros; omega)))) | (apply goX pk; exact rfl; (focus repeat' constructor); (focus repeat' (first | exact All.nil | refine All.cons ?_ ?_ | (intros; omega))))))
    refine pwp_cond rfl (fun h' => ?_) (fun h' => ?_)
    · (try ((first | apply goE pk | apply go pk | apply goX pk | apply goN pk | apply go0 pk); exact rfl; (focus repeat' constructor); (focus repeat' (first | exact All.nil | refine All.cons ?_ ?_ | (intros; omega))))); (repeat (first | (apply goD pk; kernel_rfl; exact rfl; (focus repeat' constructor); (focus repeat' (first | exact All.nil | refine All.cons ?_ ?_ | (intros; omega)))) | (apply goX pk; exact rfl; (focus repeat' constructor); (focus repeat' (first | exact All.nil | refine All.cons ?_ ?_ | (intros; omega))))))
      (refine pwp_ret ?_; exact ⟨_, _, _, rfl, Wk.refl _, StSub.refl _, by simp at h'; simp [h, h'], rfl⟩)
    · simp at h'
      (try ((first | apply goE pk | apply go pk | apply goX pk | apply goN pk | apply go0 pk); exact rfl; (focus repeat' constructor); (focus repeat' (first | exact All.nil | refine All.cons ?_ ?_ | (intros; omega))))); (repeat (first | (apply goD pk; kernel_rfl; exact rfl; (focus repeat' constructor); (focus repeat' (first | exact All.nil | refine All.cons ?_ ?_ | (intros; omega)))) | (apply goX pk; exact rfl; (focus repeat' constructor); (focus repeat' (first | exact All.nil | refine All.cons ?_ ?_ | (intros; omega))))))
      (apply ev_call; exact rfl; exact rfl; exact h3 h h'; exact rfl; exact rfl)
      (try ((first | apply goE pk | apply go pk | apply goX pk | apply goN pk | apply go0 pk); exact rfl; (focus repeat' constructor); (focus repeat' (first | exact All.nil | refine All.cons ?_ ?_ | (intros; omega))))); (repeat (first | (apply goD pk; kernel_rfl; exact rfl; (focus repeat' constructor); (focus repeat' (first | exact All.nil | refine All.cons ?_ ?_ | (intros; omega)))) | (apply goX pk; exact rfl; (focus repeat' constructor); (focus repeat' (first | exact All.nil | refine All.cons ?_ ?_ | (intros; omega))))))
      (refine pwp_ret ?_; exact ⟨_, _, _, rfl, Wk.refl _, StSub.refl _, by simp [h, h'], rfl⟩)
def fits1 (v : Vl) (k : Int) : Bool := !((!decide (v.k = 0) && !decide (v.k = k)) || !rightV v)
def fitsR (row : List Vl) (l : List Int) : Bool := decide (row.length = l.length) && (row.zip l).all fun x => fits1 x.1 x.2
theorem Fits_spec {row : List Vl} {l : List Int} (hr : row.length < 2 ^ 62) (hl : l.length < 2 ^ 62) : PF Try.prog 9 [.seq (vrows row), .seq (irows l)] (PV.val (Value.bool (fitsR row l))) := by
  have hl1 := irows_len l
  have hl2 := vrows_len row
  refine pf_of tt_ok Try.func9 (by kernel_rfl) rfl rfl rfl rfl (fun st => ?_)
  (try ((first | apply goE pk | apply go pk | apply goX pk | apply goN pk | apply go0 pk); exact rfl; (focus repeat' constructor); (focus repeat' (first | exact All.nil | refine All.cons ?_ ?_ | (intros; omega))))); (repeat (first | (apply goD pk; kernel_rfl; exact rfl; (focus repeat' constructor); (focus repeat' (first | exact All.nil | refine All.cons ?_ ?_ | (intros; omega)))) | (apply goX pk; exact rfl; (focus repeat' constructor); (focus repeat' (first | exact All.nil | refine All.cons ?_ ?_ | (intros; omega))))))
  refine pwp_cond rfl (fun h => ?_) (fun h => ?_)
  · (try ((first | apply goE pk | apply go pk | apply goX pk | apply goN pk | apply go0 pk); exact rfl; (focus repeat' constructor); (focus repeat' (first | exact All.nil | refine All.cons ?_ ?_ | (intros; omega))))); (repeat (first | (apply goD pk; kernel_rfl; exact rfl; (focus repeat' constructor); (focus repeat' (first | exact All.nil | refine All.cons ?_ ?_ | (intros; omega)))) | (apply goX pk; exact rfl; (focus repeat' constructor); (focus repeat' (first | exact All.nil | refine All.cons ?_ ?_ | (intros; omega))))))
    simp [hl1, hl2] at h
    (refine pwp_ret ?_; exact ⟨_, _, _, rfl, Wk.refl _, StSub.refl _, by simp [fitsR]; intro hh; omega, rfl⟩)
  · simp [hl1, hl2] at h
    have hlen : row.length = l.length := by omega
    (try ((first | apply goE pk | apply go pk | apply goX pk | apply goN pk | apply go0 pk); exact rfl; (focus repeat' constructor); (focus repeat' (first | exact All.nil | refine All.cons ?_ ?_ | (intros; omega))))); (repeat (first | (apply goD pk; kernel_rfl; exact rfl; (focus repeat' constructor); (focus repeat' (first | exact All.nil | refine All.cons ?_ ?_ | (intros; omega)))) | (apply goX pk; exact rfl; (focus repeat' constructor); (focus repeat' (first | exact All.nil | refine All.cons ?_ ?_ | (intros; omega))))))
    refine pwp_loop (X := { i : Nat // i ≤ row.length ∧ ((row.zip l).take i).all (fun x => fits1 x.1 x.2) = true }) (fun i => (((((St.nil 37 st).pv 1 (.seq (irows l))).pv 12 (.seq (vrows row))).pv 13 ((PV.val (Value.int .i64 (((vrows row).length : Nat)))))).pv 14 ((PV.val (Value.int .i64 ((i.1 : Nat))))))) (fun i => row.length - i.1) ⟨0, by omega, by simp⟩ ?_ (fun i => ?_)
    · (first | exact Sub.nil _ _ _ (StSub.refl _) rfl | ((repeat (first | refine Sub.pv ?_ rfl | refine Sub.var ?_ rfl rfl)); exact Sub.nil _ _ _ (StSub.refl _) rfl))
    obtain ⟨i, hi, hall⟩ := i
    dsimp only
    (try ((first | apply goE pk | apply go pk | apply goX pk | apply goN pk | apply go0 pk); exact rfl; (focus repeat' constructor); (focus repeat' (first | exact All.nil | refine All.cons ?_ ?_ | (intros; omega))))); (repeat (first | (apply goD pk; kernel_rfl; exact rfl; (focus repeat' constructor); (focus repeat' (first | exact All.nil | refine All.cons ?_ ?_ | (intros; omega)))) | (apply goX pk; exact rfl; (focus repeat' constructor); (focus repeat' (first | exact All.nil | refine All.cons ?_ ?_ | (intros; omega))))))
    refine pwp_cond rfl (fun h => ?_) (fun h => ?_) <;> simp [vrows_len] at h
    · obtain ⟨x, hx⟩ := get_of_lt h
      obtain ⟨y, hy⟩ := get_of_lt (l := l) (i := i) (by omega)
      have hxy : (row.zip l)[i]? = some (x, y) := List.getElem?_zip_eq_some.2 ⟨hx, hy⟩
      obtain ⟨k, n, s⟩ := x
      (try ((first | apply goE pk | apply go pk | apply goX pk | apply goN pk | apply go0 pk); exact rfl; (focus repeat' constructor); (focus repeat' (first | exact All.nil | refine All.cons ?_ ?_ | (intros; omega))))); (repeat (first | (apply goD pk; kernel_rfl; exact rfl; (focus repeat' constructor); (focus repeat' (first | exact All.nil | refine All.cons ?_ ?_ | (intros; omega)))) | (apply goX pk; exact rfl; (focus repeat' constructor); (focus repeat' (first | exact All.nil | refine All.cons ?_ ?_ | (intros; omega))))))
      (apply idxS pk; exact rfl; exact rfl; exact rfl; exact rfl; exact rfl; exact rfl; (focus repeat' constructor); exact rfl; (intro _; exact rfl); (intro _; exact (vrows_get hx)); (intro _; exact (rfl)))
      (try ((first | apply goE pk | apply go pk | apply goX pk | apply goN pk | apply go0 pk); exact rfl; (focus repeat' constructor); (focus repeat' (first | exact All.nil | refine All.cons ?_ ?_ | (intros; omega))))); (repeat (first | (apply goD pk; kernel_rfl; exact rfl; (focus repeat' constructor); (focus repeat' (first | exact All.nil | refine All.cons ?_ ?_ | (intros; omega)))) | (apply goX pk; exact rfl; (focus repeat' constructor); (focus repeat' (first | exact All.nil | refine All.cons ?_ ?_ | (intros; omega)))) | (apply callS; exact rfl; exact rfl; exact rfl; (intro _; first | (apply null_spec <;> first | assumption | omega)); (focus repeat' constructor); exact rfl; ((first | apply goE pk | apply go pk | apply goX pk | apply goN pk | apply go0 pk); exact rfl; (focus repeat' constructor); (focus repeat' (first | exact All.nil | refine All.cons ?_ ?_ | (intros; omega)))))))
      (apply idxS pk; exact rfl; exact rfl; exact rfl; exact rfl; exact rfl; exact rfl; (focus repeat' constructor); exact rfl; (intro _; exact rfl); (intro _; exact (irows_get hy)); (intro _; exact (rfl)))
      (try ((first | apply goE pk | apply go pk | apply goX pk | apply goN pk | apply go0 pk); exact rfl; (focus repeat' constructor); (focus repeat' (first | exact All.nil | refine All.cons ?_ ?_ | (intros; omega))))); (repeat (first | (apply goD pk; kernel_rfl; exact rfl; (focus repeat' constructor); (focus repeat' (first | exact All.nil | refine All.cons ?_ ?_ | (intros; omega)))) | (apply goX pk; exact rfl; (focus repeat' constructor); (focus repeat' (first | exact All.nil | refine All.cons ?_ ?_ | (intros; omega)))) | (apply callS; exact rfl; exact rfl; exact rfl; (intro _; first | (apply right_spec <;> first | assumption | omega)); (focus repeat' constructor); exact rfl; ((first | apply goE pk | apply go pk | apply goX pk | apply goN pk | apply go0 pk); exact rfl; (focus repeat' constructor); (focus repeat' (first | exact All.nil | refine All.cons ?_ ?_ | (intros; omega)))))))
      refine pwp_cond rfl (fun h2 => ?_) (fun h2 => ?_)
      · (try ((first | apply goE pk | apply go pk | apply goX pk | apply goN pk | apply go0 pk); exact rfl; (focus repeat' constructor); (focus repeat' (first | exact All.nil | refine All.cons ?_ ?_ | (intros; omega))))); (repeat (first | (apply goD pk; kernel_rfl; exact rfl; (focus repeat' constructor); (focus repeat' (first | exact All.nil | refine All.cons ?_ ?_ | (intros; omega)))) | (apply goX pk; exact rfl; (focus repeat' constructor); (focus repeat' (first | exact All.nil | refine All.cons ?_ ?_ | (intros; omega))))))
        have h2' : fits1 ⟨k, n, s⟩ y = false := by unfold fits1; rw [h2]; rfl
        (refine pwp_ret ?_; exact ⟨_, _, _, rfl, Wk.refl _, StSub.refl _, by unfold fitsR; rw [all_not hxy h2']; simp, rfl⟩)
      · have h2' : fits1 ⟨k, n, s⟩ y = true := by unfold fits1; rw [h2]; rfl
        (try ((first | apply goE pk | apply go pk | apply goX pk | apply goN pk | apply go0 pk); exact rfl; (focus repeat' constructor); (focus repeat' (first | exact All.nil | refine All.cons ?_ ?_ | (intros; omega))))); (repeat (first | (apply goD pk; kernel_rfl; exact rfl; (focus repeat' constructor); (focus repeat' (first | exact All.nil | refine All.cons ?_ ?_ | (intros; omega)))) | (apply goX pk; exact rfl; (focus repeat' constructor); (focus repeat' (first | exact All.nil | refine All.cons ?_ ?_ | (intros; omega))))))
        refine ⟨⟨i + 1, by omega, by rw [all_succ hxy, hall, h2']; rfl⟩, ?_, by simp only; omega⟩
        (first | exact Sub.nil _ _ _ (StSub.refl _) rfl | ((repeat (first | refine Sub.pv ?_ rfl | refine Sub.var ?_ rfl rfl)); exact Sub.nil _ _ _ (StSub.refl _) rfl))
    · (try ((first | apply goE pk | apply go pk | apply goX pk | apply goN pk | apply go0 pk); exact rfl; (focus repeat' constructor); (focus repeat' (first | exact All.nil | refine All.cons ?_ ?_ | (intros; omega))))); (repeat (first | (apply goD pk; kernel_rfl; exact rfl; (focus repeat' constructor); (focus repeat' (first | exact All.nil | refine All.cons ?_ ?_ | (intros; omega)))) | (apply goX pk; exact rfl; (focus repeat' constructor); (focus repeat' (first | exact All.nil | refine All.cons ?_ ?_ | (intros; omega))))))
      (refine pwp_ret ?_; exact ⟨_, _, _, rfl, Wk.refl _, StSub.refl _, by rw [take_ge (by simp; omega)] at hall; simp only [fitsR]; rw [hall]; simp [hlen], rfl⟩)
/-! eval -/
mutual
def evalR (row : List Vl) : Ex → Vl × Int
  | .mk k n v o => if k = 0 then (if n ≥ row.length then (v0, 4) else (row.getD n.toNat v0, 0)) else if k = 1 then (v, 0) else
      match evalRs row o with
      | (_, some no) => (v0, no)
      | (got, none) => if togR (numsK k) 0 (got.map Vl.k) then saysK k (got.getD 0 v0) (got.getD (manyK k - 1).toNat v0) else (v0, 6)
def evalRs (row : List Vl) : List Ex → List Vl × Option Int
  | [] => ([], none)
  | e :: es => if (evalR row e).2 = 0 then ((evalR row e).1 :: (evalRs row es).1, (evalRs row es).2) else ([], some (evalR row e).2)
end
theorem evalRs_none {row : List Vl} : ∀ {os : List Ex}, (∀ x ∈ os, (evalR row x).2 = 0) → evalRs row os = (os.map fun x => (evalR row x).1, none)
  | [], _ => rfl
  | e :: es, h => by
    have ih := evalRs_none (row := row) (os := es) fun x hx => h x (by simp [hx])
    simp [evalRs, h e (by simp), ih]
theorem evalRs_some {row : List Vl} : ∀ {os : List Ex} {i : Nat} {x : Ex}, (∀ j y, j < i → os[j]? = some y → (evalR row y).2 = 0) → os[i]? = some x → (evalR row x).2 ≠ 0 → (evalRs row os).2 = some (evalR row x).2
  | [], _, _, _, h, _ => by simp at h
  | e :: es, 0, x, _, h, hx => by
    simp at h; subst h
    simp [evalRs, hx]
  | e :: es, i + 1, x, h0, h, hx => by
    simp at h
    have h1 := h0 0 e (by omega) (by simp)
    have ih := evalRs_some (row := row) (os := es) (i := i) (fun j y hj hy => h0 (j + 1) y (by omega) (by simpa using hy)) h hx
    simp [evalRs, h1, ih]
theorem evalRs_mem {row : List Vl} : ∀ {os : List Ex} {x : Vl}, x ∈ (evalRs row os).1 → ∃ e ∈ os, x = (evalR row e).1
  | [], _, h => by simp [evalRs] at h
  | e :: es, x, h => by
    simp only [evalRs] at h
    split at h
    · simp at h
      rcases h with h | h
      · exact ⟨e, by simp, h⟩
      · obtain ⟨e', h1, h2⟩ := evalRs_mem h
        exact ⟨e', by simp [h1], h2⟩
    · simp at h
theorem right_lim {v : Vl} (h : rightV v = true) : lim v.n := by
  unfold rightV at h
  split at h
  · simp at h; unfold lim; omega
  · split at h
    · simp at h; unfold lim; omega
    · split at h
      · simp at h; unfold lim; omega
      · cases h
theorem lim_v0 : lim v0.n := by unfold lim v0; simp only; omega
theorem lim_truth (b : Bool) : lim (truthV b).n := by unfold lim truthV vN; cases b <;> simp
theorem lim_reck {op : Int → Int → Int} {a b : Vl} : lim (reckV op a b).1.n := by
  unfold reckV
  split
  · exact lim_v0
  · rename_i h
    simp [reckR] at h
    unfold lim vN; simp only; omega
theorem lim_known {r : Vl → Vl → Vl × Int} {a b : Vl} (h : lim (r a b).1.n) : lim (knownV r a b).1.n := by
  unfold knownV
  split
  · exact lim_v0
  · exact h
theorem lim_says (k : Int) (a b : Vl) : lim (saysK k a b).1.n := by
  unfold saysK
  repeat' split
  all_goals first
    | exact lim_known lim_reck
    | exact lim_known (lim_truth _)
    | exact lim_truth _
    | (unfold joinV; split; · (unfold lim vN; simp only; omega)
       split; · exact lim_v0
       unfold lim vN; simp only; omega)
theorem getD_lim {row : List Vl} (h : ∀ v ∈ row, lim v.n) (i : Nat) : lim (row.getD i v0).n := by
  rw [List.getD_eq_getElem?_getD]
  cases hi : row[i]? with
  | none => exact lim_v0
  | some x => exact h x (List.mem_of_getElem? hi)
theorem eval_lim {row : List Vl} (hr : ∀ v ∈ row, lim v.n) : ∀ {e : Ex}, formedR e = true → lim (evalR row e).1.n
  | .mk k n v of, hf => by
    simp only [evalR]
    split
    · split
      · exact lim_v0
      · exact getD_lim hr _
    · split
      · rename_i h0 h1
        subst h1
        simp [formedR, headF] at hf
        exact right_lim hf.1.2
      · split
        · exact lim_v0
        · split
          · exact lim_says _ _ _
          · exact lim_v0
end Go.Proofs.Ytghjdkbmjjalmaa
