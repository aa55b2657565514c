import Derived.Test.YtghjdkbmjjalmaaExRun
namespace Go.Proofs.Ytghjdkbmjjalmaa
open Go Go.Abs
attribute [local irreducible] Ev PWp
set_option maxRecDepth 10000
set_option maxHeartbeats 4000000
def rowOK (row : List Vl) : Prop := row.length < 2 ^ 62 ∧ ∀ v ∈ row, lim v.n
theorem resPV_eq (r : Vl × Int) : resPV r = .tup [.agg [(PV.val (Value.int .i64 (r.1.k))), (PV.val (Value.int .i64 (r.1.n))), (PV.val (Value.string (r.1.s)))], (PV.val (Value.int .i64 (r.2)))] := rfl
theorem eval_leaf {k n : Int} {v : Vl} {of : List Ex} {row : List Vl} (hr : rowOK row) (hk : k = 0 ∨ k = 1) (hf : formedR (.mk k n v of) = true) :
    PF Try.prog 26 [.agg (Ex.mk k n v of).cells, .seq (vrows row)] (resPV (evalR row (.mk k n v of))) := by
  have hlen := vrows_len row
  by_cases hk0 : k = 0
  · subst hk0
    simp [formedR, headF] at hf
    refine pf_of tt_ok Try.func26 (by kernel_rfl) rfl rfl rfl rfl (fun st => ?_)
    (try ((first | apply goE pk | apply go pk | apply goX pk | apply goN pk | apply go0 pk); exact rfl; (focus repeat' constructor); (focus repeat' (first | exact All.nil | refine All.cons ?_ ?_ | (intros; omega))))); (repeat (first | (apply goD pk; kernel_rfl; exact rfl; (focus repeat' constructor); (focus repeat' (first | exact All.nil | refine All.cons ?_ ?_ | (intros; omega)))) | (apply goX pk; exact rfl; (focus repeat' constructor); (focus repeat' (first | exact All.nil | refine All.cons ?_ ?_ | (intros; omega))))))
    refine pwp_cond rfl (fun h => ?_) (fun h => by simp at h)
    (try ((first | apply goE pk | apply go pk | apply goX pk | apply goN pk | apply go0 pk); exact rfl; (focus repeat' constructor); (focus repeat' (first | exact All.nil | refine All.cons ?_ ?_ | (intros; omega))))); (repeat (first | (apply goD pk; kernel_rfl; exact rfl; (focus repeat' constructor); (focus repeat' (first | exact All.nil | refine All.cons ?_ ?_ | (intros; omega)))) | (apply goX pk; exact rfl; (focus repeat' constructor); (focus repeat' (first | exact All.nil | refine All.cons ?_ ?_ | (intros; omega))))))
    refine pwp_cond rfl (fun h2 => ?_) (fun h2 => ?_)
    · (try ((first | apply goE pk | apply go pk | apply goX pk | apply goN pk | apply go0 pk); exact rfl; (focus repeat' constructor); (focus repeat' (first | exact All.nil | refine All.cons ?_ ?_ | (intros; omega))))); (repeat (first | (apply goD pk; kernel_rfl; exact rfl; (focus repeat' constructor); (focus repeat' (first | exact All.nil | refine All.cons ?_ ?_ | (intros; omega)))) | (apply goX pk; exact rfl; (focus repeat' constructor); (focus repeat' (first | exact All.nil | refine All.cons ?_ ?_ | (intros; omega))))))
      simp [hlen] at h2
      (refine pwp_ret ?_; exact ⟨_, _, _, rfl, Wk.refl _, StSub.refl _, by simp only [evalR, if_pos]; rw [if_pos (by omega)]; rfl, rfl⟩)
    · simp [hlen] at h2
      have hn : n.toNat < row.length := by omega
      obtain ⟨x, hx⟩ := get_of_lt hn
      (try ((first | apply goE pk | apply go pk | apply goX pk | apply goN pk | apply go0 pk); exact rfl; (focus repeat' constructor); (focus repeat' (first | exact All.nil | refine All.cons ?_ ?_ | (intros; omega))))); (repeat (first | (apply goD pk; kernel_rfl; exact rfl; (focus repeat' constructor); (focus repeat' (first | exact All.nil | refine All.cons ?_ ?_ | (intros; omega)))) | (apply goX pk; exact rfl; (focus repeat' constructor); (focus repeat' (first | exact All.nil | refine All.cons ?_ ?_ | (intros; omega))))))
      (apply ev_index tt_ok; exact rfl; exact rfl; exact rfl; exact rfl; exact rfl; exact rfl; exact rfl; exact (Int.toNat_of_nonneg (by omega)).symm; exact vrows_get hx; exact rfl)
      (try ((first | apply goE pk | apply go pk | apply goX pk | apply goN pk | apply go0 pk); exact rfl; (focus repeat' constructor); (focus repeat' (first | exact All.nil | refine All.cons ?_ ?_ | (intros; omega))))); (repeat (first | (apply goD pk; kernel_rfl; exact rfl; (focus repeat' constructor); (focus repeat' (first | exact All.nil | refine All.cons ?_ ?_ | (intros; omega)))) | (apply goX pk; exact rfl; (focus repeat' constructor); (focus repeat' (first | exact All.nil | refine All.cons ?_ ?_ | (intros; omega))))))
      (refine pwp_ret ?_; exact ⟨_, _, _, rfl, Wk.refl _, StSub.refl _, by simp only [evalR, if_pos]; rw [if_neg (by omega)]; simp [hx, resPV], rfl⟩)
  · have hk1 : k = 1 := by omega
    subst hk1
    refine pf_of tt_ok Try.func26 (by kernel_rfl) rfl rfl rfl rfl (fun st => ?_)
    (try ((first | apply goE pk | apply go pk | apply goX pk | apply goN pk | apply go0 pk); exact rfl; (focus repeat' constructor); (focus repeat' (first | exact All.nil | refine All.cons ?_ ?_ | (intros; omega))))); (repeat (first | (apply goD pk; kernel_rfl; exact rfl; (focus repeat' constructor); (focus repeat' (first | exact All.nil | refine All.cons ?_ ?_ | (intros; omega)))) | (apply goX pk; exact rfl; (focus repeat' constructor); (focus repeat' (first | exact All.nil | refine All.cons ?_ ?_ | (intros; omega))))))
    refine pwp_cond rfl (fun h => by simp at h) (fun h => ?_)
    (try ((first | apply goE pk | apply go pk | apply goX pk | apply goN pk | apply go0 pk); exact rfl; (focus repeat' constructor); (focus repeat' (first | exact All.nil | refine All.cons ?_ ?_ | (intros; omega))))); (repeat (first | (apply goD pk; kernel_rfl; exact rfl; (focus repeat' constructor); (focus repeat' (first | exact All.nil | refine All.cons ?_ ?_ | (intros; omega)))) | (apply goX pk; exact rfl; (focus repeat' constructor); (focus repeat' (first | exact All.nil | refine All.cons ?_ ?_ | (intros; omega))))))
    refine pwp_cond rfl (fun h => ?_) (fun h => by simp at h)
    (try ((first | apply goE pk | apply go pk | apply goX pk | apply goN pk | apply go0 pk); exact rfl; (focus repeat' constructor); (focus repeat' (first | exact All.nil | refine All.cons ?_ ?_ | (intros; omega))))); (repeat (first | (apply goD pk; kernel_rfl; exact rfl; (focus repeat' constructor); (focus repeat' (first | exact All.nil | refine All.cons ?_ ?_ | (intros; omega)))) | (apply goX pk; exact rfl; (focus repeat' constructor); (focus repeat' (first | exact All.nil | refine All.cons ?_ ?_ | (intros; omega))))))
    (refine pwp_ret ?_; exact ⟨_, _, _, rfl, Wk.refl _, StSub.refl _, by simp [evalR, resPV], rfl⟩)
def zeroC : List PV := [(PV.val (Value.int .i64 (0))), (PV.val (Value.int .i64 (0))), (PV.val (Value.string (e0)))]
def gotC : List Vl → List PV
  | [] => zeroC ++ zeroC
  | [a] => a.cells ++ zeroC
  | a :: b :: _ => a.cells ++ b.cells
theorem getD_map {α : Type} (of : List α) (f : α → Vl) (i : Nat) : (of.map f).getD i v0 = match of[i]? with | some x => f x | none => v0 := by
  rw [List.getD_eq_getElem?_getD, List.getElem?_map]
  cases of[i]? <;> rfl
mutual
theorem eval_spec {row : List Vl} (hr : rowOK row) : ∀ (e : Ex), e.ok → formedR e = true → PF Try.prog 26 [.agg e.cells, .seq (vrows row)] (resPV (evalR row e))
  | .mk k n v of, hok, hf => by
    have ih := eval_specs hr of
    by_cases hk01 : k = 0 ∨ k = 1
    · exact eval_leaf hr hk01 hf
    have hk0 : ¬ k = 0 := by omega
    have hk1 : ¬ k = 1 := by omega
    obtain ⟨hk, hn, hv, hlen, hall⟩ := formed_parts hf hk0 hk1
    simp only [Ex.ok] at hok
    have hm := manyK_le k
    obtain ⟨fid, caps, hlook, hsays⟩ := kinds_look hk.1 hk.2
    refine pf_of tt_ok Try.func26 (by kernel_rfl) rfl rfl rfl rfl (fun st => ?_)
    (try ((first | apply goE pk | apply go pk | apply goX pk | apply goN pk | apply go0 pk); exact rfl; (focus repeat' constructor); (focus repeat' (first | exact All.nil | refine All.cons ?_ ?_ | (intros; omega))))); (repeat (first | (apply goD pk; kernel_rfl; exact rfl; (focus repeat' constructor); (focus repeat' (first | exact All.nil | refine All.cons ?_ ?_ | (intros; omega)))) | (apply goX pk; exact rfl; (focus repeat' constructor); (focus repeat' (first | exact All.nil | refine All.cons ?_ ?_ | (intros; omega))))))
    refine pwp_cond rfl (fun h => by simp [hk0] at h) (fun h => ?_)
    (try ((first | apply goE pk | apply go pk | apply goX pk | apply goN pk | apply go0 pk); exact rfl; (focus repeat' constructor); (focus repeat' (first | exact All.nil | refine All.cons ?_ ?_ | (intros; omega))))); (repeat (first | (apply goD pk; kernel_rfl; exact rfl; (focus repeat' constructor); (focus repeat' (first | exact All.nil | refine All.cons ?_ ?_ | (intros; omega)))) | (apply goX pk; exact rfl; (focus repeat' constructor); (focus repeat' (first | exact All.nil | refine All.cons ?_ ?_ | (intros; omega))))))
    refine pwp_cond rfl (fun h => by simp [hk1] at h) (fun h => ?_)
    (try ((first | apply goE pk | apply go pk | apply goX pk | apply goN pk | apply go0 pk); exact rfl; (focus repeat' constructor); (focus repeat' (first | exact All.nil | refine All.cons ?_ ?_ | (intros; omega))))); (repeat (first | (apply goD pk; kernel_rfl; exact rfl; (focus repeat' constructor); (focus repeat' (first | exact All.nil | refine All.cons ?_ ?_ | (intros; omega)))) | (apply goX pk; exact rfl; (focus repeat' constructor); (focus repeat' (first | exact All.nil | refine All.cons ?_ ?_ | (intros; omega))))))
    refine pwp_own 7 3 rfl rfl (fun id hid => ?_)
    refine pwp_loop (X := { x : List Vl × Nat // x.1.length ≤ of.length ∧ st x.2 = none ∧ x.1 = (of.take x.1.length).map (fun y => (evalR row y).1) ∧ ∀ j y, j < x.1.length → of[j]? = some y → (evalR row y).2 = 0 }) (fun x => (((((((((St.nil 81 (upd st x.1.2 (some (.tok 3)))).pv 1 (.seq (vrows row))).var 2 26 ((Ex.mk k n v of).cells)).var 4 23 (zeroC)).var 6 62 (gotC x.1.1)).pv 7 (.own x.1.2 (irows (x.1.1.map Vl.k)))).pv 33 (.seq (Ex.rows of))).pv 34 ((PV.val (Value.int .i64 (((Ex.rows of).length : Nat)))))).pv 35 ((PV.val (Value.int .i64 ((x.1.1.length : Nat))))))) (fun x => of.length - x.1.1.length) ⟨([], id), by simp, hid, by simp, by simp⟩ ?_ (fun x => ?_)
    · (first | exact Sub.nil _ _ _ (StSub.refl _) rfl | ((repeat (first | refine Sub.pv ?_ rfl | refine Sub.var ?_ rfl rfl)); exact Sub.nil _ _ _ (StSub.refl _) rfl))
    obtain ⟨⟨got, id⟩, hi, hid, hgot, hz⟩ := x
    simp only at hi hid hgot hz
    dsimp only
    (try ((first | apply goE pk | apply go pk | apply goX pk | apply goN pk | apply go0 pk); exact rfl; (focus repeat' constructor); (focus repeat' (first | exact All.nil | refine All.cons ?_ ?_ | (intros; omega))))); (repeat (first | (apply goD pk; kernel_rfl; exact rfl; (focus repeat' constructor); (focus repeat' (first | exact All.nil | refine All.cons ?_ ?_ | (intros; omega)))) | (apply goX pk; exact rfl; (focus repeat' constructor); (focus repeat' (first | exact All.nil | refine All.cons ?_ ?_ | (intros; omega))))))
    refine pwp_cond rfl (fun h => ?_) (fun h => ?_) <;> simp [Ex.rows_len] at h
    · obtain ⟨x, hx⟩ := get_of_lt h
      (try ((first | apply goE pk | apply go pk | apply goX pk | apply goN pk | apply go0 pk); exact rfl; (focus repeat' constructor); (focus repeat' (first | exact All.nil | refine All.cons ?_ ?_ | (intros; omega))))); (repeat (first | (apply goD pk; kernel_rfl; exact rfl; (focus repeat' constructor); (focus repeat' (first | exact All.nil | refine All.cons ?_ ?_ | (intros; omega)))) | (apply goX pk; exact rfl; (focus repeat' constructor); (focus repeat' (first | exact All.nil | refine All.cons ?_ ?_ | (intros; omega))))))
      (apply idxS pk; exact rfl; exact rfl; exact rfl; exact rfl; exact rfl; exact rfl; (focus repeat' constructor); exact rfl; (intro _; exact rfl); (intro _; exact (Ex.rows_get hx)); (intro _; exact (Ex.cells_len x)))
      have hm' := List.mem_of_getElem? hx
      have ihx := ih x hm' (Ex.oks_mem hok.2 hm') (hall x hm')
      have hsome := fun h0 => evalRs_some (row := row) hz hx h0
      have hzs : (evalR row x).2 = 0 → ∀ j y, j < got.length + 1 → of[j]? = some y → (evalR row y).2 = 0 := fun h0 j y hj hy => by
        by_cases hji : j = got.length
        · subst hji; rw [hx] at hy; injection hy with hy; subst hy; exact h0
        · exact hz j y (by omega) hy
      have hmap := map_take_succ hx (fun y => (evalR row y).1)
      rw [← hgot] at hmap
      generalize evalR row x = r at *
      obtain ⟨⟨rk, rn, rs⟩, re⟩ := r
      obtain ⟨k', n', v', of'⟩ := x
      (try ((first | apply goE pk | apply go pk | apply goX pk | apply goN pk | apply go0 pk); exact rfl; (focus repeat' constructor); (focus repeat' (first | exact All.nil | refine All.cons ?_ ?_ | (intros; omega))))); (repeat (first | (apply goD pk; kernel_rfl; exact rfl; (focus repeat' constructor); (focus repeat' (first | exact All.nil | refine All.cons ?_ ?_ | (intros; omega)))) | (apply goX pk; exact rfl; (focus repeat' constructor); (focus repeat' (first | exact All.nil | refine All.cons ?_ ?_ | (intros; omega)))) | (apply callS; exact rfl; exact rfl; exact rfl; (intro _; first | (apply ihx <;> first | assumption | omega)); (focus repeat' constructor); exact rfl; ((first | apply goE pk | apply go pk | apply goX pk | apply goN pk | apply go0 pk); exact rfl; (focus repeat' constructor); (focus repeat' (first | exact All.nil | refine All.cons ?_ ?_ | (intros; omega)))))))
      refine pwp_cond rfl (fun h2 => ?_) (fun h2 => ?_)
      · simp at h2
        (try ((first | apply goE pk | apply go pk | apply goX pk | apply goN pk | apply go0 pk); exact rfl; (focus repeat' constructor); (focus repeat' (first | exact All.nil | refine All.cons ?_ ?_ | (intros; omega))))); (repeat (first | (apply goD pk; kernel_rfl; exact rfl; (focus repeat' constructor); (focus repeat' (first | exact All.nil | refine All.cons ?_ ?_ | (intros; omega)))) | (apply goX pk; exact rfl; (focus repeat' constructor); (focus repeat' (first | exact All.nil | refine All.cons ?_ ?_ | (intros; omega))))))
        (refine pwp_ret ?_; exact ⟨_, _, _, rfl, Wk.refl _, StSub.via id hid (fun j h => by repeat (first | refine Eq.trans (upd_ne h) ?_ | exact rfl)), (by simp only [evalR, if_neg hk0, if_neg hk1]; have := hsome h2; revert this; cases evalRs row of with | mk a b => intro this; simp only at this; subst this; rfl), rfl⟩)
      · simp at h2
        have hg2 : got.length < 2 := by omega
        have hz2 := hzs h2
        rcases got with _ | ⟨a, _ | ⟨b, _⟩⟩
        · (try ((first | apply goE pk | apply go pk | apply goX pk | apply goN pk | apply go0 pk); exact rfl; (focus repeat' constructor); (focus repeat' (first | exact All.nil | refine All.cons ?_ ?_ | (intros; omega))))); (repeat (first | (apply goD pk; kernel_rfl; exact rfl; (focus repeat' constructor); (focus repeat' (first | exact All.nil | refine All.cons ?_ ?_ | (intros; omega)))) | (apply goX pk; exact rfl; (focus repeat' constructor); (focus repeat' (first | exact All.nil | refine All.cons ?_ ?_ | (intros; omega))))))
          (apply idxL pk 0; exact rfl; exact rfl; exact rfl; exact rfl; exact rfl; (focus repeat' constructor); exact rfl; (intro _; rfl); (intro _; omega))
          (try ((first | apply goE pk | apply go pk | apply goX pk | apply goN pk | apply go0 pk); exact rfl; (focus repeat' constructor); (focus repeat' (first | exact All.nil | refine All.cons ?_ ?_ | (intros; omega))))); (repeat (first | (apply goD pk; kernel_rfl; exact rfl; (focus repeat' constructor); (focus repeat' (first | exact All.nil | refine All.cons ?_ ?_ | (intros; omega)))) | (apply goX pk; exact rfl; (focus repeat' constructor); (focus repeat' (first | exact All.nil | refine All.cons ?_ ?_ | (intros; omega))))))
          (apply ev_append tt_ok 8; exact rfl; exact rfl; exact rfl; exact rfl; exact rfl; exact rfl; exact rfl; exact rfl; exact rfl; exact upd_same _ _ _; exact irows_one []; exact irows_one [rk]; exact irows_flat [rk]; exact bytes3; (simp [irows]); (simp [irows]))
          intro id' hid'
          (try ((first | apply goE pk | apply go pk | apply goX pk | apply goN pk | apply go0 pk); exact rfl; (focus repeat' constructor); (focus repeat' (first | exact All.nil | refine All.cons ?_ ?_ | (intros; omega))))); (repeat (first | (apply goD pk; kernel_rfl; exact rfl; (focus repeat' constructor); (focus repeat' (first | exact All.nil | refine All.cons ?_ ?_ | (intros; omega)))) | (apply goX pk; exact rfl; (focus repeat' constructor); (focus repeat' (first | exact All.nil | refine All.cons ?_ ?_ | (intros; omega))))))
          refine ⟨⟨([⟨rk, rn, rs⟩], id'), (by simp only [List.length_cons, List.length_nil] at h ⊢; omega), fresh_upd hid', hmap.symm, hz2⟩, ?_, (by simp only [List.length_cons, List.length_nil] at h ⊢; omega)⟩
          refine Sub.pv ?_ rfl
          refine Sub.pv ?_ rfl
          refine Sub.pv ?_ rfl
          refine Sub.pv ?_ rfl
          refine Sub.var ?_ rfl rfl
          refine Sub.var ?_ rfl rfl
          refine Sub.var ?_ rfl rfl
          refine Sub.pv ?_ rfl
          exact Sub.nil _ _ _ (stsub_swap hid) rfl
        · (try ((first | apply goE pk | apply go pk | apply goX pk | apply goN pk | apply go0 pk); exact rfl; (focus repeat' constructor); (focus repeat' (first | exact All.nil | refine All.cons ?_ ?_ | (intros; omega))))); (repeat (first | (apply goD pk; kernel_rfl; exact rfl; (focus repeat' constructor); (focus repeat' (first | exact All.nil | refine All.cons ?_ ?_ | (intros; omega)))) | (apply goX pk; exact rfl; (focus repeat' constructor); (focus repeat' (first | exact All.nil | refine All.cons ?_ ?_ | (intros; omega))))))
          (apply idxL pk 1; exact rfl; exact rfl; exact rfl; exact rfl; exact rfl; (focus repeat' constructor); exact rfl; (intro _; rfl); (intro _; omega))
          (try ((first | apply goE pk | apply go pk | apply goX pk | apply goN pk | apply go0 pk); exact rfl; (focus repeat' constructor); (focus repeat' (first | exact All.nil | refine All.cons ?_ ?_ | (intros; omega))))); (repeat (first | (apply goD pk; kernel_rfl; exact rfl; (focus repeat' constructor); (focus repeat' (first | exact All.nil | refine All.cons ?_ ?_ | (intros; omega)))) | (apply goX pk; exact rfl; (focus repeat' constructor); (focus repeat' (first | exact All.nil | refine All.cons ?_ ?_ | (intros; omega))))))
          (apply ev_append tt_ok 8; exact rfl; exact rfl; exact rfl; exact rfl; exact rfl; exact rfl; exact rfl; exact rfl; exact rfl; exact upd_same _ _ _; exact irows_one [a.k]; exact irows_one [rk]; exact irows_flat [rk]; exact bytes3; (simp [irows]); (simp [irows]))
          intro id' hid'
          (try ((first | apply goE pk | apply go pk | apply goX pk | apply goN pk | apply go0 pk); exact rfl; (focus repeat' constructor); (focus repeat' (first | exact All.nil | refine All.cons ?_ ?_ | (intros; omega))))); (repeat (first | (apply goD pk; kernel_rfl; exact rfl; (focus repeat' constructor); (focus repeat' (first | exact All.nil | refine All.cons ?_ ?_ | (intros; omega)))) | (apply goX pk; exact rfl; (focus repeat' constructor); (focus repeat' (first | exact All.nil | refine All.cons ?_ ?_ | (intros; omega))))))
          refine ⟨⟨([a, ⟨rk, rn, rs⟩], id'), (by simp only [List.length_cons, List.length_nil] at h ⊢; omega), fresh_upd hid', hmap.symm, hz2⟩, ?_, (by simp only [List.length_cons, List.length_nil] at h ⊢; omega)⟩
          refine Sub.pv ?_ rfl
          refine Sub.pv ?_ rfl
          refine Sub.pv ?_ rfl
          refine Sub.pv ?_ rfl
          refine Sub.var ?_ rfl rfl
          refine Sub.var ?_ rfl rfl
          refine Sub.var ?_ rfl rfl
          refine Sub.pv ?_ rfl
          exact Sub.nil _ _ _ (stsub_swap hid) rfl
        · exact absurd hg2 (by simp)
    · (try ((first | apply goE pk | apply go pk | apply goX pk | apply goN pk | apply go0 pk); exact rfl; (focus repeat' constructor); (focus repeat' (first | exact All.nil | refine All.cons ?_ ?_ | (intros; omega))))); (repeat (first | (apply goD pk; kernel_rfl; exact rfl; (focus repeat' constructor); (focus repeat' (first | exact All.nil | refine All.cons ?_ ?_ | (intros; omega)))) | (apply goX pk; exact rfl; (focus repeat' constructor); (focus repeat' (first | exact All.nil | refine All.cons ?_ ?_ | (intros; omega)))) | (apply callS; exact rfl; exact rfl; exact rfl; (intro _; first | (apply kinds_spec <;> first | assumption | omega)); (focus repeat' constructor); exact rfl; ((first | apply goE pk | apply go pk | apply goX pk | apply goN pk | apply go0 pk); exact rfl; (focus repeat' constructor); (focus repeat' (first | exact All.nil | refine All.cons ?_ ?_ | (intros; omega)))))))
      (apply lookS pk; exact rfl; exact rfl; exact rfl; exact rfl; (focus repeat' constructor); exact rfl; exact hlook)
      (try ((first | apply goE pk | apply go pk | apply goX pk | apply goN pk | apply go0 pk); exact rfl; (focus repeat' constructor); (focus repeat' (first | exact All.nil | refine All.cons ?_ ?_ | (intros; omega))))); (repeat (first | (apply goD pk; kernel_rfl; exact rfl; (focus repeat' constructor); (focus repeat' (first | exact All.nil | refine All.cons ?_ ?_ | (intros; omega)))) | (apply goX pk; exact rfl; (focus repeat' constructor); (focus repeat' (first | exact All.nil | refine All.cons ?_ ?_ | (intros; omega))))))
      have hle : got.length = of.length := by omega
      have htk : of.take got.length = of := take_ge (by omega)
      rw [htk] at hgot
      have hall2 : ∀ x ∈ of, (evalR row x).2 = 0 := fun x hx => by
        obtain ⟨j, hj⟩ := List.mem_iff_getElem?.1 hx
        exact hz j x (by have := (List.getElem?_eq_some_iff.1 hj).1; omega) hj
      have hgot2 : evalRs row of = (got, none) := by rw [hgot]; exact evalRs_none hall2
      have hlim : ∀ v ∈ got, lim v.n := fun v hv => by
        rw [hgot] at hv
        obtain ⟨e, he, rfl⟩ := List.mem_map.1 hv
        exact eval_lim hr.2 (hall e he)
      (apply callW [.agg [(PV.val (Value.int .i64 (manyK k))), (PV.val (Value.bool (numsK k))), .fn fid caps], .seq (irows (got.map Vl.k))]; exact rfl; exact rfl; exact rfl; exact .cons (Wk.refl _) (.cons (Wk.own _ _) .nil); (intro _; (apply together_spec; (simp; omega))); (focus repeat' constructor); exact rfl)
      (try ((first | apply goE pk | apply go pk | apply goX pk | apply goN pk | apply go0 pk); exact rfl; (focus repeat' constructor); (focus repeat' (first | exact All.nil | refine All.cons ?_ ?_ | (intros; omega))))); (repeat (first | (apply goD pk; kernel_rfl; exact rfl; (focus repeat' constructor); (focus repeat' (first | exact All.nil | refine All.cons ?_ ?_ | (intros; omega)))) | (apply goX pk; exact rfl; (focus repeat' constructor); (focus repeat' (first | exact All.nil | refine All.cons ?_ ?_ | (intros; omega))))))
      refine pwp_cond rfl (fun h3 => ?_) (fun h3 => ?_)
      · simp at h3
        (try ((first | apply goE pk | apply go pk | apply goX pk | apply goN pk | apply go0 pk); exact rfl; (focus repeat' constructor); (focus repeat' (first | exact All.nil | refine All.cons ?_ ?_ | (intros; omega))))); (repeat (first | (apply goD pk; kernel_rfl; exact rfl; (focus repeat' constructor); (focus repeat' (first | exact All.nil | refine All.cons ?_ ?_ | (intros; omega)))) | (apply goX pk; exact rfl; (focus repeat' constructor); (focus repeat' (first | exact All.nil | refine All.cons ?_ ?_ | (intros; omega))))))
        (refine pwp_ret ?_; exact ⟨_, _, _, rfl, Wk.refl _, StSub.via id hid (fun j h => by repeat (first | refine Eq.trans (upd_ne h) ?_ | exact rfl)), (by simp [evalR, hk0, hk1, hgot2, h3]; rfl), rfl⟩)
      · simp at h3
        have hres : evalR row (.mk k n v of) = saysK k (got.getD 0 v0) (got.getD (manyK k - 1).toNat v0) := by simp [evalR, hk0, hk1, hgot2, h3]
        rw [hres]
        clear hres hgot2 hall2 hz hgot htk hlook
        rcases got with _ | ⟨a, _ | ⟨b, _ | ⟨_, _⟩⟩⟩
        · simp only [List.length_nil] at hle; omega
        · have hm1 : manyK k = 1 := by simp only [List.length_cons, List.length_nil] at hle; omega
          have ha := hlim a (by simp)
          obtain ⟨a1, a2, a3⟩ := a
          rw [hm1]
          have hs := hsays a1 a2 a3 a1 a2 a3 ha ha
          (try ((first | apply goE pk | apply go pk | apply goX pk | apply goN pk | apply go0 pk); exact rfl; (focus repeat' constructor); (focus repeat' (first | exact All.nil | refine All.cons ?_ ?_ | (intros; omega))))); (repeat (first | (apply goD pk; kernel_rfl; exact rfl; (focus repeat' constructor); (focus repeat' (first | exact All.nil | refine All.cons ?_ ?_ | (intros; omega)))) | (apply goX pk; exact rfl; (focus repeat' constructor); (focus repeat' (first | exact All.nil | refine All.cons ?_ ?_ | (intros; omega))))))
          (apply idxL pk 0; exact rfl; exact rfl; exact rfl; exact rfl; exact rfl; (focus repeat' constructor); exact rfl; (intro _; rfl); (intro _; omega))
          (try ((first | apply goE pk | apply go pk | apply goX pk | apply goN pk | apply go0 pk); exact rfl; (focus repeat' constructor); (focus repeat' (first | exact All.nil | refine All.cons ?_ ?_ | (intros; omega))))); (repeat (first | (apply goD pk; kernel_rfl; exact rfl; (focus repeat' constructor); (focus repeat' (first | exact All.nil | refine All.cons ?_ ?_ | (intros; omega)))) | (apply goX pk; exact rfl; (focus repeat' constructor); (focus repeat' (first | exact All.nil | refine All.cons ?_ ?_ | (intros; omega))))))
          (apply idxL pk 0; exact rfl; exact rfl; exact rfl; exact rfl; exact rfl; (focus repeat' constructor); exact rfl; (intro _; rfl); (intro _; omega))
          (try ((first | apply goE pk | apply go pk | apply goX pk | apply goN pk | apply go0 pk); exact rfl; (focus repeat' constructor); (focus repeat' (first | exact All.nil | refine All.cons ?_ ?_ | (intros; omega))))); (repeat (first | (apply goD pk; kernel_rfl; exact rfl; (focus repeat' constructor); (focus repeat' (first | exact All.nil | refine All.cons ?_ ?_ | (intros; omega)))) | (apply goX pk; exact rfl; (focus repeat' constructor); (focus repeat' (first | exact All.nil | refine All.cons ?_ ?_ | (intros; omega)))) | (apply callS; exact rfl; exact rfl; exact rfl; (intro _; first | (apply hs <;> first | assumption | omega)); (focus repeat' constructor); exact rfl; ((first | apply goE pk | apply go pk | apply goX pk | apply goN pk | apply go0 pk); exact rfl; (focus repeat' constructor); (focus repeat' (first | exact All.nil | refine All.cons ?_ ?_ | (intros; omega)))))))
          (refine pwp_ret ?_; exact ⟨_, _, _, rfl, Wk.refl _, StSub.via id hid (fun j h => by repeat (first | refine Eq.trans (upd_ne h) ?_ | exact rfl)), rfl, rfl⟩)
        · have hm1 : manyK k = 2 := by simp only [List.length_cons, List.length_nil] at hle; omega
          have ha := hlim a (by simp)
          have hb := hlim b (by simp)
          obtain ⟨a1, a2, a3⟩ := a
          obtain ⟨b1, b2, b3⟩ := b
          rw [hm1]
          have hs := hsays a1 a2 a3 b1 b2 b3 ha hb
          (try ((first | apply goE pk | apply go pk | apply goX pk | apply goN pk | apply go0 pk); exact rfl; (focus repeat' constructor); (focus repeat' (first | exact All.nil | refine All.cons ?_ ?_ | (intros; omega))))); (repeat (first | (apply goD pk; kernel_rfl; exact rfl; (focus repeat' constructor); (focus repeat' (first | exact All.nil | refine All.cons ?_ ?_ | (intros; omega)))) | (apply goX pk; exact rfl; (focus repeat' constructor); (focus repeat' (first | exact All.nil | refine All.cons ?_ ?_ | (intros; omega))))))
          (apply idxL pk 0; exact rfl; exact rfl; exact rfl; exact rfl; exact rfl; (focus repeat' constructor); exact rfl; (intro _; rfl); (intro _; omega))
          (try ((first | apply goE pk | apply go pk | apply goX pk | apply goN pk | apply go0 pk); exact rfl; (focus repeat' constructor); (focus repeat' (first | exact All.nil | refine All.cons ?_ ?_ | (intros; omega))))); (repeat (first | (apply goD pk; kernel_rfl; exact rfl; (focus repeat' constructor); (focus repeat' (first | exact All.nil | refine All.cons ?_ ?_ | (intros; omega)))) | (apply goX pk; exact rfl; (focus repeat' constructor); (focus repeat' (first | exact All.nil | refine All.cons ?_ ?_ | (intros; omega))))))
          (apply idxL pk 1; exact rfl; exact rfl; exact rfl; exact rfl; exact rfl; (focus repeat' constructor); exact rfl; (intro _; rfl); (intro _; omega))
          (try ((first | apply goE pk | apply go pk | apply goX pk | apply goN pk | apply go0 pk); exact rfl; (focus repeat' constructor); (focus repeat' (first | exact All.nil | refine All.cons ?_ ?_ | (intros; omega))))); (repeat (first | (apply goD pk; kernel_rfl; exact rfl; (focus repeat' constructor); (focus repeat' (first | exact All.nil | refine All.cons ?_ ?_ | (intros; omega)))) | (apply goX pk; exact rfl; (focus repeat' constructor); (focus repeat' (first | exact All.nil | refine All.cons ?_ ?_ | (intros; omega)))) | (apply callS; exact rfl; exact rfl; exact rfl; (intro _; first | (apply hs <;> first | assumption | omega)); (focus repeat' constructor); exact rfl; ((first | apply goE pk | apply go pk | apply goX pk | apply goN pk | apply go0 pk); exact rfl; (focus repeat' constructor); (focus repeat' (first | exact All.nil | refine All.cons ?_ ?_ | (intros; omega)))))))
          (refine pwp_ret ?_; exact ⟨_, _, _, rfl, Wk.refl _, StSub.via id hid (fun j h => by repeat (first | refine Eq.trans (upd_ne h) ?_ | exact rfl)), rfl, rfl⟩)
        · simp only [List.length_cons] at hle; omega
theorem eval_specs {row : List Vl} (hr : rowOK row) : ∀ (os : List Ex) (x : Ex), x ∈ os → x.ok → formedR x = true → PF Try.prog 26 [.agg x.cells, .seq (vrows row)] (resPV (evalR row x))
  | [], _, h, _ => by cases h
  | e :: es, x, h, hok => by
    rcases List.mem_cons.1 h with h | h
    · rw [h] at hok ⊢; exact eval_spec hr e hok
    · exact eval_specs hr es x h hok
end
end Go.Proofs.Ytghjdkbmjjalmaa
