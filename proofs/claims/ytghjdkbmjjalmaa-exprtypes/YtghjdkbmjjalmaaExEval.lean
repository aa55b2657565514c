import Derived.Test.YtghjdkbmjjalmaaExType
namespace Go.Proofs.Ytghjdkbmjjalmaa
open Go Go.Abs
attribute [local irreducible] Ev PWp
set_option maxRecDepth 10000
/-! typed -/
mutual
def typedR (l : List Int) : Ex → Int × Int
  | .mk k n v o => if k = 0 then (l.getD n.toNat 0, 0) else if k = 1 then (v.k, 0) else
      match typedRs l o with
      | (_, some no) => (0, no)
      | (got, none) => if togR (numsK k) 0 got then (1, 0) else (0, 6)
def typedRs (l : List Int) : List Ex → List Int × Option Int
  | [] => ([], none)
  | e :: es => if (typedR l e).2 = 0 then ((typedR l e).1 :: (typedRs l es).1, (typedRs l es).2) else ([], some (typedR l e).2)
end
theorem typedRs_none {l : List Int} : ∀ {os : List Ex}, (∀ x ∈ os, (typedR l x).2 = 0) → typedRs l os = (os.map fun x => (typedR l x).1, none)
  | [], _ => rfl
  | e :: es, h => by
    have ih := typedRs_none (l := l) (os := es) fun x hx => h x (by simp [hx])
    simp [typedRs, h e (by simp), ih]
theorem typedRs_some {l : List Int} : ∀ {os : List Ex} {i : Nat} {x : Ex}, (∀ j y, j < i → os[j]? = some y → (typedR l y).2 = 0) → os[i]? = some x → (typedR l x).2 ≠ 0 → (typedRs l os).2 = some (typedR l x).2
  | [], _, _, _, h, _ => by simp at h
  | e :: es, 0, x, _, h, hx => by
    simp at h; subst h
    simp [typedRs, hx]
  | e :: es, i + 1, x, h0, h, hx => by
    simp at h
    have h1 := h0 0 e (by omega) (by simp)
    have ih := typedRs_some (l := l) (os := es) (i := i) (fun j y hj hy => h0 (j + 1) y (by omega) (by simpa using hy)) h hx
    simp [typedRs, h1, ih]
theorem formed_parts {k n : Int} {v : Vl} {of : List Ex} (h : formedR (.mk k n v of) = true) (hk0 : ¬ k = 0) (hk1 : ¬ k = 1) : (2 ≤ k ∧ k ≤ 10) ∧ n = 0 ∧ vz v = true ∧ (of.length : Int) = manyK k ∧ ∀ x ∈ of, formedR x = true := by
  simp only [formedR, headF, if_false, Bool.and_eq_true, decide_eq_true_eq, Bool.or_eq_true, hk0, hk1, false_or, formedRs_all, List.all_eq_true] at h
  exact ⟨h.1.1.1.1, h.1.1.1.2, h.1.1.2, h.1.2, h.2⟩
theorem manyK_le (k : Int) : manyK k ≤ 2 ∧ 1 ≤ manyK k := by unfold manyK; split <;> omega
theorem bytes3 : Try.prog.bytesOf 3 = 8 := by kernel_rfl
theorem map_take_succ {α β : Type} {l : List α} {i : Nat} {x : α} (h : l[i]? = some x) (f : α → β) : (l.take (i + 1)).map f = (l.take i).map f ++ [f x] := by
  obtain ⟨hl, rfl⟩ := List.getElem?_eq_some_iff.1 h
  rw [List.take_succ_eq_append_getElem hl, List.map_append]
  rfl
theorem typed_leaf {k n : Int} {v : Vl} {of : List Ex} (l : List Int) (hl : l.length < 2 ^ 62) (hk : k = 0 ∨ k = 1) (hf : formedR (.mk k n v of) = true) (ht : thereR l.length (.mk k n v of) = true) :
    PF Try.prog 23 [.agg (Ex.mk k n v of).cells, .seq (irows l)] (.tup [(PV.val (Value.int .i64 ((typedR l (.mk k n v of)).1))), (PV.val (Value.int .i64 ((typedR l (.mk k n v of)).2)))]) := by
  by_cases hk0 : k = 0
  · subst hk0
    simp [formedR, headF] at hf
    simp [thereR] at ht
    have hn : n.toNat < l.length := by omega
    obtain ⟨x, hx⟩ := get_of_lt hn
    refine pf_of tt_ok Try.func23 (by kernel_rfl) rfl rfl rfl rfl (fun st => ?_)
    (try ((first | apply goE pk | apply go pk | apply goX pk | apply goN pk | apply go0 pk); exact rfl; (focus repeat' constructor); (focus repeat' (first | exact All.nil | refine All.cons ?_ ?_ | (intros; omega))))); (repeat (first | (apply goD pk; kernel_rfl; exact rfl; (focus repeat' constructor); (focus repeat' (first | exact All.nil | refine All.cons ?_ ?_ | (intros; omega)))) | (apply goX pk; exact rfl; (focus repeat' constructor); (focus repeat' (first | exact All.nil | refine All.cons ?_ ?_ | (intros; omega))))))
    refine pwp_cond rfl (fun h => ?_) (fun h => by simp at h)
    (try ((first | apply goE pk | apply go pk | apply goX pk | apply goN pk | apply go0 pk); exact rfl; (focus repeat' constructor); (focus repeat' (first | exact All.nil | refine All.cons ?_ ?_ | (intros; omega))))); (repeat (first | (apply goD pk; kernel_rfl; exact rfl; (focus repeat' constructor); (focus repeat' (first | exact All.nil | refine All.cons ?_ ?_ | (intros; omega)))) | (apply goX pk; exact rfl; (focus repeat' constructor); (focus repeat' (first | exact All.nil | refine All.cons ?_ ?_ | (intros; omega))))))
    (apply ev_index tt_ok; exact rfl; exact rfl; exact rfl; exact rfl; exact rfl; exact rfl; exact rfl; exact (Int.toNat_of_nonneg (by omega)).symm; exact irows_get hx; exact rfl)
    (try ((first | apply goE pk | apply go pk | apply goX pk | apply goN pk | apply go0 pk); exact rfl; (focus repeat' constructor); (focus repeat' (first | exact All.nil | refine All.cons ?_ ?_ | (intros; omega))))); (repeat (first | (apply goD pk; kernel_rfl; exact rfl; (focus repeat' constructor); (focus repeat' (first | exact All.nil | refine All.cons ?_ ?_ | (intros; omega)))) | (apply goX pk; exact rfl; (focus repeat' constructor); (focus repeat' (first | exact All.nil | refine All.cons ?_ ?_ | (intros; omega))))))
    (refine pwp_ret ?_; exact ⟨_, _, _, rfl, Wk.refl _, StSub.refl _, by simp [typedR, hx], rfl⟩)
  · have hk1 : k = 1 := by omega
    subst hk1
    refine pf_of tt_ok Try.func23 (by kernel_rfl) rfl rfl rfl rfl (fun st => ?_)
    (try ((first | apply goE pk | apply go pk | apply goX pk | apply goN pk | apply go0 pk); exact rfl; (focus repeat' constructor); (focus repeat' (first | exact All.nil | refine All.cons ?_ ?_ | (intros; omega))))); (repeat (first | (apply goD pk; kernel_rfl; exact rfl; (focus repeat' constructor); (focus repeat' (first | exact All.nil | refine All.cons ?_ ?_ | (intros; omega)))) | (apply goX pk; exact rfl; (focus repeat' constructor); (focus repeat' (first | exact All.nil | refine All.cons ?_ ?_ | (intros; omega))))))
    refine pwp_cond rfl (fun h => by simp at h) (fun h => ?_)
    (try ((first | apply goE pk | apply go pk | apply goX pk | apply goN pk | apply go0 pk); exact rfl; (focus repeat' constructor); (focus repeat' (first | exact All.nil | refine All.cons ?_ ?_ | (intros; omega))))); (repeat (first | (apply goD pk; kernel_rfl; exact rfl; (focus repeat' constructor); (focus repeat' (first | exact All.nil | refine All.cons ?_ ?_ | (intros; omega)))) | (apply goX pk; exact rfl; (focus repeat' constructor); (focus repeat' (first | exact All.nil | refine All.cons ?_ ?_ | (intros; omega))))))
    refine pwp_cond rfl (fun h => ?_) (fun h => by simp at h)
    (try ((first | apply goE pk | apply go pk | apply goX pk | apply goN pk | apply go0 pk); exact rfl; (focus repeat' constructor); (focus repeat' (first | exact All.nil | refine All.cons ?_ ?_ | (intros; omega))))); (repeat (first | (apply goD pk; kernel_rfl; exact rfl; (focus repeat' constructor); (focus repeat' (first | exact All.nil | refine All.cons ?_ ?_ | (intros; omega)))) | (apply goX pk; exact rfl; (focus repeat' constructor); (focus repeat' (first | exact All.nil | refine All.cons ?_ ?_ | (intros; omega))))))
    (refine pwp_ret ?_; exact ⟨_, _, _, rfl, Wk.refl _, StSub.refl _, by simp [typedR], rfl⟩)
mutual
theorem typed_spec (l : List Int) (hl : l.length < 2 ^ 62) : ∀ (e : Ex), e.ok → formedR e = true → thereR l.length e = true → PF Try.prog 23 [.agg e.cells, .seq (irows l)] (.tup [(PV.val (Value.int .i64 ((typedR l e).1))), (PV.val (Value.int .i64 ((typedR l e).2)))])
  | .mk k n v of, hok, hf, ht => by
    have ih := typed_specs l hl of
    by_cases hk01 : k = 0 ∨ k = 1
    · exact typed_leaf l hl hk01 hf ht
    have hk0 : ¬ k = 0 := by omega
    have hk1 : ¬ k = 1 := by omega
    obtain ⟨hk, hn, hv, hlen, hall⟩ := formed_parts hf hk0 hk1
    simp only [thereR, Bool.and_eq_true, theresR_all, List.all_eq_true] at ht
    simp only [Ex.ok] at hok
    have hm := manyK_le k
    obtain ⟨fid, caps, hlook, _⟩ := kinds_look hk.1 hk.2
    refine pf_of tt_ok Try.func23 (by kernel_rfl) rfl rfl rfl rfl (fun st => ?_)
    (try ((first | apply goE pk | apply go pk | apply goX pk | apply goN pk | apply go0 pk); exact rfl; (focus repeat' constructor); (focus repeat' (first | exact All.nil | refine All.cons ?_ ?_ | (intros; omega))))); (repeat (first | (apply goD pk; kernel_rfl; exact rfl; (focus repeat' constructor); (focus repeat' (first | exact All.nil | refine All.cons ?_ ?_ | (intros; omega)))) | (apply goX pk; exact rfl; (focus repeat' constructor); (focus repeat' (first | exact All.nil | refine All.cons ?_ ?_ | (intros; omega))))))
    refine pwp_cond rfl (fun h => by simp [hk0] at h) (fun h => ?_)
    (try ((first | apply goE pk | apply go pk | apply goX pk | apply goN pk | apply go0 pk); exact rfl; (focus repeat' constructor); (focus repeat' (first | exact All.nil | refine All.cons ?_ ?_ | (intros; omega))))); (repeat (first | (apply goD pk; kernel_rfl; exact rfl; (focus repeat' constructor); (focus repeat' (first | exact All.nil | refine All.cons ?_ ?_ | (intros; omega)))) | (apply goX pk; exact rfl; (focus repeat' constructor); (focus repeat' (first | exact All.nil | refine All.cons ?_ ?_ | (intros; omega))))))
    refine pwp_cond rfl (fun h => by simp [hk1] at h) (fun h => ?_)
    (try ((first | apply goE pk | apply go pk | apply goX pk | apply goN pk | apply go0 pk); exact rfl; (focus repeat' constructor); (focus repeat' (first | exact All.nil | refine All.cons ?_ ?_ | (intros; omega))))); (repeat (first | (apply goD pk; kernel_rfl; exact rfl; (focus repeat' constructor); (focus repeat' (first | exact All.nil | refine All.cons ?_ ?_ | (intros; omega)))) | (apply goX pk; exact rfl; (focus repeat' constructor); (focus repeat' (first | exact All.nil | refine All.cons ?_ ?_ | (intros; omega))))))
    refine pwp_own 6 3 rfl rfl (fun id hid => ?_)
    refine pwp_loop (X := { x : Nat × Nat // x.1 ≤ of.length ∧ st x.2 = none ∧ ∀ j y, j < x.1 → of[j]? = some y → (typedR l y).2 = 0 }) (fun x => (((((((St.nil 53 (upd st x.1.2 (some (.tok 3)))).pv 1 (.seq (irows l))).var 2 26 ((Ex.mk k n v of).cells)).pv 6 (.own x.1.2 (irows ((of.take x.1.1).map fun y => (typedR l y).1)))).pv 26 (.seq (Ex.rows of))).pv 27 ((PV.val (Value.int .i64 (((Ex.rows of).length : Nat)))))).pv 28 ((PV.val (Value.int .i64 ((x.1.1 : Nat))))))) (fun x => of.length - x.1.1) ⟨(0, id), by simp, hid, by simp⟩ ?_ (fun x => ?_)
    · (first | exact Sub.nil _ _ _ (StSub.refl _) rfl | ((repeat (first | refine Sub.pv ?_ rfl | refine Sub.var ?_ rfl rfl)); exact Sub.nil _ _ _ (StSub.refl _) rfl))
    obtain ⟨⟨i, id⟩, hi, hid, hz⟩ := x
    simp only at hi hid hz
    dsimp only
    (try ((first | apply goE pk | apply go pk | apply goX pk | apply goN pk | apply go0 pk); exact rfl; (focus repeat' constructor); (focus repeat' (first | exact All.nil | refine All.cons ?_ ?_ | (intros; omega))))); (repeat (first | (apply goD pk; kernel_rfl; exact rfl; (focus repeat' constructor); (focus repeat' (first | exact All.nil | refine All.cons ?_ ?_ | (intros; omega)))) | (apply goX pk; exact rfl; (focus repeat' constructor); (focus repeat' (first | exact All.nil | refine All.cons ?_ ?_ | (intros; omega))))))
    refine pwp_cond rfl (fun h => ?_) (fun h => ?_) <;> simp [Ex.rows_len] at h
    · obtain ⟨x, hx⟩ := get_of_lt h
      (try ((first | apply goE pk | apply go pk | apply goX pk | apply goN pk | apply go0 pk); exact rfl; (focus repeat' constructor); (focus repeat' (first | exact All.nil | refine All.cons ?_ ?_ | (intros; omega))))); (repeat (first | (apply goD pk; kernel_rfl; exact rfl; (focus repeat' constructor); (focus repeat' (first | exact All.nil | refine All.cons ?_ ?_ | (intros; omega)))) | (apply goX pk; exact rfl; (focus repeat' constructor); (focus repeat' (first | exact All.nil | refine All.cons ?_ ?_ | (intros; omega))))))
      (apply idxS pk; exact rfl; exact rfl; exact rfl; exact rfl; exact rfl; exact rfl; (focus repeat' constructor); exact rfl; (intro _; exact rfl); (intro _; exact (Ex.rows_get hx)); (intro _; exact (Ex.cells_len x)))
      have hm' := List.mem_of_getElem? hx
      have ihx := ih x hm' (Ex.oks_mem hok.2 hm') (hall x hm') (ht.2 x hm')
      have hsome := fun h0 => typedRs_some (l := l) hz hx h0
      have hzs : (typedR l x).2 = 0 → ∀ j y, j < i + 1 → of[j]? = some y → (typedR l y).2 = 0 := fun h0 j y hj hy => by
        by_cases hji : j = i
        · subst hji; rw [hx] at hy; injection hy with hy; subst hy; exact h0
        · exact hz j y (by omega) hy
      have hmap := map_take_succ hx (fun y => (typedR l y).1)
      generalize typedR l x = r at *
      obtain ⟨k', n', v', of'⟩ := x
      (try ((first | apply goE pk | apply go pk | apply goX pk | apply goN pk | apply go0 pk); exact rfl; (focus repeat' constructor); (focus repeat' (first | exact All.nil | refine All.cons ?_ ?_ | (intros; omega))))); (repeat (first | (apply goD pk; kernel_rfl; exact rfl; (focus repeat' constructor); (focus repeat' (first | exact All.nil | refine All.cons ?_ ?_ | (intros; omega)))) | (apply goX pk; exact rfl; (focus repeat' constructor); (focus repeat' (first | exact All.nil | refine All.cons ?_ ?_ | (intros; omega)))) | (apply callS; exact rfl; exact rfl; exact rfl; (intro _; first | (apply ihx <;> first | assumption | omega)); (focus repeat' constructor); exact rfl; ((first | apply goE pk | apply go pk | apply goX pk | apply goN pk | apply go0 pk); exact rfl; (focus repeat' constructor); (focus repeat' (first | exact All.nil | refine All.cons ?_ ?_ | (intros; omega)))))))
      refine pwp_cond rfl (fun h2 => ?_) (fun h2 => ?_)
      · simp at h2
        (try ((first | apply goE pk | apply go pk | apply goX pk | apply goN pk | apply go0 pk); exact rfl; (focus repeat' constructor); (focus repeat' (first | exact All.nil | refine All.cons ?_ ?_ | (intros; omega))))); (repeat (first | (apply goD pk; kernel_rfl; exact rfl; (focus repeat' constructor); (focus repeat' (first | exact All.nil | refine All.cons ?_ ?_ | (intros; omega)))) | (apply goX pk; exact rfl; (focus repeat' constructor); (focus repeat' (first | exact All.nil | refine All.cons ?_ ?_ | (intros; omega))))))
        (refine pwp_ret ?_; exact ⟨_, _, _, rfl, Wk.refl _, StSub.via id hid (fun j h => by repeat (first | refine Eq.trans (upd_ne h) ?_ | exact rfl)), (by simp only [typedR, if_neg hk0, if_neg hk1]; have := hsome h2; revert this; cases typedRs l of with | mk a b => intro this; simp only at this; subst this; rfl), rfl⟩)
      · simp at h2
        (try ((first | apply goE pk | apply go pk | apply goX pk | apply goN pk | apply go0 pk); exact rfl; (focus repeat' constructor); (focus repeat' (first | exact All.nil | refine All.cons ?_ ?_ | (intros; omega))))); (repeat (first | (apply goD pk; kernel_rfl; exact rfl; (focus repeat' constructor); (focus repeat' (first | exact All.nil | refine All.cons ?_ ?_ | (intros; omega)))) | (apply goX pk; exact rfl; (focus repeat' constructor); (focus repeat' (first | exact All.nil | refine All.cons ?_ ?_ | (intros; omega))))))
        (apply ev_append tt_ok 8; exact rfl; exact rfl; exact rfl; exact rfl; exact rfl; exact rfl; exact rfl; exact rfl; exact rfl; exact upd_same _ _ _; exact irows_one _; exact irows_one [r.1]; exact irows_flat [r.1]; exact bytes3; (simp [irows]; omega); (simp [irows]; omega))
        intro id' hid'
        (try ((first | apply goE pk | apply go pk | apply goX pk | apply goN pk | apply go0 pk); exact rfl; (focus repeat' constructor); (focus repeat' (first | exact All.nil | refine All.cons ?_ ?_ | (intros; omega))))); (repeat (first | (apply goD pk; kernel_rfl; exact rfl; (focus repeat' constructor); (focus repeat' (first | exact All.nil | refine All.cons ?_ ?_ | (intros; omega)))) | (apply goX pk; exact rfl; (focus repeat' constructor); (focus repeat' (first | exact All.nil | refine All.cons ?_ ?_ | (intros; omega))))))
        refine ⟨⟨(i + 1, id'), h, fresh_upd hid', hzs h2⟩, ?_, by simp only; omega⟩
        refine Sub.pv ?_ rfl
        refine Sub.pv ?_ rfl
        refine Sub.pv ?_ rfl
        refine Sub.pv' ?_ rfl ?_
        · refine Sub.var ?_ rfl rfl
          refine Sub.pv ?_ rfl
          exact Sub.nil _ _ _ (stsub_swap hid) rfl
        · simp only [hmap]; simp [irows]
    · (try ((first | apply goE pk | apply go pk | apply goX pk | apply goN pk | apply go0 pk); exact rfl; (focus repeat' constructor); (focus repeat' (first | exact All.nil | refine All.cons ?_ ?_ | (intros; omega))))); (repeat (first | (apply goD pk; kernel_rfl; exact rfl; (focus repeat' constructor); (focus repeat' (first | exact All.nil | refine All.cons ?_ ?_ | (intros; omega)))) | (apply goX pk; exact rfl; (focus repeat' constructor); (focus repeat' (first | exact All.nil | refine All.cons ?_ ?_ | (intros; omega)))) | (apply callS; exact rfl; exact rfl; exact rfl; (intro _; first | (apply kinds_spec <;> first | assumption | omega)); (focus repeat' constructor); exact rfl; ((first | apply goE pk | apply go pk | apply goX pk | apply goN pk | apply go0 pk); exact rfl; (focus repeat' constructor); (focus repeat' (first | exact All.nil | refine All.cons ?_ ?_ | (intros; omega)))))))
      (apply lookS pk; exact rfl; exact rfl; exact rfl; exact rfl; (focus repeat' constructor); exact rfl; exact hlook)
      (try ((first | apply goE pk | apply go pk | apply goX pk | apply goN pk | apply go0 pk); exact rfl; (focus repeat' constructor); (focus repeat' (first | exact All.nil | refine All.cons ?_ ?_ | (intros; omega))))); (repeat (first | (apply goD pk; kernel_rfl; exact rfl; (focus repeat' constructor); (focus repeat' (first | exact All.nil | refine All.cons ?_ ?_ | (intros; omega)))) | (apply goX pk; exact rfl; (focus repeat' constructor); (focus repeat' (first | exact All.nil | refine All.cons ?_ ?_ | (intros; omega))))))
      have htk : of.take i = of := take_ge (by omega)
      have hgot : typedRs l of = (of.map fun y => (typedR l y).1, none) := typedRs_none fun x hx => by
        obtain ⟨j, hj⟩ := List.mem_iff_getElem?.1 hx
        exact hz j x (by have := (List.getElem?_eq_some_iff.1 hj).1; omega) hj
      (apply ev_callw [.agg [(PV.val (Value.int .i64 (manyK k))), (PV.val (Value.bool (numsK k))), .fn fid caps], .seq (irows ((of.take i).map fun y => (typedR l y).1))]; exact rfl; exact rfl; exact .cons (Wk.refl _) (.cons (Wk.own _ _) .nil); (apply together_spec; (simp; omega)); exact rfl; exact rfl)
      (try ((first | apply goE pk | apply go pk | apply goX pk | apply goN pk | apply go0 pk); exact rfl; (focus repeat' constructor); (focus repeat' (first | exact All.nil | refine All.cons ?_ ?_ | (intros; omega))))); (repeat (first | (apply goD pk; kernel_rfl; exact rfl; (focus repeat' constructor); (focus repeat' (first | exact All.nil | refine All.cons ?_ ?_ | (intros; omega)))) | (apply goX pk; exact rfl; (focus repeat' constructor); (focus repeat' (first | exact All.nil | refine All.cons ?_ ?_ | (intros; omega))))))
      refine pwp_cond rfl (fun h3 => ?_) (fun h3 => ?_)
      · simp [htk] at h3
        (try ((first | apply goE pk | apply go pk | apply goX pk | apply goN pk | apply go0 pk); exact rfl; (focus repeat' constructor); (focus repeat' (first | exact All.nil | refine All.cons ?_ ?_ | (intros; omega))))); (repeat (first | (apply goD pk; kernel_rfl; exact rfl; (focus repeat' constructor); (focus repeat' (first | exact All.nil | refine All.cons ?_ ?_ | (intros; omega)))) | (apply goX pk; exact rfl; (focus repeat' constructor); (focus repeat' (first | exact All.nil | refine All.cons ?_ ?_ | (intros; omega))))))
        (refine pwp_ret ?_; exact ⟨_, _, _, rfl, Wk.refl _, StSub.via id hid (fun j h => by repeat (first | refine Eq.trans (upd_ne h) ?_ | exact rfl)), (by simp [typedR, hk0, hk1, hgot, h3]), rfl⟩)
      · simp [htk] at h3
        (try ((first | apply goE pk | apply go pk | apply goX pk | apply goN pk | apply go0 pk); exact rfl; (focus repeat' constructor); (focus repeat' (first | exact All.nil | refine All.cons ?_ ?_ | (intros; omega))))); (repeat (first | (apply goD pk; kernel_rfl; exact rfl; (focus repeat' constructor); (focus repeat' (first | exact All.nil | refine All.cons ?_ ?_ | (intros; omega)))) | (apply goX pk; exact rfl; (focus repeat' constructor); (focus repeat' (first | exact All.nil | refine All.cons ?_ ?_ | (intros; omega))))))
        (refine pwp_ret ?_; exact ⟨_, _, _, rfl, Wk.refl _, StSub.via id hid (fun j h => by repeat (first | refine Eq.trans (upd_ne h) ?_ | exact rfl)), (by simp [typedR, hk0, hk1, hgot, h3]), rfl⟩)
theorem typed_specs (l : List Int) (hl : l.length < 2 ^ 62) : ∀ (os : List Ex) (x : Ex), x ∈ os → x.ok → formedR x = true → thereR l.length x = true → PF Try.prog 23 [.agg x.cells, .seq (irows l)] (.tup [(PV.val (Value.int .i64 ((typedR l x).1))), (PV.val (Value.int .i64 ((typedR l x).2)))])
  | [], _, h, _ => by cases h
  | e :: es, x, h, hok => by
    rcases List.mem_cons.1 h with h | h
    · rw [h] at hok ⊢; exact typed_spec l hl e hok
    · exact typed_specs l hl es x h hok
end
end Go.Proofs.Ytghjdkbmjjalmaa
