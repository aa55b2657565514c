import Derived.Test.YtghjdkbmjjalmaaExAwake
namespace Go.Proofs.Ytghjdkbmjjalmaa
open Go Go.Abs
attribute [local irreducible] Ev PWp
set_option maxRecDepth 10000
set_option maxHeartbeats 4000000
/-! ### The plain law -/
def okV (v : Vl) (t : Int) : Prop := rightV v = true ∧ (v.k = 0 ∨ v.k = t)
def okR (r : Vl × Int) (t : Int) : Prop := (r.2 = 0 ∧ okV r.1 t) ∨ (r.2 = 20 ∧ r.1 = v0)
theorem right_v0 : rightV v0 = true := by rfl
theorem okR_v0 : okR (v0, 0) 1 := .inl ⟨rfl, right_v0, .inl rfl⟩
theorem okR_num {n : Int} (h1 : -1099511627776 ≤ n) (h2 : n ≤ 1099511627776) : okR (vN n, 0) 1 := .inl ⟨rfl, by simp [rightV, vN, h1, h2], .inr rfl⟩
theorem okR_truth (b : Bool) : okR (truthV b, 0) 1 := by unfold truthV; cases b <;> exact okR_num (by simp) (by simp)
theorem okR_known {f : Vl → Vl → Vl × Int} {a b : Vl} (h : okR (f a b) 1) : okR (knownV f a b) 1 := by
  unfold knownV
  split
  · exact okR_v0
  · exact h
theorem okR_reck {op : Int → Int → Int} {a b : Vl} : okR (reckV op a b) 1 := by
  unfold reckV
  split
  · exact .inr ⟨rfl, rfl⟩
  · rename_i h
    simp [reckR] at h
    exact okR_num (by omega) (by omega)
theorem okR_join {f : Vl → Bool} {so : Int} {a b : Vl} (h0 : 0 ≤ so) (h1 : so ≤ 1) : okR (joinV f so a b) 1 := by
  unfold joinV
  split
  · exact okR_num (by omega) (by omega)
  · split
    · exact okR_v0
    · exact okR_num (by omega) (by omega)
theorem okR_says (k : Int) (a b : Vl) : okR (saysK k a b) 1 := by
  unfold saysK
  repeat' split
  all_goals first
    | exact okR_known okR_reck
    | exact okR_known (okR_truth _)
    | exact okR_truth _
    | exact okR_join (by omega) (by omega)
inductive Less : List Int → List Int → Prop
  | nil : Less [] []
  | cons {k t : Int} {ks ts : List Int} (h : k = 0 ∨ k = t) (r : Less ks ts) : Less (k :: ks) (t :: ts)
theorem tog_less {nb : Bool} {ks ts : List Int} (h : Less ks ts) : ∀ {l l' : Int}, (l' = 0 ∨ l' = l) → togR nb l ts = true → togR nb l' ks = true := by
  induction h with
  | nil => intro l l' _ _; rfl
  | cons h r ih =>
    rename_i k t ks ts
    intro l l' hl ht
    simp only [togR] at ht ⊢
    split at ht
    · cases ht
    · rename_i hc
      simp at hc
      rcases h with h | h
      · subst h
        rw [if_neg (by simp)]
        simp only [if_true]
        split at ht
        · exact ih hl ht
        · rename_i ht0
          refine ih ?_ ht
          rcases hl with hl | hl
          · exact .inl hl
          · by_cases h0 : l = 0
            · left; rw [hl]; exact h0
            · right; rw [hl]; exact (hc.2 ht0 h0).symm
      · subst h
        have : ¬ ((((nb && !decide (k = 0)) && !decide (k = 1)) || ((!decide (k = 0) && !decide (l' = 0)) && !decide (k = l'))) = true) := by
          simp
          refine ⟨hc.1, fun h1 h2 => ?_⟩
          rcases hl with hl | hl
          · exact absurd hl h2
          · subst hl; exact hc.2 h1 h2
        rw [if_neg this]
        split at ht
        · rename_i h0; rw [if_pos h0]; exact ih hl ht
        · rename_i h0; rw [if_neg h0]; exact ih (.inr rfl) ht
theorem fits_get {row : List Vl} {l : List Int} (hf : fitsR row l = true) {i : Nat} {x : Vl} {y : Int} (hx : row[i]? = some x) (hy : l[i]? = some y) : okV x y := by
  simp only [fitsR, Bool.and_eq_true, List.all_eq_true] at hf
  have := hf.2 (x, y) (List.mem_of_getElem? (List.getElem?_zip_eq_some.2 ⟨hx, hy⟩))
  simp [fits1] at this
  exact ⟨this.2, this.1⟩
theorem fits_len {row : List Vl} {l : List Int} (hf : fitsR row l = true) : row.length = l.length := by
  simp only [fitsR, Bool.and_eq_true, decide_eq_true_eq] at hf; exact hf.1
theorem typedRs_cons {l : List Int} {e : Ex} {es : List Ex} {got : List Int} (h : typedRs l (e :: es) = (got, none)) : (typedR l e).2 = 0 ∧ ∃ g, got = (typedR l e).1 :: g ∧ typedRs l es = (g, none) := by
  simp only [typedRs] at h
  split at h
  · rename_i h0
    refine ⟨h0, (typedRs l es).1, ?_, ?_⟩
    · injection h with h1 h2; exact h1.symm
    · injection h with h1 h2; rw [← h2]
  · cases h
mutual
theorem sound {row : List Vl} {l : List Int} (hf : fitsR row l = true) : ∀ (e : Ex), formedR e = true → thereR l.length e = true → (typedR l e).2 = 0 → okR (evalR row e) (typedR l e).1
  | .mk k n v of, h1, h2, h3 => by
    have ih := sounds hf of
    by_cases hk0 : k = 0
    · subst hk0
      simp [formedR, headF] at h1
      simp [thereR] at h2
      have hn : n.toNat < l.length := by omega
      obtain ⟨y, hy⟩ := get_of_lt hn
      obtain ⟨x, hx⟩ := get_of_lt (l := row) (i := n.toNat) (by rw [fits_len hf]; exact hn)
      simp only [evalR, typedR, if_true]
      rw [if_neg (by rw [fits_len hf]; omega)]
      refine .inl ⟨rfl, ?_⟩
      simp only [List.getD_eq_getElem?_getD, hx, hy, Option.getD_some]
      exact fits_get hf hx hy
    by_cases hk1 : k = 1
    · subst hk1
      simp [formedR, headF] at h1
      simp only [evalR, typedR, if_true]
      exact .inl ⟨rfl, h1.1.2, .inr rfl⟩
    obtain ⟨_, _, _, _, hall⟩ := formed_parts h1 hk0 hk1
    simp only [thereR, Bool.and_eq_true] at h2
    simp only [typedR, if_neg hk0, if_neg hk1] at h3 ⊢
    simp only [evalR, if_neg hk0, if_neg hk1]
    cases ht : typedRs l of with
    | mk got no =>
      rw [ht] at h3
      cases no with
      | some no =>
        exfalso
        simp only at h3
        exact typedRs_ne l of (by rw [ht]; exact congrArg some h3)
      | none =>
        simp only at h3 ⊢
        have htog : togR (numsK k) 0 got = true := by
          cases h : togR (numsK k) 0 got with
          | true => rfl
          | false => rw [h] at h3; simp at h3
        rw [htog]
        simp only [if_true]
        rcases ih (fun x hx => hall x hx) h2.2 got ht with ⟨vs, e1, e2⟩ | ⟨vs, e1⟩
        · rw [e1]
          simp only
          rw [tog_less e2 (.inl rfl) htog]
          simp only [if_true]
          exact okR_says _ _ _
        · rw [e1]
          exact .inr ⟨rfl, rfl⟩
theorem typedRs_ne (l : List Int) : ∀ (os : List Ex), (typedRs l os).2 ≠ some 0
  | [] => by simp [typedRs]
  | e :: es => by
    simp only [typedRs]
    split
    · exact typedRs_ne l es
    · rename_i h; intro hh; injection hh with hh; exact h hh
theorem sounds {row : List Vl} {l : List Int} (hf : fitsR row l = true) : ∀ (os : List Ex), (∀ x ∈ os, formedR x = true) → theresR l.length os = true → ∀ got, typedRs l os = (got, none) →
    (∃ vs, evalRs row os = (vs, none) ∧ Less (vs.map Vl.k) got) ∨ ∃ vs, evalRs row os = (vs, some 20)
  | [], _, _, got, h => by
    simp [typedRs] at h
    subst h
    exact .inl ⟨[], rfl, .nil⟩
  | e :: es, h1, h2, got, h => by
    obtain ⟨a1, g, rfl, a3⟩ := typedRs_cons h
    simp only [theresR, Bool.and_eq_true] at h2
    have he := sound hf e (h1 e (by simp)) h2.1 a1
    have ih := sounds hf es (fun x hx => h1 x (by simp [hx])) h2.2 g a3
    simp only [evalRs]
    rcases he with ⟨b1, b2⟩ | ⟨b1, b2⟩
    · rw [if_pos b1]
      rcases ih with ⟨vs, c1, c2⟩ | ⟨vs, c1⟩
      · rw [c1]
        exact .inl ⟨_, rfl, by simp only [List.map_cons]; exact .cons b2.2 c2⟩
      · rw [c1]
        exact .inr ⟨_, rfl⟩
    · rw [if_neg (by rw [b1]; decide), b1]
      exact .inr ⟨_, rfl⟩
end
theorem vz_of {v : Vl} (h : rightV v = true) (h0 : v.k = 0) : vz v = true := by
  unfold rightV at h
  rw [if_pos h0] at h
  simp [vz, h0] at h ⊢
  exact h
/-- What is said of a row that fits. -/
theorem law {e : Ex} {row : List Vl} {l : List Int} {t : Int} (ht : TypeR e l = (t, 0)) (hf : fitsR row l = true) : okR (EvalR e row) t := by
  unfold TypeR at ht
  split at ht
  · rename_i h; injection ht with h1 h2; exact absurd h2 h
  · rename_i h
    have h : mayR e = 0 := by simpa using h
    split at ht
    · rename_i hth
      unfold EvalR
      rw [if_neg (by simp [h])]
      have := sound hf e (mayR_zero h).2 hth (by rw [ht])
      rw [ht] at this
      exact this
    · injection ht with h1 h2; cases h2
/-! ### The walk -/
theorem fits_lim {row : List Vl} {l : List Int} (hf : fitsR row l = true) : ∀ v ∈ row, lim v.n := fun v hv => by
  obtain ⟨i, hi⟩ := List.mem_iff_getElem?.1 hv
  have hl := (List.getElem?_eq_some_iff.1 hi).1
  obtain ⟨y, hy⟩ := get_of_lt (l := l) (i := i) (by rw [← fits_len hf]; exact hl)
  exact right_lim (fits_get hf hi hy).1
theorem sound_spec (e : Ex) (l : List Int) (row : List Vl) : PF Try.prog 3 [.agg e.cells, .seq (irows l), .seq (vrows row)] (PV.val (Value.bool (true))) := by
  have hc : CallOK Try.prog 3 = true := by kernel_rfl
  refine pf_lens hc (fun hl => ?_)
  simp only [lensL, lens, irows_len, vrows_len] at hl
  have hok := Ex.ok_of e hl.1
  have hl1 := hl.2.1.1
  have hl2 := hl.2.2.1.1
  have hlen1 := irows_len l
  have hlen2 := vrows_len row
  have s1 := Few_spec hok
  have s2 := Type_spec hok hl1
  have s3 := Fits_spec hl2 hl1
  have s4 : fitsR row l = true → _ := fun hf => Eval_spec hok (row := row) ⟨hl2, fits_lim hf⟩
  have hlaw : ∀ t, TypeR e l = (t, 0) → fitsR row l = true → okR (EvalR e row) t := fun t => law
  generalize TypeR e l = T at *
  generalize nodesR 25 e 60 = N at *
  generalize EvalR e row = V at *
  obtain ⟨⟨vk, vn, vs⟩, ve⟩ := V
  obtain ⟨t, tn⟩ := T
  obtain ⟨k, n, v, of⟩ := e
  refine pf_of tt_ok Try.func3 (by kernel_rfl) rfl rfl rfl rfl (fun st => ?_)
  (repeat (first | (apply ev_val tt_ok; exact rfl; exact rfl; exact rfl) | (apply ev_adr tt_ok; exact rfl; exact rfl; exact fun _ => rfl; exact rfl) | (apply ev_load tt_ok; exact rfl; exact rfl; exact rfl; exact rfl; exact fun _ => rfl; exact rfl) | (apply ev_box; exact rfl; exact rfl; exact rfl; exact rfl) | (apply ev_alloc tt_ok; exact rfl; exact rfl; exact rfl) | (apply ev_store tt_ok; exact rfl; exact rfl; exact rfl; exact rfl) | (apply ev_and; exact rfl; exact rfl; exact rfl; (first | exact fun _ => rfl | exact id | exact gw_left | exact fun h => gw_left (gw_left h) | exact fun h => gw_left (gw_left (gw_left h))); (first | exact fun _ _ => rfl | exact fun _ h => h | exact gw_mk | exact gw_mkf); exact rfl) | (apply ev_or; exact rfl; exact rfl; exact rfl; (first | exact fun _ => rfl | exact id | exact gw_left | exact fun h => gw_left (gw_left h) | exact fun h => gw_left (gw_left (gw_left h))); (first | exact fun _ _ => rfl | exact fun _ h => h | exact gw_mk | exact gw_mkf); exact rfl) | (apply ev_valg tt_ok; exact rfl; exact rfl; ((focus repeat' (first | exact fun _ => rfl | exact id | exact gw_left | exact trivial | exact fun h => gw_left (gw_left h) | exact fun h => gw_left (gw_left (gw_left h)) | refine And.intro ?_ ?_))); exact rfl) | (apply ev_adr tt_ok; exact rfl; exact rfl; (first | exact fun _ => rfl | exact id | exact gw_left | exact fun h => gw_left (gw_left h) | exact fun h => gw_left (gw_left (gw_left h))); exact rfl) | (apply ev_load tt_ok; exact rfl; exact rfl; exact rfl; exact rfl; (first | exact fun _ => rfl | exact id | exact gw_left | exact fun h => gw_left (gw_left h) | exact fun h => gw_left (gw_left (gw_left h))); exact rfl) | (apply ev_slice tt_ok; exact rfl; exact rfl; (focus repeat' (first | exact fun _ => rfl | exact id | exact gw_left | exact trivial | exact fun h => gw_left (gw_left h) | exact fun h => gw_left (gw_left (gw_left h)) | refine And.intro ?_ ?_)); exact rfl) | (apply ev_call; exact rfl; exact rfl; (apply awake_spec); exact rfl; exact rfl) | (apply ev_callg; exact rfl; exact rfl; exact rfl; (intro _; apply awake_spec); ((focus repeat' (first | exact fun _ => rfl | exact id | exact gw_left | exact trivial | exact fun h => gw_left (gw_left h) | exact fun h => gw_left (gw_left (gw_left h)) | refine And.intro ?_ ?_))); exact rfl) | (apply ev_call; exact rfl; exact rfl; (apply s1); exact rfl; exact rfl) | (apply ev_callg; exact rfl; exact rfl; exact rfl; (intro _; apply s1); ((focus repeat' (first | exact fun _ => rfl | exact id | exact gw_left | exact trivial | exact fun h => gw_left (gw_left h) | exact fun h => gw_left (gw_left (gw_left h)) | refine And.intro ?_ ?_))); exact rfl) | refine ev_nil ?_ | refine pwp_seq ?_ | refine pwp_region ?_ | (refine pwp_region_draw ?_ ?_ ?_; exact rfl; kernel_rfl) | refine pwp_block ?_ | refine pwp_skip ?_ | refine pwp_exit ?_))
  refine pwp_cond rfl (fun h => ?_) (fun h => ?_)
  · (repeat (first | (apply ev_val tt_ok; exact rfl; exact rfl; exact rfl) | (apply ev_adr tt_ok; exact rfl; exact rfl; exact fun _ => rfl; exact rfl) | (apply ev_load tt_ok; exact rfl; exact rfl; exact rfl; exact rfl; exact fun _ => rfl; exact rfl) | (apply ev_box; exact rfl; exact rfl; exact rfl; exact rfl) | (apply ev_alloc tt_ok; exact rfl; exact rfl; exact rfl) | (apply ev_store tt_ok; exact rfl; exact rfl; exact rfl; exact rfl) | (apply ev_and; exact rfl; exact rfl; exact rfl; (first | exact fun _ => rfl | exact id | exact gw_left | exact fun h => gw_left (gw_left h) | exact fun h => gw_left (gw_left (gw_left h))); (first | exact fun _ _ => rfl | exact fun _ h => h | exact gw_mk | exact gw_mkf); exact rfl) | (apply ev_or; exact rfl; exact rfl; exact rfl; (first | exact fun _ => rfl | exact id | exact gw_left | exact fun h => gw_left (gw_left h) | exact fun h => gw_left (gw_left (gw_left h))); (first | exact fun _ _ => rfl | exact fun _ h => h | exact gw_mk | exact gw_mkf); exact rfl) | (apply ev_valg tt_ok; exact rfl; exact rfl; ((focus repeat' (first | exact fun _ => rfl | exact id | exact gw_left | exact trivial | exact fun h => gw_left (gw_left h) | exact fun h => gw_left (gw_left (gw_left h)) | refine And.intro ?_ ?_))); exact rfl) | (apply ev_adr tt_ok; exact rfl; exact rfl; (first | exact fun _ => rfl | exact id | exact gw_left | exact fun h => gw_left (gw_left h) | exact fun h => gw_left (gw_left (gw_left h))); exact rfl) | (apply ev_load tt_ok; exact rfl; exact rfl; exact rfl; exact rfl; (first | exact fun _ => rfl | exact id | exact gw_left | exact fun h => gw_left (gw_left h) | exact fun h => gw_left (gw_left (gw_left h))); exact rfl) | (apply ev_slice tt_ok; exact rfl; exact rfl; (focus repeat' (first | exact fun _ => rfl | exact id | exact gw_left | exact trivial | exact fun h => gw_left (gw_left h) | exact fun h => gw_left (gw_left (gw_left h)) | refine And.intro ?_ ?_)); exact rfl) | refine ev_nil ?_ | refine pwp_seq ?_ | refine pwp_region ?_ | (refine pwp_region_draw ?_ ?_ ?_; exact rfl; kernel_rfl) | refine pwp_block ?_ | refine pwp_skip ?_ | refine pwp_exit ?_))
    (refine pwp_ret ?_; exact ⟨_, _, _, rfl, Wk.refl _, StSub.refl _, rfl, rfl⟩)
  (repeat (first | (apply ev_val tt_ok; exact rfl; exact rfl; exact rfl) | (apply ev_adr tt_ok; exact rfl; exact rfl; exact fun _ => rfl; exact rfl) | (apply ev_load tt_ok; exact rfl; exact rfl; exact rfl; exact rfl; exact fun _ => rfl; exact rfl) | (apply ev_box; exact rfl; exact rfl; exact rfl; exact rfl) | (apply ev_alloc tt_ok; exact rfl; exact rfl; exact rfl) | (apply ev_store tt_ok; exact rfl; exact rfl; exact rfl; exact rfl) | (apply ev_and; exact rfl; exact rfl; exact rfl; (first | exact fun _ => rfl | exact id | exact gw_left | exact fun h => gw_left (gw_left h) | exact fun h => gw_left (gw_left (gw_left h))); (first | exact fun _ _ => rfl | exact fun _ h => h | exact gw_mk | exact gw_mkf); exact rfl) | (apply ev_or; exact rfl; exact rfl; exact rfl; (first | exact fun _ => rfl | exact id | exact gw_left | exact fun h => gw_left (gw_left h) | exact fun h => gw_left (gw_left (gw_left h))); (first | exact fun _ _ => rfl | exact fun _ h => h | exact gw_mk | exact gw_mkf); exact rfl) | (apply ev_valg tt_ok; exact rfl; exact rfl; ((focus repeat' (first | exact fun _ => rfl | exact id | exact gw_left | exact trivial | exact fun h => gw_left (gw_left h) | exact fun h => gw_left (gw_left (gw_left h)) | refine And.intro ?_ ?_))); exact rfl) | (apply ev_adr tt_ok; exact rfl; exact rfl; (first | exact fun _ => rfl | exact id | exact gw_left | exact fun h => gw_left (gw_left h) | exact fun h => gw_left (gw_left (gw_left h))); exact rfl) | (apply ev_load tt_ok; exact rfl; exact rfl; exact rfl; exact rfl; (first | exact fun _ => rfl | exact id | exact gw_left | exact fun h => gw_left (gw_left h) | exact fun h => gw_left (gw_left (gw_left h))); exact rfl) | (apply ev_slice tt_ok; exact rfl; exact rfl; (focus repeat' (first | exact fun _ => rfl | exact id | exact gw_left | exact trivial | exact fun h => gw_left (gw_left h) | exact fun h => gw_left (gw_left (gw_left h)) | refine And.intro ?_ ?_)); exact rfl) | refine ev_nil ?_ | refine pwp_seq ?_ | refine pwp_region ?_ | (refine pwp_region_draw ?_ ?_ ?_; exact rfl; kernel_rfl) | refine pwp_block ?_ | refine pwp_skip ?_ | refine pwp_exit ?_))
  refine pwp_loop (X := { i : Nat // i ≤ l.length }) (fun i => ((((((St.nil 101 st).pv 1 (.seq (irows l))).pv 2 (.seq (vrows row))).var 3 26 ((Ex.mk k n v of).cells)).pv 7 ((PV.val (Value.bool (true))))).pv 9 ((PV.val (Value.int .i64 ((i.1 : Nat))))))) (fun i => l.length - i.1) ⟨0, by omega⟩ ?_ (fun i => ?_)
  · (first | exact Sub.nil _ _ _ (StSub.refl _) rfl | ((repeat (first | refine Sub.pv ?_ rfl | refine Sub.var ?_ rfl rfl)); exact Sub.nil _ _ _ (StSub.refl _) rfl))
  · obtain ⟨i, hi⟩ := i
    dsimp only
    (repeat (first | (apply ev_val tt_ok; exact rfl; exact rfl; exact rfl) | (apply ev_adr tt_ok; exact rfl; exact rfl; exact fun _ => rfl; exact rfl) | (apply ev_load tt_ok; exact rfl; exact rfl; exact rfl; exact rfl; exact fun _ => rfl; exact rfl) | (apply ev_box; exact rfl; exact rfl; exact rfl; exact rfl) | (apply ev_alloc tt_ok; exact rfl; exact rfl; exact rfl) | (apply ev_store tt_ok; exact rfl; exact rfl; exact rfl; exact rfl) | (apply ev_and; exact rfl; exact rfl; exact rfl; (first | exact fun _ => rfl | exact id | exact gw_left | exact fun h => gw_left (gw_left h) | exact fun h => gw_left (gw_left (gw_left h))); (first | exact fun _ _ => rfl | exact fun _ h => h | exact gw_mk | exact gw_mkf); exact rfl) | (apply ev_or; exact rfl; exact rfl; exact rfl; (first | exact fun _ => rfl | exact id | exact gw_left | exact fun h => gw_left (gw_left h) | exact fun h => gw_left (gw_left (gw_left h))); (first | exact fun _ _ => rfl | exact fun _ h => h | exact gw_mk | exact gw_mkf); exact rfl) | (apply ev_valg tt_ok; exact rfl; exact rfl; ((focus repeat' (first | exact fun _ => rfl | exact id | exact gw_left | exact trivial | exact fun h => gw_left (gw_left h) | exact fun h => gw_left (gw_left (gw_left h)) | refine And.intro ?_ ?_))); exact rfl) | (apply ev_adr tt_ok; exact rfl; exact rfl; (first | exact fun _ => rfl | exact id | exact gw_left | exact fun h => gw_left (gw_left h) | exact fun h => gw_left (gw_left (gw_left h))); exact rfl) | (apply ev_load tt_ok; exact rfl; exact rfl; exact rfl; exact rfl; (first | exact fun _ => rfl | exact id | exact gw_left | exact fun h => gw_left (gw_left h) | exact fun h => gw_left (gw_left (gw_left h))); exact rfl) | (apply ev_slice tt_ok; exact rfl; exact rfl; (focus repeat' (first | exact fun _ => rfl | exact id | exact gw_left | exact trivial | exact fun h => gw_left (gw_left h) | exact fun h => gw_left (gw_left (gw_left h)) | refine And.intro ?_ ?_)); exact rfl) | refine ev_nil ?_ | refine pwp_seq ?_ | refine pwp_region ?_ | (refine pwp_region_draw ?_ ?_ ?_; exact rfl; kernel_rfl) | refine pwp_block ?_ | refine pwp_skip ?_ | refine pwp_exit ?_))
    refine pwp_cond rfl (fun h => ?_) (fun h => ?_) <;> simp [irows_len] at h
    · obtain ⟨x, hx⟩ := get_of_lt h
      (repeat (first | (apply ev_val tt_ok; exact rfl; exact rfl; exact rfl) | (apply ev_adr tt_ok; exact rfl; exact rfl; exact fun _ => rfl; exact rfl) | (apply ev_load tt_ok; exact rfl; exact rfl; exact rfl; exact rfl; exact fun _ => rfl; exact rfl) | (apply ev_box; exact rfl; exact rfl; exact rfl; exact rfl) | (apply ev_alloc tt_ok; exact rfl; exact rfl; exact rfl) | (apply ev_store tt_ok; exact rfl; exact rfl; exact rfl; exact rfl) | (apply ev_and; exact rfl; exact rfl; exact rfl; (first | exact fun _ => rfl | exact id | exact gw_left | exact fun h => gw_left (gw_left h) | exact fun h => gw_left (gw_left (gw_left h))); (first | exact fun _ _ => rfl | exact fun _ h => h | exact gw_mk | exact gw_mkf); exact rfl) | (apply ev_or; exact rfl; exact rfl; exact rfl; (first | exact fun _ => rfl | exact id | exact gw_left | exact fun h => gw_left (gw_left h) | exact fun h => gw_left (gw_left (gw_left h))); (first | exact fun _ _ => rfl | exact fun _ h => h | exact gw_mk | exact gw_mkf); exact rfl) | (apply ev_valg tt_ok; exact rfl; exact rfl; ((focus repeat' (first | exact fun _ => rfl | exact id | exact gw_left | exact trivial | exact fun h => gw_left (gw_left h) | exact fun h => gw_left (gw_left (gw_left h)) | refine And.intro ?_ ?_))); exact rfl) | (apply ev_adr tt_ok; exact rfl; exact rfl; (first | exact fun _ => rfl | exact id | exact gw_left | exact fun h => gw_left (gw_left h) | exact fun h => gw_left (gw_left (gw_left h))); exact rfl) | (apply ev_load tt_ok; exact rfl; exact rfl; exact rfl; exact rfl; (first | exact fun _ => rfl | exact id | exact gw_left | exact fun h => gw_left (gw_left h) | exact fun h => gw_left (gw_left (gw_left h))); exact rfl) | (apply ev_slice tt_ok; exact rfl; exact rfl; (focus repeat' (first | exact fun _ => rfl | exact id | exact gw_left | exact trivial | exact fun h => gw_left (gw_left h) | exact fun h => gw_left (gw_left (gw_left h)) | refine And.intro ?_ ?_)); exact rfl) | refine ev_nil ?_ | refine pwp_seq ?_ | refine pwp_region ?_ | (refine pwp_region_draw ?_ ?_ ?_; exact rfl; kernel_rfl) | refine pwp_block ?_ | refine pwp_skip ?_ | refine pwp_exit ?_))
      (apply ev_index tt_ok; exact rfl; exact rfl; exact rfl; exact rfl; exact rfl; exact rfl; exact rfl; exact rfl; exact (irows_get hx); exact (rfl))
      (repeat (first | (apply ev_val tt_ok; exact rfl; exact rfl; exact rfl) | (apply ev_adr tt_ok; exact rfl; exact rfl; exact fun _ => rfl; exact rfl) | (apply ev_load tt_ok; exact rfl; exact rfl; exact rfl; exact rfl; exact fun _ => rfl; exact rfl) | (apply ev_box; exact rfl; exact rfl; exact rfl; exact rfl) | (apply ev_alloc tt_ok; exact rfl; exact rfl; exact rfl) | (apply ev_store tt_ok; exact rfl; exact rfl; exact rfl; exact rfl) | (apply ev_and; exact rfl; exact rfl; exact rfl; (first | exact fun _ => rfl | exact id | exact gw_left | exact fun h => gw_left (gw_left h) | exact fun h => gw_left (gw_left (gw_left h))); (first | exact fun _ _ => rfl | exact fun _ h => h | exact gw_mk | exact gw_mkf); exact rfl) | (apply ev_or; exact rfl; exact rfl; exact rfl; (first | exact fun _ => rfl | exact id | exact gw_left | exact fun h => gw_left (gw_left h) | exact fun h => gw_left (gw_left (gw_left h))); (first | exact fun _ _ => rfl | exact fun _ h => h | exact gw_mk | exact gw_mkf); exact rfl) | (apply ev_valg tt_ok; exact rfl; exact rfl; ((focus repeat' (first | exact fun _ => rfl | exact id | exact gw_left | exact trivial | exact fun h => gw_left (gw_left h) | exact fun h => gw_left (gw_left (gw_left h)) | refine And.intro ?_ ?_))); exact rfl) | (apply ev_adr tt_ok; exact rfl; exact rfl; (first | exact fun _ => rfl | exact id | exact gw_left | exact fun h => gw_left (gw_left h) | exact fun h => gw_left (gw_left (gw_left h))); exact rfl) | (apply ev_load tt_ok; exact rfl; exact rfl; exact rfl; exact rfl; (first | exact fun _ => rfl | exact id | exact gw_left | exact fun h => gw_left (gw_left h) | exact fun h => gw_left (gw_left (gw_left h))); exact rfl) | (apply ev_slice tt_ok; exact rfl; exact rfl; (focus repeat' (first | exact fun _ => rfl | exact id | exact gw_left | exact trivial | exact fun h => gw_left (gw_left h) | exact fun h => gw_left (gw_left (gw_left h)) | refine And.intro ?_ ?_)); exact rfl) | refine ev_nil ?_ | refine pwp_seq ?_ | refine pwp_region ?_ | (refine pwp_region_draw ?_ ?_ ?_; exact rfl; kernel_rfl) | refine pwp_block ?_ | refine pwp_skip ?_ | refine pwp_exit ?_))
      (apply ev_indexg tt_ok; exact rfl; exact rfl; exact rfl; exact rfl; exact rfl; exact rfl; (focus repeat' (first | exact fun _ => rfl | exact id | exact gw_left | exact trivial | exact fun h => gw_left (gw_left h) | exact fun h => gw_left (gw_left (gw_left h)) | refine And.intro ?_ ?_)); exact rfl; (intro _; exact rfl); (intro _; exact irows_get hx); (intro _; exact rfl))
      (repeat (first | (apply ev_val tt_ok; exact rfl; exact rfl; exact rfl) | (apply ev_adr tt_ok; exact rfl; exact rfl; exact fun _ => rfl; exact rfl) | (apply ev_load tt_ok; exact rfl; exact rfl; exact rfl; exact rfl; exact fun _ => rfl; exact rfl) | (apply ev_box; exact rfl; exact rfl; exact rfl; exact rfl) | (apply ev_alloc tt_ok; exact rfl; exact rfl; exact rfl) | (apply ev_store tt_ok; exact rfl; exact rfl; exact rfl; exact rfl) | (apply ev_and; exact rfl; exact rfl; exact rfl; (first | exact fun _ => rfl | exact id | exact gw_left | exact fun h => gw_left (gw_left h) | exact fun h => gw_left (gw_left (gw_left h))); (first | exact fun _ _ => rfl | exact fun _ h => h | exact gw_mk | exact gw_mkf); exact rfl) | (apply ev_or; exact rfl; exact rfl; exact rfl; (first | exact fun _ => rfl | exact id | exact gw_left | exact fun h => gw_left (gw_left h) | exact fun h => gw_left (gw_left (gw_left h))); (first | exact fun _ _ => rfl | exact fun _ h => h | exact gw_mk | exact gw_mkf); exact rfl) | (apply ev_valg tt_ok; exact rfl; exact rfl; ((focus repeat' (first | exact fun _ => rfl | exact id | exact gw_left | exact trivial | exact fun h => gw_left (gw_left h) | exact fun h => gw_left (gw_left (gw_left h)) | refine And.intro ?_ ?_))); exact rfl) | (apply ev_adr tt_ok; exact rfl; exact rfl; (first | exact fun _ => rfl | exact id | exact gw_left | exact fun h => gw_left (gw_left h) | exact fun h => gw_left (gw_left (gw_left h))); exact rfl) | (apply ev_load tt_ok; exact rfl; exact rfl; exact rfl; exact rfl; (first | exact fun _ => rfl | exact id | exact gw_left | exact fun h => gw_left (gw_left h) | exact fun h => gw_left (gw_left (gw_left h))); exact rfl) | (apply ev_slice tt_ok; exact rfl; exact rfl; (focus repeat' (first | exact fun _ => rfl | exact id | exact gw_left | exact trivial | exact fun h => gw_left (gw_left h) | exact fun h => gw_left (gw_left (gw_left h)) | refine And.intro ?_ ?_)); exact rfl) | refine ev_nil ?_ | refine pwp_seq ?_ | refine pwp_region ?_ | (refine pwp_region_draw ?_ ?_ ?_; exact rfl; kernel_rfl) | refine pwp_block ?_ | refine pwp_skip ?_ | refine pwp_exit ?_))
      refine pwp_cond rfl (fun h2 => ?_) (fun h2 => ?_)
      · (repeat (first | (apply ev_val tt_ok; exact rfl; exact rfl; exact rfl) | (apply ev_adr tt_ok; exact rfl; exact rfl; exact fun _ => rfl; exact rfl) | (apply ev_load tt_ok; exact rfl; exact rfl; exact rfl; exact rfl; exact fun _ => rfl; exact rfl) | (apply ev_box; exact rfl; exact rfl; exact rfl; exact rfl) | (apply ev_alloc tt_ok; exact rfl; exact rfl; exact rfl) | (apply ev_store tt_ok; exact rfl; exact rfl; exact rfl; exact rfl) | (apply ev_and; exact rfl; exact rfl; exact rfl; (first | exact fun _ => rfl | exact id | exact gw_left | exact fun h => gw_left (gw_left h) | exact fun h => gw_left (gw_left (gw_left h))); (first | exact fun _ _ => rfl | exact fun _ h => h | exact gw_mk | exact gw_mkf); exact rfl) | (apply ev_or; exact rfl; exact rfl; exact rfl; (first | exact fun _ => rfl | exact id | exact gw_left | exact fun h => gw_left (gw_left h) | exact fun h => gw_left (gw_left (gw_left h))); (first | exact fun _ _ => rfl | exact fun _ h => h | exact gw_mk | exact gw_mkf); exact rfl) | (apply ev_valg tt_ok; exact rfl; exact rfl; ((focus repeat' (first | exact fun _ => rfl | exact id | exact gw_left | exact trivial | exact fun h => gw_left (gw_left h) | exact fun h => gw_left (gw_left (gw_left h)) | refine And.intro ?_ ?_))); exact rfl) | (apply ev_adr tt_ok; exact rfl; exact rfl; (first | exact fun _ => rfl | exact id | exact gw_left | exact fun h => gw_left (gw_left h) | exact fun h => gw_left (gw_left (gw_left h))); exact rfl) | (apply ev_load tt_ok; exact rfl; exact rfl; exact rfl; exact rfl; (first | exact fun _ => rfl | exact id | exact gw_left | exact fun h => gw_left (gw_left h) | exact fun h => gw_left (gw_left (gw_left h))); exact rfl) | (apply ev_slice tt_ok; exact rfl; exact rfl; (focus repeat' (first | exact fun _ => rfl | exact id | exact gw_left | exact trivial | exact fun h => gw_left (gw_left h) | exact fun h => gw_left (gw_left (gw_left h)) | refine And.intro ?_ ?_)); exact rfl) | refine ev_nil ?_ | refine pwp_seq ?_ | refine pwp_region ?_ | (refine pwp_region_draw ?_ ?_ ?_; exact rfl; kernel_rfl) | refine pwp_block ?_ | refine pwp_skip ?_ | refine pwp_exit ?_))
        (refine pwp_ret ?_; exact ⟨_, _, _, rfl, Wk.refl _, StSub.refl _, rfl, rfl⟩)
      · (repeat (first | (apply ev_val tt_ok; exact rfl; exact rfl; exact rfl) | (apply ev_adr tt_ok; exact rfl; exact rfl; exact fun _ => rfl; exact rfl) | (apply ev_load tt_ok; exact rfl; exact rfl; exact rfl; exact rfl; exact fun _ => rfl; exact rfl) | (apply ev_box; exact rfl; exact rfl; exact rfl; exact rfl) | (apply ev_alloc tt_ok; exact rfl; exact rfl; exact rfl) | (apply ev_store tt_ok; exact rfl; exact rfl; exact rfl; exact rfl) | (apply ev_and; exact rfl; exact rfl; exact rfl; (first | exact fun _ => rfl | exact id | exact gw_left | exact fun h => gw_left (gw_left h) | exact fun h => gw_left (gw_left (gw_left h))); (first | exact fun _ _ => rfl | exact fun _ h => h | exact gw_mk | exact gw_mkf); exact rfl) | (apply ev_or; exact rfl; exact rfl; exact rfl; (first | exact fun _ => rfl | exact id | exact gw_left | exact fun h => gw_left (gw_left h) | exact fun h => gw_left (gw_left (gw_left h))); (first | exact fun _ _ => rfl | exact fun _ h => h | exact gw_mk | exact gw_mkf); exact rfl) | (apply ev_valg tt_ok; exact rfl; exact rfl; ((focus repeat' (first | exact fun _ => rfl | exact id | exact gw_left | exact trivial | exact fun h => gw_left (gw_left h) | exact fun h => gw_left (gw_left (gw_left h)) | refine And.intro ?_ ?_))); exact rfl) | (apply ev_adr tt_ok; exact rfl; exact rfl; (first | exact fun _ => rfl | exact id | exact gw_left | exact fun h => gw_left (gw_left h) | exact fun h => gw_left (gw_left (gw_left h))); exact rfl) | (apply ev_load tt_ok; exact rfl; exact rfl; exact rfl; exact rfl; (first | exact fun _ => rfl | exact id | exact gw_left | exact fun h => gw_left (gw_left h) | exact fun h => gw_left (gw_left (gw_left h))); exact rfl) | (apply ev_slice tt_ok; exact rfl; exact rfl; (focus repeat' (first | exact fun _ => rfl | exact id | exact gw_left | exact trivial | exact fun h => gw_left (gw_left h) | exact fun h => gw_left (gw_left (gw_left h)) | refine And.intro ?_ ?_)); exact rfl) | refine ev_nil ?_ | refine pwp_seq ?_ | refine pwp_region ?_ | (refine pwp_region_draw ?_ ?_ ?_; exact rfl; kernel_rfl) | refine pwp_block ?_ | refine pwp_skip ?_ | refine pwp_exit ?_))
        (apply ev_add ((i + 1 : Nat) : Int); exact rfl; exact rfl; exact rfl; exact rfl; exact rfl; omega; omega)
        (repeat (first | (apply ev_val tt_ok; exact rfl; exact rfl; exact rfl) | (apply ev_adr tt_ok; exact rfl; exact rfl; exact fun _ => rfl; exact rfl) | (apply ev_load tt_ok; exact rfl; exact rfl; exact rfl; exact rfl; exact fun _ => rfl; exact rfl) | (apply ev_box; exact rfl; exact rfl; exact rfl; exact rfl) | (apply ev_alloc tt_ok; exact rfl; exact rfl; exact rfl) | (apply ev_store tt_ok; exact rfl; exact rfl; exact rfl; exact rfl) | (apply ev_and; exact rfl; exact rfl; exact rfl; (first | exact fun _ => rfl | exact id | exact gw_left | exact fun h => gw_left (gw_left h) | exact fun h => gw_left (gw_left (gw_left h))); (first | exact fun _ _ => rfl | exact fun _ h => h | exact gw_mk | exact gw_mkf); exact rfl) | (apply ev_or; exact rfl; exact rfl; exact rfl; (first | exact fun _ => rfl | exact id | exact gw_left | exact fun h => gw_left (gw_left h) | exact fun h => gw_left (gw_left (gw_left h))); (first | exact fun _ _ => rfl | exact fun _ h => h | exact gw_mk | exact gw_mkf); exact rfl) | (apply ev_valg tt_ok; exact rfl; exact rfl; ((focus repeat' (first | exact fun _ => rfl | exact id | exact gw_left | exact trivial | exact fun h => gw_left (gw_left h) | exact fun h => gw_left (gw_left (gw_left h)) | refine And.intro ?_ ?_))); exact rfl) | (apply ev_adr tt_ok; exact rfl; exact rfl; (first | exact fun _ => rfl | exact id | exact gw_left | exact fun h => gw_left (gw_left h) | exact fun h => gw_left (gw_left (gw_left h))); exact rfl) | (apply ev_load tt_ok; exact rfl; exact rfl; exact rfl; exact rfl; (first | exact fun _ => rfl | exact id | exact gw_left | exact fun h => gw_left (gw_left h) | exact fun h => gw_left (gw_left (gw_left h))); exact rfl) | (apply ev_slice tt_ok; exact rfl; exact rfl; (focus repeat' (first | exact fun _ => rfl | exact id | exact gw_left | exact trivial | exact fun h => gw_left (gw_left h) | exact fun h => gw_left (gw_left (gw_left h)) | refine And.intro ?_ ?_)); exact rfl) | refine ev_nil ?_ | refine pwp_seq ?_ | refine pwp_region ?_ | (refine pwp_region_draw ?_ ?_ ?_; exact rfl; kernel_rfl) | refine pwp_block ?_ | refine pwp_skip ?_ | refine pwp_exit ?_))
        refine ⟨⟨i + 1, by omega⟩, ?_, by simp only; omega⟩
        (first | exact Sub.nil _ _ _ (StSub.refl _) rfl | ((repeat (first | refine Sub.pv ?_ rfl | refine Sub.var ?_ rfl rfl)); exact Sub.nil _ _ _ (StSub.refl _) rfl))
    · (repeat (first | (apply ev_val tt_ok; exact rfl; exact rfl; exact rfl) | (apply ev_adr tt_ok; exact rfl; exact rfl; exact fun _ => rfl; exact rfl) | (apply ev_load tt_ok; exact rfl; exact rfl; exact rfl; exact rfl; exact fun _ => rfl; exact rfl) | (apply ev_box; exact rfl; exact rfl; exact rfl; exact rfl) | (apply ev_alloc tt_ok; exact rfl; exact rfl; exact rfl) | (apply ev_store tt_ok; exact rfl; exact rfl; exact rfl; exact rfl) | (apply ev_and; exact rfl; exact rfl; exact rfl; (first | exact fun _ => rfl | exact id | exact gw_left | exact fun h => gw_left (gw_left h) | exact fun h => gw_left (gw_left (gw_left h))); (first | exact fun _ _ => rfl | exact fun _ h => h | exact gw_mk | exact gw_mkf); exact rfl) | (apply ev_or; exact rfl; exact rfl; exact rfl; (first | exact fun _ => rfl | exact id | exact gw_left | exact fun h => gw_left (gw_left h) | exact fun h => gw_left (gw_left (gw_left h))); (first | exact fun _ _ => rfl | exact fun _ h => h | exact gw_mk | exact gw_mkf); exact rfl) | (apply ev_valg tt_ok; exact rfl; exact rfl; ((focus repeat' (first | exact fun _ => rfl | exact id | exact gw_left | exact trivial | exact fun h => gw_left (gw_left h) | exact fun h => gw_left (gw_left (gw_left h)) | refine And.intro ?_ ?_))); exact rfl) | (apply ev_adr tt_ok; exact rfl; exact rfl; (first | exact fun _ => rfl | exact id | exact gw_left | exact fun h => gw_left (gw_left h) | exact fun h => gw_left (gw_left (gw_left h))); exact rfl) | (apply ev_load tt_ok; exact rfl; exact rfl; exact rfl; exact rfl; (first | exact fun _ => rfl | exact id | exact gw_left | exact fun h => gw_left (gw_left h) | exact fun h => gw_left (gw_left (gw_left h))); exact rfl) | (apply ev_slice tt_ok; exact rfl; exact rfl; (focus repeat' (first | exact fun _ => rfl | exact id | exact gw_left | exact trivial | exact fun h => gw_left (gw_left h) | exact fun h => gw_left (gw_left (gw_left h)) | refine And.intro ?_ ?_)); exact rfl) | (apply ev_call; exact rfl; exact rfl; (apply s2); exact rfl; exact rfl) | (apply ev_callg; exact rfl; exact rfl; exact rfl; (intro _; apply s2); ((focus repeat' (first | exact fun _ => rfl | exact id | exact gw_left | exact trivial | exact fun h => gw_left (gw_left h) | exact fun h => gw_left (gw_left (gw_left h)) | refine And.intro ?_ ?_))); exact rfl) | (apply ev_call; exact rfl; exact rfl; (apply s3); exact rfl; exact rfl) | (apply ev_callg; exact rfl; exact rfl; exact rfl; (intro _; apply s3); ((focus repeat' (first | exact fun _ => rfl | exact id | exact gw_left | exact trivial | exact fun h => gw_left (gw_left h) | exact fun h => gw_left (gw_left (gw_left h)) | refine And.intro ?_ ?_))); exact rfl) | refine ev_nil ?_ | refine pwp_seq ?_ | refine pwp_region ?_ | (refine pwp_region_draw ?_ ?_ ?_; exact rfl; kernel_rfl) | refine pwp_block ?_ | refine pwp_skip ?_ | refine pwp_exit ?_))
      refine pwp_cond rfl (fun h2 => ?_) (fun h2 => ?_)
      · (repeat (first | (apply ev_val tt_ok; exact rfl; exact rfl; exact rfl) | (apply ev_adr tt_ok; exact rfl; exact rfl; exact fun _ => rfl; exact rfl) | (apply ev_load tt_ok; exact rfl; exact rfl; exact rfl; exact rfl; exact fun _ => rfl; exact rfl) | (apply ev_box; exact rfl; exact rfl; exact rfl; exact rfl) | (apply ev_alloc tt_ok; exact rfl; exact rfl; exact rfl) | (apply ev_store tt_ok; exact rfl; exact rfl; exact rfl; exact rfl) | (apply ev_and; exact rfl; exact rfl; exact rfl; (first | exact fun _ => rfl | exact id | exact gw_left | exact fun h => gw_left (gw_left h) | exact fun h => gw_left (gw_left (gw_left h))); (first | exact fun _ _ => rfl | exact fun _ h => h | exact gw_mk | exact gw_mkf); exact rfl) | (apply ev_or; exact rfl; exact rfl; exact rfl; (first | exact fun _ => rfl | exact id | exact gw_left | exact fun h => gw_left (gw_left h) | exact fun h => gw_left (gw_left (gw_left h))); (first | exact fun _ _ => rfl | exact fun _ h => h | exact gw_mk | exact gw_mkf); exact rfl) | (apply ev_valg tt_ok; exact rfl; exact rfl; ((focus repeat' (first | exact fun _ => rfl | exact id | exact gw_left | exact trivial | exact fun h => gw_left (gw_left h) | exact fun h => gw_left (gw_left (gw_left h)) | refine And.intro ?_ ?_))); exact rfl) | (apply ev_adr tt_ok; exact rfl; exact rfl; (first | exact fun _ => rfl | exact id | exact gw_left | exact fun h => gw_left (gw_left h) | exact fun h => gw_left (gw_left (gw_left h))); exact rfl) | (apply ev_load tt_ok; exact rfl; exact rfl; exact rfl; exact rfl; (first | exact fun _ => rfl | exact id | exact gw_left | exact fun h => gw_left (gw_left h) | exact fun h => gw_left (gw_left (gw_left h))); exact rfl) | (apply ev_slice tt_ok; exact rfl; exact rfl; (focus repeat' (first | exact fun _ => rfl | exact id | exact gw_left | exact trivial | exact fun h => gw_left (gw_left h) | exact fun h => gw_left (gw_left (gw_left h)) | refine And.intro ?_ ?_)); exact rfl) | refine ev_nil ?_ | refine pwp_seq ?_ | refine pwp_region ?_ | (refine pwp_region_draw ?_ ?_ ?_; exact rfl; kernel_rfl) | refine pwp_block ?_ | refine pwp_skip ?_ | refine pwp_exit ?_))
        (refine pwp_ret ?_; exact ⟨_, _, _, rfl, Wk.refl _, StSub.refl _, rfl, rfl⟩)
      · simp at h2
        have s4' := s4 h2.2
        have hl := hlaw t (by rw [h2.1]) h2.2
        (repeat (first | (apply ev_val tt_ok; exact rfl; exact rfl; exact rfl) | (apply ev_adr tt_ok; exact rfl; exact rfl; exact fun _ => rfl; exact rfl) | (apply ev_load tt_ok; exact rfl; exact rfl; exact rfl; exact rfl; exact fun _ => rfl; exact rfl) | (apply ev_box; exact rfl; exact rfl; exact rfl; exact rfl) | (apply ev_alloc tt_ok; exact rfl; exact rfl; exact rfl) | (apply ev_store tt_ok; exact rfl; exact rfl; exact rfl; exact rfl) | (apply ev_and; exact rfl; exact rfl; exact rfl; (first | exact fun _ => rfl | exact id | exact gw_left | exact fun h => gw_left (gw_left h) | exact fun h => gw_left (gw_left (gw_left h))); (first | exact fun _ _ => rfl | exact fun _ h => h | exact gw_mk | exact gw_mkf); exact rfl) | (apply ev_or; exact rfl; exact rfl; exact rfl; (first | exact fun _ => rfl | exact id | exact gw_left | exact fun h => gw_left (gw_left h) | exact fun h => gw_left (gw_left (gw_left h))); (first | exact fun _ _ => rfl | exact fun _ h => h | exact gw_mk | exact gw_mkf); exact rfl) | (apply ev_valg tt_ok; exact rfl; exact rfl; ((focus repeat' (first | exact fun _ => rfl | exact id | exact gw_left | exact trivial | exact fun h => gw_left (gw_left h) | exact fun h => gw_left (gw_left (gw_left h)) | refine And.intro ?_ ?_))); exact rfl) | (apply ev_adr tt_ok; exact rfl; exact rfl; (first | exact fun _ => rfl | exact id | exact gw_left | exact fun h => gw_left (gw_left h) | exact fun h => gw_left (gw_left (gw_left h))); exact rfl) | (apply ev_load tt_ok; exact rfl; exact rfl; exact rfl; exact rfl; (first | exact fun _ => rfl | exact id | exact gw_left | exact fun h => gw_left (gw_left h) | exact fun h => gw_left (gw_left (gw_left h))); exact rfl) | (apply ev_slice tt_ok; exact rfl; exact rfl; (focus repeat' (first | exact fun _ => rfl | exact id | exact gw_left | exact trivial | exact fun h => gw_left (gw_left h) | exact fun h => gw_left (gw_left (gw_left h)) | refine And.intro ?_ ?_)); exact rfl) | (apply ev_call; exact rfl; exact rfl; (apply s4'); exact rfl; exact rfl) | (apply ev_callg; exact rfl; exact rfl; exact rfl; (intro _; apply s4'); ((focus repeat' (first | exact fun _ => rfl | exact id | exact gw_left | exact trivial | exact fun h => gw_left (gw_left h) | exact fun h => gw_left (gw_left (gw_left h)) | refine And.intro ?_ ?_))); exact rfl) | refine ev_nil ?_ | refine pwp_seq ?_ | refine pwp_region ?_ | (refine pwp_region_draw ?_ ?_ ?_; exact rfl; kernel_rfl) | refine pwp_block ?_ | refine pwp_skip ?_ | refine pwp_exit ?_))
        refine pwp_cond rfl (fun h3 => ?_) (fun h3 => ?_)
        · (repeat (first | (apply ev_val tt_ok; exact rfl; exact rfl; exact rfl) | (apply ev_adr tt_ok; exact rfl; exact rfl; exact fun _ => rfl; exact rfl) | (apply ev_load tt_ok; exact rfl; exact rfl; exact rfl; exact rfl; exact fun _ => rfl; exact rfl) | (apply ev_box; exact rfl; exact rfl; exact rfl; exact rfl) | (apply ev_alloc tt_ok; exact rfl; exact rfl; exact rfl) | (apply ev_store tt_ok; exact rfl; exact rfl; exact rfl; exact rfl) | (apply ev_and; exact rfl; exact rfl; exact rfl; (first | exact fun _ => rfl | exact id | exact gw_left | exact fun h => gw_left (gw_left h) | exact fun h => gw_left (gw_left (gw_left h))); (first | exact fun _ _ => rfl | exact fun _ h => h | exact gw_mk | exact gw_mkf); exact rfl) | (apply ev_or; exact rfl; exact rfl; exact rfl; (first | exact fun _ => rfl | exact id | exact gw_left | exact fun h => gw_left (gw_left h) | exact fun h => gw_left (gw_left (gw_left h))); (first | exact fun _ _ => rfl | exact fun _ h => h | exact gw_mk | exact gw_mkf); exact rfl) | (apply ev_valg tt_ok; exact rfl; exact rfl; ((focus repeat' (first | exact fun _ => rfl | exact id | exact gw_left | exact trivial | exact fun h => gw_left (gw_left h) | exact fun h => gw_left (gw_left (gw_left h)) | refine And.intro ?_ ?_))); exact rfl) | (apply ev_adr tt_ok; exact rfl; exact rfl; (first | exact fun _ => rfl | exact id | exact gw_left | exact fun h => gw_left (gw_left h) | exact fun h => gw_left (gw_left (gw_left h))); exact rfl) | (apply ev_load tt_ok; exact rfl; exact rfl; exact rfl; exact rfl; (first | exact fun _ => rfl | exact id | exact gw_left | exact fun h => gw_left (gw_left h) | exact fun h => gw_left (gw_left (gw_left h))); exact rfl) | (apply ev_slice tt_ok; exact rfl; exact rfl; (focus repeat' (first | exact fun _ => rfl | exact id | exact gw_left | exact trivial | exact fun h => gw_left (gw_left h) | exact fun h => gw_left (gw_left (gw_left h)) | refine And.intro ?_ ?_)); exact rfl) | refine ev_nil ?_ | refine pwp_seq ?_ | refine pwp_region ?_ | (refine pwp_region_draw ?_ ?_ ?_; exact rfl; kernel_rfl) | refine pwp_block ?_ | refine pwp_skip ?_ | refine pwp_exit ?_))
          rcases hl with ⟨a, b⟩ | ⟨a, b⟩
          · simp at h3 a; exact absurd a h3
          · simp only [v0, Vl.mk.injEq] at a b
            (refine pwp_ret ?_; exact ⟨_, _, _, rfl, Wk.refl _, StSub.refl _, by simp [a, b.1, b.2.1, b.2.2], rfl⟩)
        · rcases hl with ⟨a, b⟩ | ⟨a, b⟩
          · have s5 := Fits_spec (row := [⟨vk, vn, vs⟩]) (l := [t]) (by simp) (by simp)
            have h5 : fitsR [⟨vk, vn, vs⟩] [t] = true := by simp [fitsR, fits1, b.1]; exact b.2
            rw [h5] at s5
            have h6 : vz ⟨vk, vn, vs⟩ = true ∨ vk = t := by
              rcases b.2 with h | h
              · exact .inl (vz_of b.1 h)
              · exact .inr h
            (repeat (first | (apply ev_val tt_ok; exact rfl; exact rfl; exact rfl) | (apply ev_adr tt_ok; exact rfl; exact rfl; exact fun _ => rfl; exact rfl) | (apply ev_load tt_ok; exact rfl; exact rfl; exact rfl; exact rfl; exact fun _ => rfl; exact rfl) | (apply ev_box; exact rfl; exact rfl; exact rfl; exact rfl) | (apply ev_alloc tt_ok; exact rfl; exact rfl; exact rfl) | (apply ev_store tt_ok; exact rfl; exact rfl; exact rfl; exact rfl) | (apply ev_and; exact rfl; exact rfl; exact rfl; (first | exact fun _ => rfl | exact id | exact gw_left | exact fun h => gw_left (gw_left h) | exact fun h => gw_left (gw_left (gw_left h))); (first | exact fun _ _ => rfl | exact fun _ h => h | exact gw_mk | exact gw_mkf); exact rfl) | (apply ev_or; exact rfl; exact rfl; exact rfl; (first | exact fun _ => rfl | exact id | exact gw_left | exact fun h => gw_left (gw_left h) | exact fun h => gw_left (gw_left (gw_left h))); (first | exact fun _ _ => rfl | exact fun _ h => h | exact gw_mk | exact gw_mkf); exact rfl) | (apply ev_valg tt_ok; exact rfl; exact rfl; ((focus repeat' (first | exact fun _ => rfl | exact id | exact gw_left | exact trivial | exact fun h => gw_left (gw_left h) | exact fun h => gw_left (gw_left (gw_left h)) | refine And.intro ?_ ?_))); exact rfl) | (apply ev_adr tt_ok; exact rfl; exact rfl; (first | exact fun _ => rfl | exact id | exact gw_left | exact fun h => gw_left (gw_left h) | exact fun h => gw_left (gw_left (gw_left h))); exact rfl) | (apply ev_load tt_ok; exact rfl; exact rfl; exact rfl; exact rfl; (first | exact fun _ => rfl | exact id | exact gw_left | exact fun h => gw_left (gw_left h) | exact fun h => gw_left (gw_left (gw_left h))); exact rfl) | (apply ev_slice tt_ok; exact rfl; exact rfl; (focus repeat' (first | exact fun _ => rfl | exact id | exact gw_left | exact trivial | exact fun h => gw_left (gw_left h) | exact fun h => gw_left (gw_left (gw_left h)) | refine And.intro ?_ ?_)); exact rfl) | (apply ev_call; exact rfl; exact rfl; (apply s5); exact rfl; exact rfl) | (apply ev_callg; exact rfl; exact rfl; exact rfl; (intro _; apply s5); ((focus repeat' (first | exact fun _ => rfl | exact id | exact gw_left | exact trivial | exact fun h => gw_left (gw_left h) | exact fun h => gw_left (gw_left (gw_left h)) | refine And.intro ?_ ?_))); exact rfl) | refine ev_nil ?_ | refine pwp_seq ?_ | refine pwp_region ?_ | (refine pwp_region_draw ?_ ?_ ?_; exact rfl; kernel_rfl) | refine pwp_block ?_ | refine pwp_skip ?_ | refine pwp_exit ?_))
            have h7 : (decide (vk = 0) && (decide (vn = 0) && decide (vs = e0)) || decide (vk = t)) = true := by
              rcases h6 with h6 | h6
              · rw [show (decide (vk = 0) && (decide (vn = 0) && decide (vs = e0))) = true from h6]; rfl
              · simp [h6]
            (refine pwp_ret ?_; exact ⟨_, _, _, rfl, Wk.refl _, StSub.refl _, by simpa using h7, rfl⟩)
          · simp at h3 a; omega
end Go.Proofs.Ytghjdkbmjjalmaa
