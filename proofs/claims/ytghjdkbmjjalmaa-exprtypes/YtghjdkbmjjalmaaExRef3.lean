import Derived.Test.YtghjdkbmjjalmaaExAwake
import Derived.Test.YtghjdkbmjjalmaaAbsWord
namespace Go.Proofs.Ytghjdkbmjjalmaa
open Go Go.Abs
attribute [local irreducible] Ev PWp
set_option maxRecDepth 10000
set_option maxHeartbeats 4000000
def Ex.lit (e : Ex) : List PV := [(PV.val (Value.int .i64 (e.k))), (PV.val (Value.int .i64 (e.n))), (PV.val (Value.int .i64 (e.v.k))), (PV.val (Value.int .i64 (e.v.n))), (PV.val (Value.string (e.v.s))), .seq (Ex.rows e.of)]
theorem Ex.lit_eq (e : Ex) : e.lit = e.cells := by cases e; simp [Ex.lit, Ex.cells, Ex.k, Ex.n, Ex.v, Ex.of]
theorem Ex.ok' {e : Ex} (h : e.ok) : e.of.length < 2 ^ 62 ∧ Ex.oks e.of := by cases e; simpa [Ex.ok, Ex.of] using h
theorem Ex.rows_at {l : List Ex} {i : Nat} (h : i < l.length) : (Ex.rows l)[i]? = some (l[i]'h).lit := by rw [Ex.lit_eq]; exact Ex.rows_get (by simp [h])
theorem Vl.eta (v : Vl) : Vl.mk v.k v.n v.s = v := rfl
attribute [local simp] Vl.eta Ex.rows_len irows_len vrows_len
theorem rvalue_spec {k n : Int} {b : ByteArray} : PF Try.prog 31 [.agg [(PV.val (Value.int .i64 (k))), (PV.val (Value.int .i64 (n))), (PV.val (Value.string (b)))]] (PV.val (Value.bool (rightV ⟨k, n, b⟩))) := by
  refine pf_of tt_ok Try.func31 (by kernel_rfl) rfl rfl rfl rfl (fun st => ?_)
  (try (apply wO pk; exact rfl)); (repeat' (first | exact All.nil | refine All.cons ?_ ?_ | (apply wC pk; exact rfl; exact rfl) | (apply wE pk; exact rfl; exact rfl) | (apply wX pk; exact rfl) | (apply wN pk; exact rfl) | (apply wD pk; kernel_rfl; exact rfl) | exact Imp.one | exact Imp.same | refine Imp.left ?_ | exact ImpX.one | exact ImpX.same | exact ImpX.mk | refine ImpX.up ?_ | refine ImpX.old ?_ | (refine pwp_cond rfl (fun h => ?_) (fun h => ?_) <;> (try simp at h) <;> (first | done | (exfalso; omega) | skip)) | (refine pwp_ret ?_; refine ⟨_, _, _, rfl, Wk.refl _, StSub.refl _, ?_, rfl⟩; (first | rfl | (simp_all [rightV]; done) | skip)) | (intros; omega)))
def getsR (k a b : Int) : Bool := if k = 2 ∨ k = 3 ∨ k = 4 ∨ k = 7 ∨ k = 8 ∨ k = 9 then (decide (a = 0) || decide (a = 1)) && (decide (b = 0) || decide (b = 1)) else if k = 5 ∨ k = 6 then decide (a = b) || decide (a = 0) || decide (b = 0) else true
theorem gets_spec {k a b : Int} : PF Try.prog 38 [(PV.val (Value.int .i64 (k))), (PV.val (Value.int .i64 (a))), (PV.val (Value.int .i64 (b)))] (PV.val (Value.bool (getsR k a b))) := by
  refine pf_of tt_ok Try.func38 (by kernel_rfl) rfl rfl rfl rfl (fun st => ?_)
  (try (apply wO pk; exact rfl)); (repeat' (first | exact All.nil | refine All.cons ?_ ?_ | (apply wC pk; exact rfl; exact rfl) | (apply wE pk; exact rfl; exact rfl) | (apply wX pk; exact rfl) | (apply wN pk; exact rfl) | (apply wD pk; kernel_rfl; exact rfl) | exact Imp.one | exact Imp.same | refine Imp.left ?_ | exact ImpX.one | exact ImpX.same | exact ImpX.mk | refine ImpX.up ?_ | refine ImpX.old ?_ | (refine pwp_cond rfl (fun h => ?_) (fun h => ?_) <;> (try simp at h) <;> (first | done | (exfalso; omega) | skip)) | (refine pwp_ret ?_; refine ⟨_, _, _, rfl, Wk.refl _, StSub.refl _, ?_, rfl⟩; (first | rfl | (simp_all [getsR]; done) | skip)) | (intros; omega)))
def depthR : Nat → Ex → Int
  | 0, _ => 1
  | l + 1, e => e.of.foldl (fun n x => max n (1 + depthR l x)) 1
theorem foldl_le (f : Int → Ex → Int) (B : Int) (hf : ∀ n x, n ≤ B → f n x ≤ B) : ∀ (l : List Ex) (n : Int), n ≤ B → l.foldl f n ≤ B
  | [], n, h => h
  | x :: l, n, h => foldl_le f B hf l _ (hf n x h)
theorem foldl_ge (f : Int → Ex → Int) (hf : ∀ n x, n ≤ f n x) : ∀ (l : List Ex) (n : Int), n ≤ l.foldl f n
  | [], n => Int.le_refl _
  | x :: l, n => Int.le_trans (hf n x) (foldl_ge f hf l _)
theorem depthR_le : ∀ (l : Nat) (e : Ex), depthR l e ≤ l + 1 ∧ 1 ≤ depthR l e
  | 0, _ => by simp [depthR]
  | l + 1, e => by
    simp only [depthR]
    refine ⟨foldl_le _ _ (fun n x h => ?_) _ _ (by omega), foldl_ge _ (fun n x => by omega) _ _⟩
    have := (depthR_le l x).1
    omega
theorem foldl_deep (l : Nat) (hl : ∀ x, (depthR l x = l + 1) ↔ deepR l x = true) : ∀ (os : List Ex) (n : Int), n ≤ l + 2 → (os.foldl (fun n x => max n (1 + depthR l x)) n = l + 2 ↔ (n = l + 2 ∨ os.any (deepR l) = true))
  | [], n, _ => by simp
  | x :: os, n, h => by
    have h1 := depthR_le l x
    rw [List.foldl_cons, foldl_deep l hl os _ (by omega), List.any_cons, Bool.or_eq_true, ← hl x]
    constructor
    · rintro (h2 | h2)
      · by_cases h3 : n = l + 2
        · exact .inl h3
        · exact .inr (.inl (by omega))
      · exact .inr (.inr h2)
    · rintro (h2 | h2 | h2)
      · exact .inl (by omega)
      · exact .inl (by omega)
      · exact .inr h2
theorem depth_deep : ∀ (l : Nat) (e : Ex), (depthR l e = l + 1) ↔ deepR l e = true
  | 0, _ => by simp [depthR, deepR]
  | l + 1, e => by
    simp only [depthR, deepR]
    have := foldl_deep l (depth_deep l) e.of 1 (by omega)
    rw [show ((l + 1 : Nat) : Int) + 1 = l + 2 from by omega, this]
    constructor
    · rintro (h | h)
      · omega
      · exact h
    · exact .inr
def depthA (l : Nat) (of : List Ex) (i : Nat) : Int := (of.take i).foldl (fun n x => max n (1 + depthR l x)) 1
theorem depthA_succ (l : Nat) {of : List Ex} {i : Nat} {x : Ex} (h : of[i]? = some x) : depthA l of (i + 1) = max (depthA l of i) (1 + depthR l x) := by
  unfold depthA
  have hl : i < of.length := (List.getElem?_eq_some_iff.1 h).1
  rw [List.take_succ_eq_append_getElem hl, List.foldl_append]
  have : of[i] = x := (List.getElem?_eq_some_iff.1 h).2
  simp [this]
theorem depthA_le (l : Nat) (of : List Ex) (i : Nat) : depthA l of i ≤ l + 2 ∧ 1 ≤ depthA l of i := by
  unfold depthA
  exact ⟨foldl_le _ _ (fun n x h => by have := (depthR_le l x).1; omega) _ _ (by omega), foldl_ge _ (fun n x => by omega) _ _⟩

theorem Ex.oks_at {l : List Ex} (h : Ex.oks l) {i : Nat} (hi : i < l.length) : (l[i]'hi).ok := Ex.oks_mem h (List.getElem_mem hi)
theorem at_get {α : Type} {l : List α} {i : Nat} (hi : i < l.length) : l[i]? = some (l[i]'hi) := by simp [hi]
theorem Depth_spec : ∀ (left : Nat) (e : Ex) (z : Int), z = (left : Nat) → left ≤ 1000 → e.ok → PF Try.prog 36 [.agg e.lit, (PV.val (Value.int .i64 (z)))] (PV.val (Value.int .i64 (depthR left e)))
  | left, e, z, hz, hl, hok => by
    have hok := Ex.ok' hok
    have ih : ∀ (l : Nat) (i : Nat) (hi : i < e.of.length) (z : Int), left = l + 1 → z = (l : Nat) → PF Try.prog 36 [.agg (e.of[i]'hi).lit, (PV.val (Value.int .i64 (z)))] (PV.val (Value.int .i64 (depthR l (e.of[i]'hi)))) := fun l i hi z hl' hz => Depth_spec l _ z hz (by omega) (Ex.oks_at hok.2 hi)
    refine pf_of tt_ok Try.func36 (by kernel_rfl) rfl rfl rfl rfl (fun st => ?_)
    (try (apply wO pk; exact rfl)); (repeat' (first | exact All.nil | refine All.cons ?_ ?_ | (apply wC pk; exact rfl; exact rfl) | (apply wE pk; exact rfl; exact rfl) | (apply wX pk; exact rfl) | (apply wN pk; exact rfl) | (apply wD pk; kernel_rfl; exact rfl) | exact Imp.one | exact Imp.same | refine Imp.left ?_ | exact ImpX.one | exact ImpX.same | exact ImpX.mk | refine ImpX.up ?_ | refine ImpX.old ?_ | (refine pwp_cond rfl (fun h => ?_) (fun h => ?_) <;> (try simp at h) <;> (first | done | (exfalso; omega) | skip)) | (refine pwp_ret ?_; refine ⟨_, _, _, rfl, Wk.refl _, StSub.refl _, ?_, rfl⟩; (first | rfl | skip)) | (intros; omega)))
    refine pwp_loop (X := { i : Nat // i ≤ e.of.length ∧ (left = 0 → i = 0) }) (fun i => (((((St.nil 30 st).pv 1 ((PV.val (Value.int .i64 (z))))).var 2 26 (e.lit)).pv 5 ((PV.val (Value.int .i64 (depthA (left - 1) e.of i.1))))).pv 6 ((PV.val (Value.int .i64 ((i.1 : Nat))))))) (fun i => e.of.length - i.1) ⟨0, by omega, by omega⟩ ?_ (fun i => ?_)
    · (first | exact Sub.nil _ _ _ (StSub.refl _) rfl | ((repeat (first | refine Sub.pv ?_ rfl | refine Sub.var ?_ rfl rfl)); (first | exact Sub.nil _ _ _ (StSub.refl _) rfl | exact Sub.nil _ _ _ (stsub_swap (by assumption)) rfl)))
    obtain ⟨i, hi, h0⟩ := i
    dsimp only
    have h2 := depthA_le (left - 1) e.of i
    rcases Nat.lt_or_ge i e.of.length with hlt | hlt
    · have h3 := depthA_succ (left - 1) (at_get hlt)
      have h4 := depthR_le (left - 1) (e.of[i]'hlt)
      have ih := fun z => ih (left - 1) i hlt z
      (try (apply wO pk; exact rfl)); (repeat' (first | exact All.nil | refine All.cons ?_ ?_ | (apply wC pk; exact rfl; exact rfl) | (apply wE pk; exact rfl; exact rfl) | (apply wX pk; exact rfl) | (apply wN pk; exact rfl) | (apply wD pk; kernel_rfl; exact rfl) | exact Imp.one | exact Imp.same | refine Imp.left ?_ | exact ImpX.one | exact ImpX.same | exact ImpX.mk | refine ImpX.up ?_ | refine ImpX.old ?_ | (refine pwp_cond rfl (fun h => ?_) (fun h => ?_) <;> (try simp at h) <;> (first | done | (exfalso; omega) | skip)) | (refine pwp_ret ?_; refine ⟨_, _, _, rfl, Wk.refl _, StSub.refl _, ?_, rfl⟩; (first | rfl | ((rcases left with _ | left) <;> simp_all [depthR, depthA] <;> omega; done) | skip)) | (apply callS; exact rfl; exact rfl; exact rfl; (intro _; first | (apply ih <;> first | assumption | omega)); rotate_left; exact rfl) | (apply callV; exact rfl; exact rfl; exact rfl; (intro _; first | (apply ih <;> first | assumption | omega)); rotate_left; exact rfl) | (apply idxS pk; exact rfl; exact rfl; exact rfl; exact rfl; exact rfl; exact rfl; rotate_left; exact rfl; (intro _; exact rfl); (intro _; apply Ex.rows_at <;> omega); (intro _; exact rfl)) | (refine ⟨⟨i + 1, by omega, by omega⟩, ?_, by simp only; omega⟩; (first | exact Sub.nil _ _ _ (StSub.refl _) rfl | ((repeat (first | refine Sub.pv ?_ rfl | refine Sub.var ?_ rfl rfl | refine Sub.pv' ?_ rfl (by rw [h3]) | refine Sub.var' ?_ rfl rfl (by rw [h3]))); (first | exact Sub.nil _ _ _ (StSub.refl _) rfl | exact Sub.nil _ _ _ (stsub_swap (by assumption)) rfl)))) | (intros; omega)))
    · (try (apply wO pk; exact rfl)); (repeat' (first | exact All.nil | refine All.cons ?_ ?_ | (apply wC pk; exact rfl; exact rfl) | (apply wE pk; exact rfl; exact rfl) | (apply wX pk; exact rfl) | (apply wN pk; exact rfl) | (apply wD pk; kernel_rfl; exact rfl) | exact Imp.one | exact Imp.same | refine Imp.left ?_ | exact ImpX.one | exact ImpX.same | exact ImpX.mk | refine ImpX.up ?_ | refine ImpX.old ?_ | (refine pwp_cond rfl (fun h => ?_) (fun h => ?_) <;> (try simp at h) <;> (first | done | (exfalso; omega) | skip)) | (refine pwp_ret ?_; refine ⟨_, _, _, rfl, Wk.refl _, StSub.refl _, ?_, rfl⟩; (first | rfl | ((rcases left with _ | left) <;> simp_all [depthR, depthA, List.take_of_length_le]; done) | skip)) | (intros; omega)))

theorem deep_sub {l : Nat} {e : Ex} (h : deepR (l + 1) e = false) {i : Nat} (hi : i < e.of.length) : deepR l (e.of[i]'hi) = false := by
  simp only [deepR] at h
  cases hd : deepR l (e.of[i]'hi) with
  | false => rfl
  | true => rw [List.any_eq_true.2 ⟨_, List.getElem_mem hi, hd⟩] at h; cases h
theorem formedR_eq (e : Ex) : formedR e = (headF e.k e.n e.v e.of.length && (decide (e.k = 0) || decide (e.k = 1) || e.of.all formedR)) := by
  cases e; rw [formedR, formedRs_all]; rfl
theorem thereR_eq (m : Int) (e : Ex) : thereR m e = ((!decide (e.k = 0) || decide (e.n < m)) && e.of.all (thereR m)) := by
  cases e; rw [thereR, theresR_all]; rfl
theorem all_drop {α : Type} {l : List α} {p : α → Bool} {i : Nat} (h : i < l.length) : (l.drop i).all p = (p (l[i]'h) && (l.drop (i + 1)).all p) := by
  rw [List.drop_eq_getElem_cons h, List.all_cons]
theorem rformed_spec : ∀ (l : Nat) (e : Ex) (z : Int), z = (l : Nat) → l ≤ 1000 → deepR l e = false → e.ok → PF Try.prog 37 [.agg e.lit, (PV.val (Value.int .i64 (z)))] (PV.val (Value.bool (formedR e)))
  | 0, e, z, _, _, hd, _ => by simp [deepR] at hd
  | l + 1, e, z, hz, hl, hd, hok => by
    have hok := Ex.ok' hok
    have ih : ∀ (i : Nat) (hi : i < e.of.length) (z : Int), z = (l : Nat) → PF Try.prog 37 [.agg (e.of[i]'hi).lit, (PV.val (Value.int .i64 (z)))] (PV.val (Value.bool (formedR (e.of[i]'hi)))) := fun i hi z hz => rformed_spec l _ z hz (by omega) (deep_sub hd hi) (Ex.oks_at hok.2 hi)
    rw [formedR_eq]
    refine pf_of tt_ok Try.func37 (by kernel_rfl) rfl rfl rfl rfl (fun st => ?_)
    (apply wO pk; exact rfl; exact All.nil; exact All.nil)
    refine pwp_cond rfl (fun h0 => ?_) (fun h0 => ?_)
    · (try (apply wO pk; exact rfl)); (repeat' (first | exact All.nil | refine All.cons ?_ ?_ | (apply wC pk; exact rfl; exact rfl) | (apply wE pk; exact rfl; exact rfl) | (apply wX pk; exact rfl) | (apply wN pk; exact rfl) | (apply wD pk; kernel_rfl; exact rfl) | exact Imp.one | exact Imp.same | refine Imp.left ?_ | exact ImpX.one | exact ImpX.same | exact ImpX.mk | refine ImpX.up ?_ | refine ImpX.old ?_ | (refine pwp_cond rfl (fun h => ?_) (fun h => ?_) <;> (try simp at h) <;> (first | done | (exfalso; omega) | skip)) | (refine pwp_ret ?_; refine ⟨_, _, _, rfl, Wk.refl _, StSub.refl _, ?_, rfl⟩; (first | rfl | (simp_all [headF, vz]; done) | skip)) | (intros; omega)))
    apply wC pk; exact rfl; exact rfl; exact All.nil; exact All.nil
    refine pwp_cond rfl (fun h1 => ?_) (fun h1 => ?_)
    · simp at h0 h1
      (try (apply wO pk; exact rfl)); (repeat' (first | exact All.nil | refine All.cons ?_ ?_ | (apply wC pk; exact rfl; exact rfl) | (apply wE pk; exact rfl; exact rfl) | (apply wX pk; exact rfl) | (apply wN pk; exact rfl) | (apply wD pk; kernel_rfl; exact rfl) | exact Imp.one | exact Imp.same | refine Imp.left ?_ | exact ImpX.one | exact ImpX.same | exact ImpX.mk | refine ImpX.up ?_ | refine ImpX.old ?_ | (refine pwp_cond rfl (fun h => ?_) (fun h => ?_) <;> (try simp at h) <;> (first | done | (exfalso; omega) | skip)) | (refine pwp_ret ?_; refine ⟨_, _, _, rfl, Wk.refl _, StSub.refl _, ?_, rfl⟩; (first | rfl | (simp_all [headF, vz]; grind; done) | skip)) | (apply callS; exact rfl; exact rfl; exact rfl; (intro _; first | (apply rvalue_spec <;> first | assumption | omega)); rotate_left; exact rfl) | (apply callV; exact rfl; exact rfl; exact rfl; (intro _; first | (apply rvalue_spec <;> first | assumption | omega)); rotate_left; exact rfl) | (intros; omega)))
    simp at h0 h1
    by_cases hk : 2 ≤ e.k ∧ e.k ≤ 10
    case neg => (try (apply wO pk; exact rfl)); (repeat' (first | exact All.nil | refine All.cons ?_ ?_ | (apply wC pk; exact rfl; exact rfl) | (apply wE pk; exact rfl; exact rfl) | (apply wX pk; exact rfl) | (apply wN pk; exact rfl) | (apply wD pk; kernel_rfl; exact rfl) | exact Imp.one | exact Imp.same | refine Imp.left ?_ | exact ImpX.one | exact ImpX.same | exact ImpX.mk | refine ImpX.up ?_ | refine ImpX.old ?_ | (refine pwp_cond rfl (fun h => ?_) (fun h => ?_) <;> (try simp at h) <;> (first | done | (exfalso; omega) | skip)) | (refine pwp_ret ?_; refine ⟨_, _, _, rfl, Wk.refl _, StSub.refl _, ?_, rfl⟩; (first | rfl | (simp_all [headF]; omega; done) | skip)) | (intros; omega)))
    refine joinB 0 ((((St.nil 93 st).pv 1 ((PV.val (Value.int .i64 (z))))).var 2 26 (e.lit)).pv 5 ((PV.val (Value.int .i64 (manyK e.k))))) rfl ?_ ?_
    · (try (apply wO pk; exact rfl)); (repeat' (first | exact All.nil | refine All.cons ?_ ?_ | (apply wC pk; exact rfl; exact rfl) | (apply wE pk; exact rfl; exact rfl) | (apply wX pk; exact rfl) | (apply wN pk; exact rfl) | (apply wD pk; kernel_rfl; exact rfl) | exact Imp.one | exact Imp.same | refine Imp.left ?_ | exact ImpX.one | exact ImpX.same | exact ImpX.mk | refine ImpX.up ?_ | refine ImpX.old ?_ | (refine pwp_cond rfl (fun h => ?_) (fun h => ?_) <;> (try simp at h) <;> (first | done | (exfalso; omega) | skip)) | (refine pwp_ret ?_; refine ⟨_, _, _, rfl, Wk.refl _, StSub.refl _, ?_, rfl⟩; (first | rfl | (simp_all [headF]; omega; done) | skip)) | (first | exact Sub.nil _ _ _ (StSub.refl _) rfl | ((repeat (first | refine Sub.pv ?_ rfl | refine Sub.var ?_ rfl rfl | refine Sub.pv' ?_ rfl (by simp_all [manyK]) | refine Sub.var' ?_ rfl rfl (by simp_all [manyK]))); (first | exact Sub.nil _ _ _ (StSub.refl _) rfl | exact Sub.nil _ _ _ (stsub_swap (by assumption)) rfl))) | (intros; omega)))
    (try (apply wO pk; exact rfl)); (repeat' (first | exact All.nil | refine All.cons ?_ ?_ | (apply wC pk; exact rfl; exact rfl) | (apply wE pk; exact rfl; exact rfl) | (apply wX pk; exact rfl) | (apply wN pk; exact rfl) | (apply wD pk; kernel_rfl; exact rfl) | exact Imp.one | exact Imp.same | refine Imp.left ?_ | exact ImpX.one | exact ImpX.same | exact ImpX.mk | refine ImpX.up ?_ | refine ImpX.old ?_ | (refine pwp_cond rfl (fun h => ?_) (fun h => ?_) <;> (try simp at h) <;> (first | done | (exfalso; omega) | skip)) | (refine pwp_ret ?_; refine ⟨_, _, _, rfl, Wk.refl _, StSub.refl _, ?_, rfl⟩; (first | rfl | skip)) | (intros; omega)))
    · simp only [headF, if_neg h0, if_neg h1]; simp_all [vz, deepR]; grind
    refine pwp_loop (X := { i : Nat // i ≤ e.of.length ∧ e.of.all formedR = (e.of.drop i).all formedR }) (fun i => ((((St.nil 93 st).pv 1 ((PV.val (Value.int .i64 (z))))).var 2 26 (e.lit)).pv 7 ((PV.val (Value.int .i64 ((i.1 : Nat))))))) (fun i => e.of.length - i.1) ⟨0, by omega, by simp⟩ ?_ (fun i => ?_)
    · (first | exact Sub.nil _ _ _ (StSub.refl _) rfl | ((repeat (first | refine Sub.pv ?_ rfl | refine Sub.var ?_ rfl rfl)); (first | exact Sub.nil _ _ _ (StSub.refl _) rfl | exact Sub.nil _ _ _ (stsub_swap (by assumption)) rfl)))
    obtain ⟨i, hi, hall⟩ := i
    dsimp only
    rcases Nat.lt_or_ge i e.of.length with hlt | hlt
    · rw [all_drop hlt] at hall
      have ih := fun z => ih i hlt z
      (try (apply wO pk; exact rfl)); (repeat' (first | exact All.nil | refine All.cons ?_ ?_ | (apply wC pk; exact rfl; exact rfl) | (apply wE pk; exact rfl; exact rfl) | (apply wX pk; exact rfl) | (apply wN pk; exact rfl) | (apply wD pk; kernel_rfl; exact rfl) | exact Imp.one | exact Imp.same | refine Imp.left ?_ | exact ImpX.one | exact ImpX.same | exact ImpX.mk | refine ImpX.up ?_ | refine ImpX.old ?_ | (refine pwp_cond rfl (fun h => ?_) (fun h => ?_) <;> (try simp at h) <;> (first | done | (exfalso; omega) | skip)) | (refine pwp_ret ?_; refine ⟨_, _, _, rfl, Wk.refl _, StSub.refl _, ?_, rfl⟩; (first | rfl | (simp_all [headF, manyK]; done) | skip)) | (apply callS; exact rfl; exact rfl; exact rfl; (intro _; first | (apply ih <;> first | assumption | omega)); rotate_left; exact rfl) | (apply callV; exact rfl; exact rfl; exact rfl; (intro _; first | (apply ih <;> first | assumption | omega)); rotate_left; exact rfl) | (apply idxS pk; exact rfl; exact rfl; exact rfl; exact rfl; exact rfl; exact rfl; rotate_left; exact rfl; (intro _; exact rfl); (intro _; apply Ex.rows_at <;> omega); (intro _; exact rfl)) | (refine ⟨⟨i + 1, by omega, by simp_all⟩, ?_, by simp only; omega⟩; (first | exact Sub.nil _ _ _ (StSub.refl _) rfl | ((repeat (first | refine Sub.pv ?_ rfl | refine Sub.var ?_ rfl rfl)); (first | exact Sub.nil _ _ _ (StSub.refl _) rfl | exact Sub.nil _ _ _ (stsub_swap (by assumption)) rfl)))) | (intros; omega)))
    · (try (apply wO pk; exact rfl)); (repeat' (first | exact All.nil | refine All.cons ?_ ?_ | (apply wC pk; exact rfl; exact rfl) | (apply wE pk; exact rfl; exact rfl) | (apply wX pk; exact rfl) | (apply wN pk; exact rfl) | (apply wD pk; kernel_rfl; exact rfl) | exact Imp.one | exact Imp.same | refine Imp.left ?_ | exact ImpX.one | exact ImpX.same | exact ImpX.mk | refine ImpX.up ?_ | refine ImpX.old ?_ | (refine pwp_cond rfl (fun h => ?_) (fun h => ?_) <;> (try simp at h) <;> (first | done | (exfalso; omega) | skip)) | (refine pwp_ret ?_; refine ⟨_, _, _, rfl, Wk.refl _, StSub.refl _, ?_, rfl⟩; (first | rfl | (simp_all [headF, manyK, vz, List.drop_eq_nil_of_le]; done) | skip)) | (intros; omega)))
theorem rcolumns_spec (m : Int) : ∀ (l : Nat) (e : Ex) (z : Int), z = (l : Nat) → l ≤ 1000 → deepR l e = false → e.ok → PF Try.prog 29 [.agg e.lit, (PV.val (Value.int .i64 (m))), (PV.val (Value.int .i64 (z)))] (PV.val (Value.bool (thereR m e)))
  | 0, e, z, _, _, hd, _ => by simp [deepR] at hd
  | l + 1, e, z, hz, hl, hd, hok => by
    have hok := Ex.ok' hok
    have ih : ∀ (i : Nat) (hi : i < e.of.length) (z : Int), z = (l : Nat) → PF Try.prog 29 [.agg (e.of[i]'hi).lit, (PV.val (Value.int .i64 (m))), (PV.val (Value.int .i64 (z)))] (PV.val (Value.bool (thereR m (e.of[i]'hi)))) := fun i hi z hz => rcolumns_spec m l _ z hz (by omega) (deep_sub hd hi) (Ex.oks_at hok.2 hi)
    rw [thereR_eq]
    refine pf_of tt_ok Try.func29 (by kernel_rfl) rfl rfl rfl rfl (fun st => ?_)
    (try (apply wO pk; exact rfl)); (repeat' (first | exact All.nil | refine All.cons ?_ ?_ | (apply wC pk; exact rfl; exact rfl) | (apply wE pk; exact rfl; exact rfl) | (apply wX pk; exact rfl) | (apply wN pk; exact rfl) | (apply wD pk; kernel_rfl; exact rfl) | exact Imp.one | exact Imp.same | refine Imp.left ?_ | exact ImpX.one | exact ImpX.same | exact ImpX.mk | refine ImpX.up ?_ | refine ImpX.old ?_ | (refine pwp_cond rfl (fun h => ?_) (fun h => ?_) <;> (try simp at h) <;> (first | done | (exfalso; omega) | skip)) | (refine pwp_ret ?_; refine ⟨_, _, _, rfl, Wk.refl _, StSub.refl _, ?_, rfl⟩; (first | rfl | (simp_all; omega; done) | skip)) | (intros; omega)))
    refine pwp_loop (X := { i : Nat // i ≤ e.of.length ∧ e.of.all (thereR m) = (e.of.drop i).all (thereR m) }) (fun i => (((((St.nil 40 st).pv 1 ((PV.val (Value.int .i64 (m))))).pv 2 ((PV.val (Value.int .i64 (z))))).var 3 26 (e.lit)).pv 7 ((PV.val (Value.int .i64 ((i.1 : Nat))))))) (fun i => e.of.length - i.1) ⟨0, by omega, by simp⟩ ?_ (fun i => ?_)
    · (first | exact Sub.nil _ _ _ (StSub.refl _) rfl | ((repeat (first | refine Sub.pv ?_ rfl | refine Sub.var ?_ rfl rfl)); (first | exact Sub.nil _ _ _ (StSub.refl _) rfl | exact Sub.nil _ _ _ (stsub_swap (by assumption)) rfl)))
    obtain ⟨i, hi, hall⟩ := i
    dsimp only
    rcases Nat.lt_or_ge i e.of.length with hlt | hlt
    · rw [all_drop hlt] at hall
      have ih := fun z => ih i hlt z
      (try (apply wO pk; exact rfl)); (repeat' (first | exact All.nil | refine All.cons ?_ ?_ | (apply wC pk; exact rfl; exact rfl) | (apply wE pk; exact rfl; exact rfl) | (apply wX pk; exact rfl) | (apply wN pk; exact rfl) | (apply wD pk; kernel_rfl; exact rfl) | exact Imp.one | exact Imp.same | refine Imp.left ?_ | exact ImpX.one | exact ImpX.same | exact ImpX.mk | refine ImpX.up ?_ | refine ImpX.old ?_ | (refine pwp_cond rfl (fun h => ?_) (fun h => ?_) <;> (try simp at h) <;> (first | done | (exfalso; omega) | skip)) | (refine pwp_ret ?_; refine ⟨_, _, _, rfl, Wk.refl _, StSub.refl _, ?_, rfl⟩; (first | rfl | (simp_all; done) | skip)) | (apply callS; exact rfl; exact rfl; exact rfl; (intro _; first | (apply ih <;> first | assumption | omega)); rotate_left; exact rfl) | (apply callV; exact rfl; exact rfl; exact rfl; (intro _; first | (apply ih <;> first | assumption | omega)); rotate_left; exact rfl) | (apply idxS pk; exact rfl; exact rfl; exact rfl; exact rfl; exact rfl; exact rfl; rotate_left; exact rfl; (intro _; exact rfl); (intro _; apply Ex.rows_at <;> omega); (intro _; exact rfl)) | (refine ⟨⟨i + 1, by omega, by simp_all⟩, ?_, by simp only; omega⟩; (first | exact Sub.nil _ _ _ (StSub.refl _) rfl | ((repeat (first | refine Sub.pv ?_ rfl | refine Sub.var ?_ rfl rfl)); (first | exact Sub.nil _ _ _ (StSub.refl _) rfl | exact Sub.nil _ _ _ (stsub_swap (by assumption)) rfl)))) | (intros; omega)))
    · (try (apply wO pk; exact rfl)); (repeat' (first | exact All.nil | refine All.cons ?_ ?_ | (apply wC pk; exact rfl; exact rfl) | (apply wE pk; exact rfl; exact rfl) | (apply wX pk; exact rfl) | (apply wN pk; exact rfl) | (apply wD pk; kernel_rfl; exact rfl) | exact Imp.one | exact Imp.same | refine Imp.left ?_ | exact ImpX.one | exact ImpX.same | exact ImpX.mk | refine ImpX.up ?_ | refine ImpX.old ?_ | (refine pwp_cond rfl (fun h => ?_) (fun h => ?_) <;> (try simp at h) <;> (first | done | (exfalso; omega) | skip)) | (refine pwp_ret ?_; refine ⟨_, _, _, rfl, Wk.refl _, StSub.refl _, ?_, rfl⟩; (first | rfl | (simp_all [List.drop_eq_nil_of_le]; omega; done) | skip)) | (intros; omega)))
theorem rmay_spec {e : Ex} (hok : e.ok) : PF Try.prog 28 [.agg e.lit] (PV.val (Value.int .i64 (mayR e))) := by
  have h1 := Depth_spec 20 e 20 rfl (by omega) hok
  have h2 := rformed_spec 20 e 20 rfl (by omega)
  have h3 := depth_deep 20 e
  have h4 := depthR_le 20 e
  rcases hd : deepR 20 e with _ | _ <;> rw [hd] at h3 <;> simp at h3
  · have h2 := h2 hd hok
    refine pf_of tt_ok Try.func28 (by kernel_rfl) rfl rfl rfl rfl (fun st => ?_)
    (try (apply wO pk; exact rfl)); (repeat' (first | exact All.nil | refine All.cons ?_ ?_ | (apply wC pk; exact rfl; exact rfl) | (apply wE pk; exact rfl; exact rfl) | (apply wX pk; exact rfl) | (apply wN pk; exact rfl) | (apply wD pk; kernel_rfl; exact rfl) | exact Imp.one | exact Imp.same | refine Imp.left ?_ | exact ImpX.one | exact ImpX.same | exact ImpX.mk | refine ImpX.up ?_ | refine ImpX.old ?_ | (refine pwp_cond rfl (fun h => ?_) (fun h => ?_) <;> (try simp at h) <;> (first | done | (exfalso; omega) | skip)) | (refine pwp_ret ?_; refine ⟨_, _, _, rfl, Wk.refl _, StSub.refl _, ?_, rfl⟩; (first | rfl | (simp_all [mayR]; (try omega); done) | skip)) | (apply callS; exact rfl; exact rfl; exact rfl; (intro _; first | (apply h1 <;> first | assumption | omega) | (apply h2 <;> first | assumption | omega)); rotate_left; exact rfl) | (apply callV; exact rfl; exact rfl; exact rfl; (intro _; first | (apply h1 <;> first | assumption | omega) | (apply h2 <;> first | assumption | omega)); rotate_left; exact rfl) | (intros; omega)))
  · refine pf_of tt_ok Try.func28 (by kernel_rfl) rfl rfl rfl rfl (fun st => ?_)
    (try (apply wO pk; exact rfl)); (repeat' (first | exact All.nil | refine All.cons ?_ ?_ | (apply wC pk; exact rfl; exact rfl) | (apply wE pk; exact rfl; exact rfl) | (apply wX pk; exact rfl) | (apply wN pk; exact rfl) | (apply wD pk; kernel_rfl; exact rfl) | exact Imp.one | exact Imp.same | refine Imp.left ?_ | exact ImpX.one | exact ImpX.same | exact ImpX.mk | refine ImpX.up ?_ | refine ImpX.old ?_ | (refine pwp_cond rfl (fun h => ?_) (fun h => ?_) <;> (try simp at h) <;> (first | done | (exfalso; omega) | skip)) | (refine pwp_ret ?_; refine ⟨_, _, _, rfl, Wk.refl _, StSub.refl _, ?_, rfl⟩; (first | rfl | (simp_all [mayR]; (try omega); done) | skip)) | (apply callS; exact rfl; exact rfl; exact rfl; (intro _; first | (apply h1 <;> first | assumption | omega)); rotate_left; exact rfl) | (apply callV; exact rfl; exact rfl; exact rfl; (intro _; first | (apply h1 <;> first | assumption | omega)); rotate_left; exact rfl) | (intros; omega)))

def typed2 (k : Int) (n : Nat) (a c : Int × Int) : Int × Int := if a.2 ≠ 0 then (0, a.2) else if n > 1 then (if c.2 ≠ 0 then (0, c.2) else if getsR k a.1 c.1 then (1, 0) else (0, 6)) else if getsR k a.1 0 then (1, 0) else (0, 6)
theorem typedR_eq {l : List Int} {e : Ex} (hf : formedR e = true) (h0 : ¬ e.k = 0) (h1 : ¬ e.k = 1) (h : 0 < e.of.length) (d : Int × Int) : typedR l e = typed2 e.k e.of.length (typedR l (e.of[0]'h)) (if h' : 1 < e.of.length then typedR l (e.of[1]'(h')) else d) := by
  obtain ⟨k, n, v, of⟩ := e
  rw [formedR_eq] at hf
  simp only [Ex.k, Ex.n, Ex.v, Ex.of] at *
  have hl : of.length = (manyK k).toNat ∧ 2 ≤ k ∧ k ≤ 10 := by simp_all [headF]; omega
  rcases of with _ | ⟨x, _ | ⟨y, _ | ⟨w, of⟩⟩⟩
  · exact absurd h (Nat.lt_irrefl _)
  · have hk : k = 9 ∨ k = 10 := by simp [manyK] at hl; omega
    simp only [typedR, typedRs, if_neg h0, if_neg h1, typed2]
    by_cases hx : (typedR l x).2 = 0 <;> simp [hx, togR, getsR, numsK] <;> rcases hk with rfl | rfl <;> simp <;> grind
  · have hk : k = 2 ∨ k = 3 ∨ k = 4 ∨ k = 5 ∨ k = 6 ∨ k = 7 ∨ k = 8 := by simp [manyK] at hl; omega
    show typedR l (.mk k n v [x, y]) = typed2 k 2 (typedR l x) (typedR l y)
    clear hf h hl
    simp only [typedR, typedRs, if_neg h0, if_neg h1, typed2]
    generalize typedR l x = a
    generalize typedR l y = c
    obtain ⟨a, a'⟩ := a
    obtain ⟨c, c'⟩ := c
    by_cases hx : a' = 0 <;> by_cases hy : c' = 0 <;> simp [hx, hy]
    have h3 : togR (numsK k) 0 [a, c] = getsR k a c := by
      rw [Bool.eq_iff_iff]
      simp only [togR, getsR, numsK]
      rcases hk with rfl | rfl | rfl | rfl | rfl | rfl | rfl <;> simp <;> by_cases ha : a = 0 <;> simp [ha] <;> omega
    rw [h3]
  · simp [manyK] at hl; split at hl <;> omega
theorem typedR_col {l : List Int} {e : Ex} (h : e.k = 0) : typedR l e = (l.getD e.n.toNat 0, 0) := by
  cases e; simp only [Ex.k] at h; rw [typedR, if_pos h]; rfl
theorem typedR_lit {l : List Int} {e : Ex} (h0 : ¬ e.k = 0) (h : e.k = 1) : typedR l e = (e.v.k, 0) := by
  cases e; simp only [Ex.k] at h h0; rw [typedR, if_neg h0, if_pos h]; rfl
theorem irows_at {l : List Int} {i : Nat} (h : i < l.length) : (irows l)[i]? = some [(PV.val (Value.int .i64 (l[i]'h)))] := irows_get (by simp [h])
theorem vrows_at {l : List Vl} {i : Nat} (h : i < l.length) : (vrows l)[i]? = some (l[i]'h).cells := by simp [vrows, h]
theorem rtyped_spec (t : List Int) : ∀ (l : Nat) (e : Ex) (z : Int), z = (l : Nat) → l ≤ 1000 → deepR l e = false → formedR e = true → thereR t.length e = true → e.ok → PF Try.prog 30 [.agg e.lit, .seq (irows t), (PV.val (Value.int .i64 (z)))] (.tup [(PV.val (Value.int .i64 ((typedR t e).1))), (PV.val (Value.int .i64 ((typedR t e).2)))])
  | 0, e, z, _, _, hd, _, _, _ => by simp [deepR] at hd
  | l + 1, e, z, hz, hl, hd, hf, ht, hok => by
    have hok := Ex.ok' hok
    have hf' := hf
    have ht' := ht
    rw [formedR_eq] at hf'
    rw [thereR_eq] at ht'
    have ih : ∀ (i : Nat) (hi : i < e.of.length) (z : Int), z = (l : Nat) → ¬ e.k = 0 → ¬ e.k = 1 → PF Try.prog 30 [.agg (e.of[i]'hi).lit, .seq (irows t), (PV.val (Value.int .i64 (z)))] (.tup [(PV.val (Value.int .i64 ((typedR t (e.of[i]'hi)).1))), (PV.val (Value.int .i64 ((typedR t (e.of[i]'hi)).2)))]) := fun i hi z hz h0 h1 => rtyped_spec t l _ z hz (by omega) (deep_sub hd hi) (by simp_all) (by simp_all) (Ex.oks_at hok.2 hi)
    refine pf_of tt_ok Try.func30 (by kernel_rfl) rfl rfl rfl rfl (fun st => ?_)
    by_cases h0 : e.k = 0
    · have h2 : 0 ≤ e.n ∧ e.n < t.length := by simp_all [headF]
      rw [typedR_col h0]
      (try (apply wO pk; exact rfl)); (repeat' (first | exact All.nil | refine All.cons ?_ ?_ | (apply wC pk; exact rfl; exact rfl) | (apply wE pk; exact rfl; exact rfl) | (apply wX pk; exact rfl) | (apply wN pk; exact rfl) | (apply wD pk; kernel_rfl; exact rfl) | exact Imp.one | exact Imp.same | refine Imp.left ?_ | exact ImpX.one | exact ImpX.same | exact ImpX.mk | refine ImpX.up ?_ | refine ImpX.old ?_ | (refine pwp_cond rfl (fun h => ?_) (fun h => ?_) <;> (try simp at h) <;> (first | done | (exfalso; omega) | skip)) | (refine pwp_ret ?_; refine ⟨_, _, _, rfl, Wk.refl _, StSub.refl _, ?_, rfl⟩; (first | rfl | (simp_all [List.getD, show e.n.toNat < t.length from by omega]; done) | skip)) | (apply idxS pk; exact rfl; exact rfl; exact rfl; exact rfl; exact rfl; exact rfl; rotate_left; exact rfl; (intro _; exact (Int.toNat_of_nonneg (by omega)).symm); (intro _; apply irows_at <;> omega); (intro _; exact rfl)) | (intros; omega)))
    by_cases h1 : e.k = 1
    · rw [typedR_lit h0 h1]
      (try (apply wO pk; exact rfl)); (repeat' (first | exact All.nil | refine All.cons ?_ ?_ | (apply wC pk; exact rfl; exact rfl) | (apply wE pk; exact rfl; exact rfl) | (apply wX pk; exact rfl) | (apply wN pk; exact rfl) | (apply wD pk; kernel_rfl; exact rfl) | exact Imp.one | exact Imp.same | refine Imp.left ?_ | exact ImpX.one | exact ImpX.same | exact ImpX.mk | refine ImpX.up ?_ | refine ImpX.old ?_ | (refine pwp_cond rfl (fun h => ?_) (fun h => ?_) <;> (try simp at h) <;> (first | done | (exfalso; omega) | skip)) | (refine pwp_ret ?_; refine ⟨_, _, _, rfl, Wk.refl _, StSub.refl _, ?_, rfl⟩; (first | rfl | (simp_all; done) | skip)) | (intros; omega)))
    have h2 : e.of.length = (manyK e.k).toNat := by simp_all [headF]; omega
    have h2' : e.of.length = 1 ∨ e.of.length = 2 := by simp only [h2, manyK]; split <;> simp
    clear h2
    rcases h2' with h2' | h2'
    · rw [typedR_eq hf h0 h1 (by omega) (0, 0), dif_neg (by omega)]
      simp only [typed2, h2']
      have ih := fun z hz => ih 0 (by omega) z hz h0 h1
      (try (apply wO pk; exact rfl)); (repeat' (first | exact All.nil | refine All.cons ?_ ?_ | (apply wC pk; exact rfl; exact rfl) | (apply wE pk; exact rfl; exact rfl) | (apply wX pk; exact rfl) | (apply wN pk; exact rfl) | (apply wD pk; kernel_rfl; exact rfl) | exact Imp.one | exact Imp.same | refine Imp.left ?_ | exact ImpX.one | exact ImpX.same | exact ImpX.mk | refine ImpX.up ?_ | refine ImpX.old ?_ | (refine pwp_cond rfl (fun h => ?_) (fun h => ?_) <;> (try simp at h) <;> (first | done | (exfalso; omega) | skip)) | (refine pwp_ret ?_; refine ⟨_, _, _, rfl, Wk.refl _, StSub.refl _, ?_, rfl⟩; (first | rfl | (simp_all; done) | skip)) | (apply callS; exact rfl; exact rfl; exact rfl; (intro _; first | (apply ih <;> first | assumption | omega) | (apply gets_spec <;> first | assumption | omega)); rotate_left; exact rfl) | (apply callV; exact rfl; exact rfl; exact rfl; (intro _; first | (apply ih <;> first | assumption | omega) | (apply gets_spec <;> first | assumption | omega)); rotate_left; exact rfl) | (apply idxS pk; exact rfl; exact rfl; exact rfl; exact rfl; exact rfl; exact rfl; rotate_left; exact rfl; (intro _; exact rfl); (intro _; apply Ex.rows_at <;> omega); (intro _; exact rfl)) | (intros; omega)))
    · rw [typedR_eq hf h0 h1 (by omega) (0, 0), dif_pos (by omega)]
      simp only [typed2, h2']
      have ih1 := fun z hz => ih 0 (by omega) z hz h0 h1
      have ih2 := fun z hz => ih 1 (by omega) z hz h0 h1
      (try (apply wO pk; exact rfl)); (repeat' (first | exact All.nil | refine All.cons ?_ ?_ | (apply wC pk; exact rfl; exact rfl) | (apply wE pk; exact rfl; exact rfl) | (apply wX pk; exact rfl) | (apply wN pk; exact rfl) | (apply wD pk; kernel_rfl; exact rfl) | exact Imp.one | exact Imp.same | refine Imp.left ?_ | exact ImpX.one | exact ImpX.same | exact ImpX.mk | refine ImpX.up ?_ | refine ImpX.old ?_ | (refine pwp_cond rfl (fun h => ?_) (fun h => ?_) <;> (try simp at h) <;> (first | done | (exfalso; omega) | skip)) | (refine pwp_ret ?_; refine ⟨_, _, _, rfl, Wk.refl _, StSub.refl _, ?_, rfl⟩; (first | rfl | (simp_all; done) | skip)) | (apply callS; exact rfl; exact rfl; exact rfl; (intro _; first | (apply ih1 <;> first | assumption | omega) | (apply ih2 <;> first | assumption | omega) | (apply gets_spec <;> first | assumption | omega)); rotate_left; exact rfl) | (apply callV; exact rfl; exact rfl; exact rfl; (intro _; first | (apply ih1 <;> first | assumption | omega) | (apply ih2 <;> first | assumption | omega) | (apply gets_spec <;> first | assumption | omega)); rotate_left; exact rfl) | (apply idxS pk; exact rfl; exact rfl; exact rfl; exact rfl; exact rfl; exact rfl; rotate_left; exact rfl; (intro _; exact rfl); (intro _; apply Ex.rows_at <;> omega); (intro _; exact rfl)) | (intros; omega)))
structure Col where
  name : ByteArray
  kind : Int
  typ : Int
  null : Bool
def Col.cells (c : Col) : List PV := [(PV.val (Value.string (c.name))), (PV.val (Value.int .i64 (c.kind))), (PV.val (Value.int .i64 (c.typ))), (PV.val (Value.bool (c.null)))]
def Col.rows (l : List Col) : List (List PV) := l.map Col.cells
theorem Col.rows_at {l : List Col} {i : Nat} (h : i < l.length) : (Col.rows l)[i]? = some (l[i]'h).cells := get_map h
theorem Col.rows_len (l : List Col) : (Col.rows l).length = l.length := by simp [Col.rows]
attribute [local simp] Col.rows_len
def shownR (c : Col) : Int := if c.kind = 0 ∨ c.kind = 1 then c.typ else if c.kind = 2 ∨ c.kind = 3 then 1 else if c.kind = 4 then 2 else 0
theorem shown_spec (c : Col) : PF Try.prog 14 [.agg c.cells] (PV.val (Value.int .i64 (shownR c))) := by
  refine pf_of tt_ok Try.func14 (by kernel_rfl) rfl rfl rfl rfl (fun st => ?_)
  (try (apply wO pk; exact rfl)); (repeat' (first | exact All.nil | refine All.cons ?_ ?_ | (apply wC pk; exact rfl; exact rfl) | (apply wE pk; exact rfl; exact rfl) | (apply wX pk; exact rfl) | (apply wN pk; exact rfl) | (apply wD pk; kernel_rfl; exact rfl) | exact Imp.one | exact Imp.same | refine Imp.left ?_ | exact ImpX.one | exact ImpX.same | exact ImpX.mk | refine ImpX.up ?_ | refine ImpX.old ?_ | (refine pwp_cond rfl (fun h => ?_) (fun h => ?_) <;> (try simp at h) <;> (first | done | (exfalso; omega) | skip)) | (refine pwp_ret ?_; refine ⟨_, _, _, rfl, Wk.refl _, StSub.refl _, ?_, rfl⟩; (first | rfl | (simp_all [shownR]; done) | skip)) | (intros; omega)))
theorem rshown_spec (c : Col) : PF Try.prog 15 [.agg c.cells] (PV.val (Value.int .i64 (shownR c))) := by
  refine pf_of tt_ok Try.func15 (by kernel_rfl) rfl rfl rfl rfl (fun st => ?_)
  (try (apply wO pk; exact rfl)); (repeat' (first | exact All.nil | refine All.cons ?_ ?_ | (apply wC pk; exact rfl; exact rfl) | (apply wE pk; exact rfl; exact rfl) | (apply wX pk; exact rfl) | (apply wN pk; exact rfl) | (apply wD pk; kernel_rfl; exact rfl) | exact Imp.one | exact Imp.same | refine Imp.left ?_ | exact ImpX.one | exact ImpX.same | exact ImpX.mk | refine ImpX.up ?_ | refine ImpX.old ?_ | (refine pwp_cond rfl (fun h => ?_) (fun h => ?_) <;> (try simp at h) <;> (first | done | (exfalso; omega) | skip)) | (refine pwp_ret ?_; refine ⟨_, _, _, rfl, Wk.refl _, StSub.refl _, ?_, rfl⟩; (first | rfl | (simp_all [shownR]; done) | skip)) | (intros; omega)))
theorem rtype_spec {e : Ex} (hok : e.ok) {l : List Int} (hl : l.length < 2 ^ 62) : PF Try.prog 16 [.agg e.lit, .seq (irows l)] (.tup [(PV.val (Value.int .i64 ((TypeR e l).1))), (PV.val (Value.int .i64 ((TypeR e l).2)))]) := by
  have h1 := rmay_spec hok
  have h2 := fun h => rcolumns_spec ((l.length : Nat) : Int) 20 e 20 rfl (by omega) h hok
  have h3 : mayR e = 0 → thereR l.length e = true → _ := fun hm ht => rtyped_spec l 20 e 20 rfl (by omega) (mayR_zero hm).1 (mayR_zero hm).2 ht hok
  rw [← irows_len] at h2
  have h4 := @mayR_zero e
  by_cases hm : mayR e = 0
  · have h2 := h2 (h4 hm).1
    have h3 := h3 hm
    refine pf_of tt_ok Try.func16 (by kernel_rfl) rfl rfl rfl rfl (fun st => ?_)
    (try (apply wO pk; exact rfl)); (repeat' (first | exact All.nil | refine All.cons ?_ ?_ | (apply wC pk; exact rfl; exact rfl) | (apply wE pk; exact rfl; exact rfl) | (apply wX pk; exact rfl) | (apply wN pk; exact rfl) | (apply wD pk; kernel_rfl; exact rfl) | exact Imp.one | exact Imp.same | refine Imp.left ?_ | exact ImpX.one | exact ImpX.same | exact ImpX.mk | refine ImpX.up ?_ | refine ImpX.old ?_ | (refine pwp_cond rfl (fun h => ?_) (fun h => ?_) <;> (try simp at h) <;> (first | done | (exfalso; omega) | skip)) | (refine pwp_ret ?_; refine ⟨_, _, _, rfl, Wk.refl _, StSub.refl _, ?_, rfl⟩; (first | rfl | (simp_all [TypeR]; done) | skip)) | (apply callS; exact rfl; exact rfl; exact rfl; (intro _; first | (apply h1 <;> first | assumption | omega) | (apply h2 <;> first | assumption | omega) | (apply h3 <;> first | assumption | omega)); rotate_left; exact rfl) | (apply callV; exact rfl; exact rfl; exact rfl; (intro _; first | (apply h1 <;> first | assumption | omega) | (apply h2 <;> first | assumption | omega) | (apply h3 <;> first | assumption | omega)); rotate_left; exact rfl) | (intros; omega)))
  · refine pf_of tt_ok Try.func16 (by kernel_rfl) rfl rfl rfl rfl (fun st => ?_)
    (try (apply wO pk; exact rfl)); (repeat' (first | exact All.nil | refine All.cons ?_ ?_ | (apply wC pk; exact rfl; exact rfl) | (apply wE pk; exact rfl; exact rfl) | (apply wX pk; exact rfl) | (apply wN pk; exact rfl) | (apply wD pk; kernel_rfl; exact rfl) | exact Imp.one | exact Imp.same | refine Imp.left ?_ | exact ImpX.one | exact ImpX.same | exact ImpX.mk | refine ImpX.up ?_ | refine ImpX.old ?_ | (refine pwp_cond rfl (fun h => ?_) (fun h => ?_) <;> (try simp at h) <;> (first | done | (exfalso; omega) | skip)) | (refine pwp_ret ?_; refine ⟨_, _, _, rfl, Wk.refl _, StSub.refl _, ?_, rfl⟩; (first | rfl | (simp_all [TypeR]; done) | skip)) | (apply callS; exact rfl; exact rfl; exact rfl; (intro _; first | (apply h1 <;> first | assumption | omega)); rotate_left; exact rfl) | (apply callV; exact rfl; exact rfl; exact rfl; (intro _; first | (apply h1 <;> first | assumption | omega)); rotate_left; exact rfl) | (intros; omega)))
theorem type_spec {e : Ex} (hok : e.ok) {l : List Int} (hl : l.length < 2 ^ 62) : PF Try.prog 8 [.agg e.lit, .seq (irows l)] (.tup [(PV.val (Value.int .i64 ((TypeR e l).1))), (PV.val (Value.int .i64 ((TypeR e l).2)))]) := by
  rw [Ex.lit_eq]; exact Type_spec hok hl
def rightE (e : Ex) (cs : List Col) : Int := if (TypeR e (cs.map shownR)).2 ≠ 0 then (TypeR e (cs.map shownR)).2 else if (TypeR e (cs.map shownR)).1 = 2 then 6 else 0
theorem bytesI : Try.prog.bytesOf 3 = 8 := by kernel_rfl
theorem rright_spec {e : Ex} (hok : e.ok) {cs : List Col} (hl : cs.length ≤ 40) : PF Try.prog 18 [.agg e.lit, .seq (Col.rows cs)] (PV.val (Value.int .i64 (rightE e cs))) := by
  have h1 := rtype_spec hok (l := cs.map shownR) (by simp; omega)
  refine pf_of tt_ok Try.func18 (by kernel_rfl) rfl rfl rfl rfl (fun st => ?_)
  (try (apply wO pk; exact rfl)); (repeat' (first | exact All.nil | refine All.cons ?_ ?_ | (apply wC pk; exact rfl; exact rfl) | (apply wE pk; exact rfl; exact rfl) | (apply wX pk; exact rfl) | (apply wN pk; exact rfl) | (apply wD pk; kernel_rfl; exact rfl) | exact Imp.one | exact Imp.same | refine Imp.left ?_ | exact ImpX.one | exact ImpX.same | exact ImpX.mk | refine ImpX.up ?_ | refine ImpX.old ?_ | (refine pwp_cond rfl (fun h => ?_) (fun h => ?_) <;> (try simp at h) <;> (first | done | (exfalso; omega) | skip)) | (refine pwp_ret ?_; refine ⟨_, _, _, rfl, Wk.refl _, StSub.refl _, ?_, rfl⟩; (first | rfl | skip)) | (intros; omega)))
  refine pwp_own 5 3 rfl rfl (fun id hid => ?_)
  refine pwp_loop (X := { x : Nat × Nat // x.1 ≤ cs.length ∧ st x.2 = none }) (fun i => (((((St.nil 34 (upd st i.1.2 (some (.tok 3)))).pv 1 (.seq (Col.rows cs))).var 2 26 (e.lit)).pv 5 (.own i.1.2 (irows ((cs.take i.1.1).map shownR)))).pv 6 ((PV.val (Value.int .i64 ((i.1.1 : Nat))))))) (fun i => cs.length - i.1.1) ⟨(0, id), by simp, hid⟩ ?_ (fun i => ?_)
  · (first | exact Sub.nil _ _ _ (StSub.refl _) rfl | ((repeat (first | refine Sub.pv ?_ rfl | refine Sub.var ?_ rfl rfl)); (first | exact Sub.nil _ _ _ (StSub.refl _) rfl | exact Sub.nil _ _ _ (stsub_swap (by assumption)) rfl)))
  obtain ⟨⟨i, id⟩, hi, hid⟩ := i
  simp only at hi hid
  dsimp only
  rcases Nat.lt_or_ge i cs.length with hlt | hlt
  · (try (apply wO pk; exact rfl)); (repeat' (first | exact All.nil | refine All.cons ?_ ?_ | (apply wC pk; exact rfl; exact rfl) | (apply wE pk; exact rfl; exact rfl) | (apply wX pk; exact rfl) | (apply wN pk; exact rfl) | (apply wD pk; kernel_rfl; exact rfl) | exact Imp.one | exact Imp.same | refine Imp.left ?_ | exact ImpX.one | exact ImpX.same | exact ImpX.mk | refine ImpX.up ?_ | refine ImpX.old ?_ | (refine pwp_cond rfl (fun h => ?_) (fun h => ?_) <;> (try simp at h) <;> (first | done | (exfalso; omega) | skip)) | (refine pwp_ret ?_; first | (refine ⟨_, _, _, rfl, Wk.refl _, StSub.refl _, ?_, rfl⟩; (first | rfl | (simp_all; done))) | (refine ⟨_, _, _, rfl, Wk.refl _, stsub_drop (by assumption), ?_, rfl⟩; (first | rfl | (simp_all; done))) | (refine ⟨_, _, _, rfl, Wk.soft _, StSub.refl _, ?_, rfl⟩; (first | rfl | (simp_all; done))) | (refine ⟨_, _, _, rfl, Wk.soft _, stsub_drop (by assumption), ?_, rfl⟩; (first | rfl | (simp_all; done))) | (refine ⟨_, _, _, rfl, Wk.refl _, StSub.refl _, ?_, rfl⟩) | (refine ⟨_, _, _, rfl, Wk.soft _, stsub_drop (by assumption), ?_, rfl⟩)) | (apply callS; exact rfl; exact rfl; exact rfl; (intro _; first | (apply rshown_spec <;> first | assumption | omega)); rotate_left; exact rfl) | (apply callV; exact rfl; exact rfl; exact rfl; (intro _; first | (apply rshown_spec <;> first | assumption | omega)); rotate_left; exact rfl) | (apply idxS pk; exact rfl; exact rfl; exact rfl; exact rfl; exact rfl; exact rfl; rotate_left; exact rfl; (intro _; exact rfl); (intro _; apply Col.rows_at <;> omega); (intro _; exact rfl)) | (refine ⟨⟨(i + 1, id'), by simp only; omega, fresh_upd hid'⟩, ?_, by simp only; omega⟩; (first | exact Sub.nil _ _ _ (StSub.refl _) rfl | ((repeat (first | refine Sub.pv ?_ rfl | refine Sub.var ?_ rfl rfl | refine Sub.pv' ?_ rfl (by rw [take_snoc shownR hlt]; rfl) | refine Sub.var' ?_ rfl rfl (by rw [take_snoc shownR hlt]; rfl))); (first | exact Sub.nil _ _ _ (StSub.refl _) rfl | exact Sub.nil _ _ _ (stsub_swap (by assumption)) rfl)))) | (apply apS pk (shownR (cs[i]'hlt)) 8; exact rfl; exact rfl; exact rfl; exact rfl; exact rfl; exact rfl; exact rfl; exact rfl; exact upd_same _ _ _; exact fun _ => rfl; exact fun _ => rfl; exact bytesI; (first | omega | (simp; omega)); (first | omega | (simp; omega)); intro id' hid') | (intros; omega)))
  · rw [List.take_of_length_le hlt]
    (try (apply wO pk; exact rfl)); (repeat' (first | exact All.nil | refine All.cons ?_ ?_ | (apply wC pk; exact rfl; exact rfl) | (apply wE pk; exact rfl; exact rfl) | (apply wX pk; exact rfl) | (apply wN pk; exact rfl) | (apply wD pk; kernel_rfl; exact rfl) | exact Imp.one | exact Imp.same | refine Imp.left ?_ | exact ImpX.one | exact ImpX.same | exact ImpX.mk | refine ImpX.up ?_ | refine ImpX.old ?_ | (refine pwp_cond rfl (fun h => ?_) (fun h => ?_) <;> (try simp at h) <;> (first | done | (exfalso; omega) | skip)) | (refine pwp_ret ?_; first | (refine ⟨_, _, _, rfl, Wk.refl _, StSub.refl _, ?_, rfl⟩; (first | rfl | (simp_all [rightE]; done))) | (refine ⟨_, _, _, rfl, Wk.refl _, stsub_drop (by assumption), ?_, rfl⟩; (first | rfl | (simp_all [rightE]; done))) | (refine ⟨_, _, _, rfl, Wk.soft _, StSub.refl _, ?_, rfl⟩; (first | rfl | (simp_all [rightE]; done))) | (refine ⟨_, _, _, rfl, Wk.soft _, stsub_drop (by assumption), ?_, rfl⟩; (first | rfl | (simp_all [rightE]; done))) | (refine ⟨_, _, _, rfl, Wk.refl _, StSub.refl _, ?_, rfl⟩) | (refine ⟨_, _, _, rfl, Wk.soft _, stsub_drop (by assumption), ?_, rfl⟩)) | (apply callS; exact rfl; exact rfl; exact rfl; (intro _; first | (apply h1 <;> first | assumption | omega)); rotate_left; exact rfl) | (apply callV; exact rfl; exact rfl; exact rfl; (intro _; first | (apply h1 <;> first | assumption | omega)); rotate_left; exact rfl) | (intros; omega)))
theorem right_spec2 {e : Ex} (hok : e.ok) {cs : List Col} (hl : cs.length ≤ 40) : PF Try.prog 17 [.agg e.lit, .seq (Col.rows cs)] (PV.val (Value.int .i64 (rightE e cs))) := by
  have h1 := type_spec hok (l := cs.map shownR) (by simp; omega)
  refine pf_of tt_ok Try.func17 (by kernel_rfl) rfl rfl rfl rfl (fun st => ?_)
  (try (apply wO pk; exact rfl)); (repeat' (first | exact All.nil | refine All.cons ?_ ?_ | (apply wC pk; exact rfl; exact rfl) | (apply wE pk; exact rfl; exact rfl) | (apply wX pk; exact rfl) | (apply wN pk; exact rfl) | (apply wD pk; kernel_rfl; exact rfl) | exact Imp.one | exact Imp.same | refine Imp.left ?_ | exact ImpX.one | exact ImpX.same | exact ImpX.mk | refine ImpX.up ?_ | refine ImpX.old ?_ | (refine pwp_cond rfl (fun h => ?_) (fun h => ?_) <;> (try simp at h) <;> (first | done | (exfalso; omega) | skip)) | (refine pwp_ret ?_; refine ⟨_, _, _, rfl, Wk.refl _, StSub.refl _, ?_, rfl⟩; (first | rfl | skip)) | (intros; omega)))
  refine pwp_own 5 3 rfl rfl (fun id hid => ?_)
  refine pwp_loop (X := { x : Nat × Nat // x.1 ≤ cs.length ∧ st x.2 = none }) (fun i => ((((((St.nil 35 (upd st i.1.2 (some (.tok 3)))).var 2 26 (e.lit)).pv 5 (.own i.1.2 (irows ((cs.take i.1.1).map shownR)))).pv 10 (.seq (Col.rows cs))).pv 11 ((PV.val (Value.int .i64 ((((Col.rows cs)).length : Nat)))))).pv 12 ((PV.val (Value.int .i64 ((i.1.1 : Nat))))))) (fun i => cs.length - i.1.1) ⟨(0, id), by simp, hid⟩ ?_ (fun i => ?_)
  · (first | exact Sub.nil _ _ _ (StSub.refl _) rfl | ((repeat (first | refine Sub.pv ?_ rfl | refine Sub.var ?_ rfl rfl)); (first | exact Sub.nil _ _ _ (StSub.refl _) rfl | exact Sub.nil _ _ _ (stsub_swap (by assumption)) rfl)))
  obtain ⟨⟨i, id⟩, hi, hid⟩ := i
  simp only at hi hid
  dsimp only
  rcases Nat.lt_or_ge i cs.length with hlt | hlt
  · (try (apply wO pk; exact rfl)); (repeat' (first | exact All.nil | refine All.cons ?_ ?_ | (apply wC pk; exact rfl; exact rfl) | (apply wE pk; exact rfl; exact rfl) | (apply wX pk; exact rfl) | (apply wN pk; exact rfl) | (apply wD pk; kernel_rfl; exact rfl) | exact Imp.one | exact Imp.same | refine Imp.left ?_ | exact ImpX.one | exact ImpX.same | exact ImpX.mk | refine ImpX.up ?_ | refine ImpX.old ?_ | (refine pwp_cond rfl (fun h => ?_) (fun h => ?_) <;> (try simp at h) <;> (first | done | (exfalso; omega) | skip)) | (refine pwp_ret ?_; first | (refine ⟨_, _, _, rfl, Wk.refl _, StSub.refl _, ?_, rfl⟩; (first | rfl | (simp_all; done))) | (refine ⟨_, _, _, rfl, Wk.refl _, stsub_drop (by assumption), ?_, rfl⟩; (first | rfl | (simp_all; done))) | (refine ⟨_, _, _, rfl, Wk.soft _, StSub.refl _, ?_, rfl⟩; (first | rfl | (simp_all; done))) | (refine ⟨_, _, _, rfl, Wk.soft _, stsub_drop (by assumption), ?_, rfl⟩; (first | rfl | (simp_all; done))) | (refine ⟨_, _, _, rfl, Wk.refl _, StSub.refl _, ?_, rfl⟩) | (refine ⟨_, _, _, rfl, Wk.soft _, stsub_drop (by assumption), ?_, rfl⟩)) | (apply callS; exact rfl; exact rfl; exact rfl; (intro _; first | (apply shown_spec <;> first | assumption | omega)); rotate_left; exact rfl) | (apply callV; exact rfl; exact rfl; exact rfl; (intro _; first | (apply shown_spec <;> first | assumption | omega)); rotate_left; exact rfl) | (apply idxS pk; exact rfl; exact rfl; exact rfl; exact rfl; exact rfl; exact rfl; rotate_left; exact rfl; (intro _; exact rfl); (intro _; apply Col.rows_at <;> omega); (intro _; exact rfl)) | (refine ⟨⟨(i + 1, id'), by simp only; omega, fresh_upd hid'⟩, ?_, by simp only; omega⟩; (first | exact Sub.nil _ _ _ (StSub.refl _) rfl | ((repeat (first | refine Sub.pv ?_ rfl | refine Sub.var ?_ rfl rfl | refine Sub.pv' ?_ rfl (by rw [take_snoc shownR hlt]; rfl) | refine Sub.var' ?_ rfl rfl (by rw [take_snoc shownR hlt]; rfl))); (first | exact Sub.nil _ _ _ (StSub.refl _) rfl | exact Sub.nil _ _ _ (stsub_swap (by assumption)) rfl)))) | (apply apS pk (shownR (cs[i]'hlt)) 8; exact rfl; exact rfl; exact rfl; exact rfl; exact rfl; exact rfl; exact rfl; exact rfl; exact upd_same _ _ _; exact fun _ => rfl; exact fun _ => rfl; exact bytesI; (first | omega | (simp; omega)); (first | omega | (simp; omega)); intro id' hid') | (intros; omega)))
  · rw [List.take_of_length_le hlt]
    (try (apply wO pk; exact rfl)); (repeat' (first | exact All.nil | refine All.cons ?_ ?_ | (apply wC pk; exact rfl; exact rfl) | (apply wE pk; exact rfl; exact rfl) | (apply wX pk; exact rfl) | (apply wN pk; exact rfl) | (apply wD pk; kernel_rfl; exact rfl) | exact Imp.one | exact Imp.same | refine Imp.left ?_ | exact ImpX.one | exact ImpX.same | exact ImpX.mk | refine ImpX.up ?_ | refine ImpX.old ?_ | (refine pwp_cond rfl (fun h => ?_) (fun h => ?_) <;> (try simp at h) <;> (first | done | (exfalso; omega) | skip)) | (refine pwp_ret ?_; first | (refine ⟨_, _, _, rfl, Wk.refl _, StSub.refl _, ?_, rfl⟩; (first | rfl | (simp_all [rightE]; (try omega); done))) | (refine ⟨_, _, _, rfl, Wk.refl _, stsub_drop (by assumption), ?_, rfl⟩; (first | rfl | (simp_all [rightE]; (try omega); done))) | (refine ⟨_, _, _, rfl, Wk.soft _, StSub.refl _, ?_, rfl⟩; (first | rfl | (simp_all [rightE]; (try omega); done))) | (refine ⟨_, _, _, rfl, Wk.soft _, stsub_drop (by assumption), ?_, rfl⟩; (first | rfl | (simp_all [rightE]; (try omega); done))) | (refine ⟨_, _, _, rfl, Wk.refl _, StSub.refl _, ?_, rfl⟩) | (refine ⟨_, _, _, rfl, Wk.soft _, stsub_drop (by assumption), ?_, rfl⟩)) | (apply callS; exact rfl; exact rfl; exact rfl; (intro _; first | (apply h1 <;> first | assumption | omega)); rotate_left; exact rfl) | (apply callV; exact rfl; exact rfl; exact rfl; (intro _; first | (apply h1 <;> first | assumption | omega)); rotate_left; exact rfl) | (intros; omega)))
theorem rfits_spec {row : List Vl} {l : List Int} (hr : row.length < 2 ^ 62) (hl : l.length < 2 ^ 62) : PF Try.prog 19 [.seq (vrows row), .seq (irows l)] (PV.val (Value.bool (fitsR row l))) := by
  refine pf_of tt_ok Try.func19 (by kernel_rfl) rfl rfl rfl rfl (fun st => ?_)
  by_cases hlen : row.length = l.length
  case neg => (try (apply wO pk; exact rfl)); (repeat' (first | exact All.nil | refine All.cons ?_ ?_ | (apply wC pk; exact rfl; exact rfl) | (apply wE pk; exact rfl; exact rfl) | (apply wX pk; exact rfl) | (apply wN pk; exact rfl) | (apply wD pk; kernel_rfl; exact rfl) | exact Imp.one | exact Imp.same | refine Imp.left ?_ | exact ImpX.one | exact ImpX.same | exact ImpX.mk | refine ImpX.up ?_ | refine ImpX.old ?_ | (refine pwp_cond rfl (fun h => ?_) (fun h => ?_) <;> (try simp at h) <;> (first | done | (exfalso; omega) | skip)) | (refine pwp_ret ?_; refine ⟨_, _, _, rfl, Wk.refl _, StSub.refl _, ?_, rfl⟩; (first | rfl | (simp_all [fitsR]; done) | skip)) | (intros; omega)))
  (try (apply wO pk; exact rfl)); (repeat' (first | exact All.nil | refine All.cons ?_ ?_ | (apply wC pk; exact rfl; exact rfl) | (apply wE pk; exact rfl; exact rfl) | (apply wX pk; exact rfl) | (apply wN pk; exact rfl) | (apply wD pk; kernel_rfl; exact rfl) | exact Imp.one | exact Imp.same | refine Imp.left ?_ | exact ImpX.one | exact ImpX.same | exact ImpX.mk | refine ImpX.up ?_ | refine ImpX.old ?_ | (refine pwp_cond rfl (fun h => ?_) (fun h => ?_) <;> (try simp at h) <;> (first | done | (exfalso; omega) | skip)) | (refine pwp_ret ?_; refine ⟨_, _, _, rfl, Wk.refl _, StSub.refl _, ?_, rfl⟩; (first | rfl | skip)) | (intros; omega)))
  refine pwp_loop (X := { i : Nat // i ≤ row.length ∧ fitsR row l = ((row.drop i).zip (l.drop i)).all fun x => fits1 x.1 x.2 }) (fun i => ((((St.nil 45 st).pv 0 (.seq (vrows row))).pv 1 (.seq (irows l))).pv 5 ((PV.val (Value.int .i64 ((i.1 : Nat))))))) (fun i => row.length - i.1) ⟨0, by simp, by simp [fitsR, hlen]⟩ ?_ (fun i => ?_)
  · (first | exact Sub.nil _ _ _ (StSub.refl _) rfl | ((repeat (first | refine Sub.pv ?_ rfl | refine Sub.var ?_ rfl rfl)); (first | exact Sub.nil _ _ _ (StSub.refl _) rfl | exact Sub.nil _ _ _ (stsub_swap (by assumption)) rfl)))
  obtain ⟨i, hi, hall⟩ := i
  dsimp only
  rcases Nat.lt_or_ge i row.length with hlt | hlt
  · have hlt2 : i < l.length := by omega
    rw [List.drop_eq_getElem_cons hlt, List.drop_eq_getElem_cons hlt2, List.zip_cons_cons, List.all_cons] at hall
    have hf : fits1 (row[i]'hlt) (l[i]'hlt2) = !((!decide ((row[i]'hlt).k = 0) && !decide ((row[i]'hlt).k = l[i]'hlt2)) || !rightV (row[i]'hlt)) := rfl
    simp only [hf] at hall
    generalize hR : (((row.drop (i + 1)).zip (l.drop (i + 1))).all fun x => fits1 x.1 x.2) = rest at hall
    (try (apply wO pk; exact rfl)); (repeat' (first | exact All.nil | refine All.cons ?_ ?_ | (apply wC pk; exact rfl; exact rfl) | (apply wE pk; exact rfl; exact rfl) | (apply wX pk; exact rfl) | (apply wN pk; exact rfl) | (apply wD pk; kernel_rfl; exact rfl) | exact Imp.one | exact Imp.same | refine Imp.left ?_ | exact ImpX.one | exact ImpX.same | exact ImpX.mk | refine ImpX.up ?_ | refine ImpX.old ?_ | (refine pwp_cond rfl (fun h => ?_) (fun h => ?_) <;> (try simp at h) <;> (first | done | (exfalso; omega) | skip)) | (refine pwp_ret ?_; refine ⟨_, _, _, rfl, Wk.refl _, StSub.refl _, ?_, rfl⟩; (first | rfl | (simp_all; grind; done) | skip)) | (apply callS; exact rfl; exact rfl; exact rfl; (intro _; first | (apply rvalue_spec <;> first | assumption | omega)); rotate_left; exact rfl) | (apply callV; exact rfl; exact rfl; exact rfl; (intro _; first | (apply rvalue_spec <;> first | assumption | omega)); rotate_left; exact rfl) | (apply idxS pk; exact rfl; exact rfl; exact rfl; exact rfl; exact rfl; exact rfl; rotate_left; exact rfl; (intro _; exact rfl); (intro _; apply vrows_at <;> omega); (intro _; exact rfl)) | (apply idxS pk; exact rfl; exact rfl; exact rfl; exact rfl; exact rfl; exact rfl; rotate_left; exact rfl; (intro _; exact rfl); (intro _; apply irows_at <;> omega); (intro _; exact rfl)) | (refine ⟨⟨i + 1, by omega, by rw [hall, hR]; clear hR hall; simp_all; (try grind)⟩, ?_, by simp only; omega⟩; (first | exact Sub.nil _ _ _ (StSub.refl _) rfl | ((repeat (first | refine Sub.pv ?_ rfl | refine Sub.var ?_ rfl rfl)); (first | exact Sub.nil _ _ _ (StSub.refl _) rfl | exact Sub.nil _ _ _ (stsub_swap (by assumption)) rfl)))) | (intros; omega)))
  · (try (apply wO pk; exact rfl)); (repeat' (first | exact All.nil | refine All.cons ?_ ?_ | (apply wC pk; exact rfl; exact rfl) | (apply wE pk; exact rfl; exact rfl) | (apply wX pk; exact rfl) | (apply wN pk; exact rfl) | (apply wD pk; kernel_rfl; exact rfl) | exact Imp.one | exact Imp.same | refine Imp.left ?_ | exact ImpX.one | exact ImpX.same | exact ImpX.mk | refine ImpX.up ?_ | refine ImpX.old ?_ | (refine pwp_cond rfl (fun h => ?_) (fun h => ?_) <;> (try simp at h) <;> (first | done | (exfalso; omega) | skip)) | (refine pwp_ret ?_; refine ⟨_, _, _, rfl, Wk.refl _, StSub.refl _, ?_, rfl⟩; (first | rfl | (simp_all [List.drop_eq_nil_of_le]; done) | skip)) | (intros; omega)))
def kindsOK (l : List Int) : Bool := l.all fun k => decide (0 ≤ k) && decide (k ≤ 2)
theorem types_spec (e : Ex) (l : List Int) (cs : List Col) (row : List Vl) : PF Try.prog 5 [.agg e.lit, .seq (irows l), .seq (Col.rows cs), .seq (vrows row)] (PV.val (Value.bool (true))) := by
  refine pf_lens (by kernel_rfl) (fun hlens => ?_)
  simp only [lensL, lens] at hlens
  have hok : e.ok := Ex.ok_of e (by rw [← Ex.lit_eq]; exact hlens.1)
  have a1 := Few_spec hok
  rw [← Ex.lit_eq] at a1
  have hl1 : l.length < 2 ^ 62 := by simpa using hlens.2.1.1
  have hr1 : row.length < 2 ^ 62 := by simpa using hlens.2.2.2.1.1
  have hc1 : cs.length < 2 ^ 62 := by simpa using hlens.2.2.1.1
  have b1 := type_spec hok hl1
  have b2 := rtype_spec hok hl1
  have b3 := @right_spec2 e hok cs
  have b4 := @rright_spec e hok cs
  have b5 := Fits_spec hr1 hl1
  have b6 := rfits_spec hr1 hl1
  refine pf_of tt_ok Try.func5 (by kernel_rfl) rfl rfl rfl rfl (fun st => ?_)
  (try (apply wO pk; exact rfl)); (repeat' (first | exact All.nil | refine All.cons ?_ ?_ | (apply wC pk; exact rfl; exact rfl) | (apply wE pk; exact rfl; exact rfl) | (apply wX pk; exact rfl) | (apply wN pk; exact rfl) | (apply wD pk; kernel_rfl; exact rfl) | exact Imp.one | exact Imp.same | refine Imp.left ?_ | exact ImpX.one | exact ImpX.same | exact ImpX.mk | refine ImpX.up ?_ | refine ImpX.old ?_ | (refine pwp_cond rfl (fun h => ?_) (fun h => ?_) <;> (try simp at h) <;> (first | done | (exfalso; omega) | skip)) | (refine pwp_ret ?_; refine ⟨_, _, _, rfl, Wk.refl _, StSub.refl _, ?_, rfl⟩; (first | rfl | skip)) | (apply callS; exact rfl; exact rfl; exact rfl; (intro _; first | (apply awake_spec <;> first | assumption | omega) | (apply a1 <;> first | assumption | omega)); rotate_left; exact rfl) | (apply callV; exact rfl; exact rfl; exact rfl; (intro _; first | (apply awake_spec <;> first | assumption | omega) | (apply a1 <;> first | assumption | omega)); rotate_left; exact rfl) | (intros; omega)))
  refine pwp_loop (X := { i : Nat // i ≤ l.length }) (fun i => (((((((St.nil 130 st).pv 1 (.seq (irows l))).pv 2 (.seq (Col.rows cs))).pv 3 (.seq (vrows row))).var 4 26 (e.lit)).pv 9 ((PV.val (Value.bool (true))))).pv 11 ((PV.val (Value.int .i64 ((i.1 : Nat))))))) (fun i => l.length - i.1) ⟨0, by simp⟩ ?_ (fun i => ?_)
  · (first | exact Sub.nil _ _ _ (StSub.refl _) rfl | ((repeat (first | refine Sub.pv ?_ rfl | refine Sub.var ?_ rfl rfl)); (first | exact Sub.nil _ _ _ (StSub.refl _) rfl | exact Sub.nil _ _ _ (stsub_swap (by assumption)) rfl)))
  obtain ⟨i, hi⟩ := i
  dsimp only
  (try (apply wO pk; exact rfl)); (repeat' (first | exact All.nil | refine All.cons ?_ ?_ | (apply wC pk; exact rfl; exact rfl) | (apply wE pk; exact rfl; exact rfl) | (apply wX pk; exact rfl) | (apply wN pk; exact rfl) | (apply wD pk; kernel_rfl; exact rfl) | exact Imp.one | exact Imp.same | refine Imp.left ?_ | exact ImpX.one | exact ImpX.same | exact ImpX.mk | refine ImpX.up ?_ | refine ImpX.old ?_ | (refine pwp_cond rfl (fun h => ?_) (fun h => ?_) <;> (try simp at h) <;> (first | done | (exfalso; omega) | skip)) | (refine pwp_ret ?_; refine ⟨_, _, _, rfl, Wk.refl _, StSub.refl _, ?_, rfl⟩; (first | rfl | skip)) | (apply idxS pk; exact rfl; exact rfl; exact rfl; exact rfl; exact rfl; exact rfl; rotate_left; exact rfl; (intro _; exact rfl); (intro _; apply irows_at <;> omega); (intro _; exact rfl)) | (refine ⟨⟨i + 1, by omega⟩, ?_, by simp only; omega⟩; (first | exact Sub.nil _ _ _ (StSub.refl _) rfl | ((repeat (first | refine Sub.pv ?_ rfl | refine Sub.var ?_ rfl rfl)); (first | exact Sub.nil _ _ _ (StSub.refl _) rfl | exact Sub.nil _ _ _ (stsub_swap (by assumption)) rfl)))) | (intros; omega)))
  refine pwp_loop (X := { i : Nat // i ≤ cs.length }) (fun i => (((((((St.nil 130 st).pv 1 (.seq (irows l))).pv 2 (.seq (Col.rows cs))).pv 3 (.seq (vrows row))).var 4 26 (e.lit)).pv 9 ((PV.val (Value.bool (true))))).pv 12 ((PV.val (Value.int .i64 ((i.1 : Nat))))))) (fun i => cs.length - i.1) ⟨0, by simp⟩ ?_ (fun i => ?_)
  · (first | exact Sub.nil _ _ _ (StSub.refl _) rfl | ((repeat (first | refine Sub.pv ?_ rfl | refine Sub.var ?_ rfl rfl)); (first | exact Sub.nil _ _ _ (StSub.refl _) rfl | exact Sub.nil _ _ _ (stsub_swap (by assumption)) rfl)))
  obtain ⟨i, hi⟩ := i
  dsimp only
  (try (apply wO pk; exact rfl)); (repeat' (first | exact All.nil | refine All.cons ?_ ?_ | (apply wC pk; exact rfl; exact rfl) | (apply wE pk; exact rfl; exact rfl) | (apply wX pk; exact rfl) | (apply wN pk; exact rfl) | (apply wD pk; kernel_rfl; exact rfl) | exact Imp.one | exact Imp.same | refine Imp.left ?_ | exact ImpX.one | exact ImpX.same | exact ImpX.mk | refine ImpX.up ?_ | refine ImpX.old ?_ | (refine pwp_cond rfl (fun h => ?_) (fun h => ?_) <;> (try simp at h) <;> (first | done | (exfalso; omega) | skip)) | (refine pwp_ret ?_; refine ⟨_, _, _, rfl, Wk.refl _, StSub.refl _, ?_, rfl⟩; (first | rfl | (simp_all; done) | skip)) | (apply callS; exact rfl; exact rfl; exact rfl; (intro _; first | (apply shown_spec <;> first | assumption | omega) | (apply rshown_spec <;> first | assumption | omega) | (apply b1 <;> first | assumption | omega) | (apply b2 <;> first | assumption | omega) | (apply b3 <;> first | assumption | omega) | (apply b4 <;> first | assumption | omega) | (apply b5 <;> first | assumption | omega) | (apply b6 <;> first | assumption | omega)); rotate_left; exact rfl) | (apply callV; exact rfl; exact rfl; exact rfl; (intro _; first | (apply shown_spec <;> first | assumption | omega) | (apply rshown_spec <;> first | assumption | omega) | (apply b1 <;> first | assumption | omega) | (apply b2 <;> first | assumption | omega) | (apply b3 <;> first | assumption | omega) | (apply b4 <;> first | assumption | omega) | (apply b5 <;> first | assumption | omega) | (apply b6 <;> first | assumption | omega)); rotate_left; exact rfl) | (apply idxS pk; exact rfl; exact rfl; exact rfl; exact rfl; exact rfl; exact rfl; rotate_left; exact rfl; (intro _; exact rfl); (intro _; apply Col.rows_at <;> omega); (intro _; exact rfl)) | (refine ⟨⟨i + 1, by omega⟩, ?_, by simp only; omega⟩; (first | exact Sub.nil _ _ _ (StSub.refl _) rfl | ((repeat (first | refine Sub.pv ?_ rfl | refine Sub.var ?_ rfl rfl)); (first | exact Sub.nil _ _ _ (StSub.refl _) rfl | exact Sub.nil _ _ _ (stsub_swap (by assumption)) rfl)))) | (intros; omega)))
end Go.Proofs.Ytghjdkbmjjalmaa
