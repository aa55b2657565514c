import Derived.Test.YtbcdgocepnkpeaaRtEq
import Derived.Test.YtbcdgocepnkpeaaRfSame
set_option linter.unusedSimpArgs false
set_option linter.unusedVariables false
namespace Go.Proofs.Ytbcdgocepnkpeaa
open Go Go.Abs
attribute [local irreducible] Ev PWp
set_option maxRecDepth 10000
set_option maxHeartbeats 2000000
def keysR (lo hi : Int) : Rt := ⟨1, 0, 0, lo, hi, 0⟩
def colC (n : ByteArray) : List PV := [.val (.string n), (PV.val (Value.int .i64 (0))), (PV.val (Value.int .i64 (1))), (PV.val (Value.bool (false)))]
def tabA : Tb := ⟨⟨#[97]⟩, [colC ⟨#[105, 100]⟩, colC ⟨#[117]⟩, colC ⟨#[110]⟩, colC ⟨#[103]⟩], [1], [], [], [⟨2, 3, 100⟩]⟩
def plainS : Sc := [tabA]
theorem plain_few : FewS plainS := by
  refine ⟨by decide, fun t ht => ?_, fun t ht => ?_, fun t ht x hx => ?_⟩
  · rw [List.mem_singleton.1 ht]; decide
  · rw [List.mem_singleton.1 ht]; decide
  · rw [List.mem_singleton.1 ht] at hx; rw [List.mem_singleton.1 hx]; decide
theorem lkeys_spec (lo hi : Int) : PF Try.prog 11 [(PV.val (Value.int .i64 (lo))), (PV.val (Value.int .i64 (hi)))] (.agg (keysR lo hi).cells) := by
  refine pf_of tt_ok Try.func11 (by kernel_rfl) rfl rfl rfl rfl (fun st => ?_)
  (try (apply wO pk; exact rfl)); (repeat' (first | exact All.nil | refine All.cons ?_ ?_ | (apply wC pk; exact rfl; exact rfl) | (apply wE pk; exact rfl; exact rfl) | (apply wX pk; exact rfl) | (apply wN pk; exact rfl) | (apply wD pk [] []; kernel_rfl; exact rfl; exact rfl) | exact Imp.one | exact Imp.same | refine Imp.left ?_ | exact ImpX.one | exact ImpX.same | exact ImpX.mk | refine ImpX.up ?_ | refine ImpX.old ?_ | (apply pwp_condC; simp only [cond_true, cond_false]) | (refine pwp_cond rfl (fun h => ?_) (fun h => ?_) <;> (try simp at h) <;> (first | done | (exfalso; omega) | skip)) | (refine pwp_ret ?_; refine ⟨_, _, _, rfl, Wk.refl _, StSub.refl _, ?_, rfl⟩; (first | rfl | skip)) | (intros; omega) | (intros; simp only [List.length_map]; omega)))
theorem wkl_repA {g : G} {ps qs : List PV} (h : WkL ps qs) : ∀ {b off : Nat}, RepA g b off ps → RepA g b off qs := by
  induction h with
  | nil => exact fun h => h
  | cons h _ ih =>
    intro b off e
    simp only [RepA] at e ⊢
    obtain ⟨⟨v, e1, e2, e3⟩, e4⟩ := e
    exact ⟨⟨v, e1, e2, h g v e3⟩, ih e4⟩
theorem wkl_len {ps qs : List PV} (h : WkL ps qs) : ps.length = qs.length := by
  induction h with
  | nil => rfl
  | cons _ _ ih => simp [ih]
theorem wk_row {r r' : List PV} (h : WkL r r') : Wk (.seq [r]) (.seq [r']) := fun g v e => by
  simp only [Rep] at e ⊢
  obtain ⟨a, cap, e1, e2, e3, e4⟩ := e
  refine ⟨a, cap, e1, e2, e3, ?_⟩
  rcases e4 with e4 | ⟨b, off, sz, e4, e5⟩
  · cases e4
  · right
    refine ⟨b, off, sz, e4, ?_⟩
    simp only [RepR] at e5 ⊢
    exact ⟨by rw [← wkl_len h]; exact e5.1, wkl_repA h e5.2.1, trivial⟩
theorem pf_wk {P : Program} {f : FuncId} {args : List PV} {r r' : PV} (h : PF P f args r) (hw : Wk r r') : PF P f args r' := fun st => by
  refine ⟨(h st).1, fun w g vs h1 h2 => ((h st).2 w g vs h1 h2).mono ?_⟩
  rintro e w' ⟨v, q, S, g', h3, ⟨rfl, h4⟩, h5, h6⟩
  exact ⟨v, r', S, g', h3, ⟨rfl, h4⟩, hw g' v h5, h6⟩
theorem plain0_spec : PF Try.prog 8 [] (.agg [.seq [[.val (.string tabA.name), .seq tabA.cols, .seq (tabA.unique.map I1), .val (.slice none 0 0), .val (.slice none 0 0), .seq (tabA.sums.map Sm.cells)]]]) := by
  refine pf_of tt_ok Try.func8 (by kernel_rfl) rfl rfl rfl rfl (fun st => ?_)
  (try (apply wO pk; exact rfl)); (repeat' (first | exact All.nil | refine All.cons ?_ ?_ | (apply wC pk; exact rfl; exact rfl) | (apply wE pk; exact rfl; exact rfl) | (apply wX pk; exact rfl) | (apply wN pk; exact rfl) | (apply wD pk [] []; kernel_rfl; exact rfl; exact rfl) | exact Imp.one | exact Imp.same | refine Imp.left ?_ | exact ImpX.one | exact ImpX.same | exact ImpX.mk | refine ImpX.up ?_ | refine ImpX.old ?_ | (apply pwp_condC; simp only [cond_true, cond_false]) | (refine pwp_cond rfl (fun h => ?_) (fun h => ?_) <;> (try simp at h) <;> (first | done | (exfalso; omega) | skip)) | (refine pwp_ret ?_; refine ⟨_, _, _, rfl, Wk.refl _, StSub.refl _, ?_, rfl⟩; (first | rfl | skip)) | (intros; omega) | (intros; simp only [List.length_map]; omega)))
theorem plain_spec : PF Try.prog 8 [] (.agg (scC plainS)) :=
  pf_wk plain0_spec (Wk.agg (.cons (wk_row (.cons (Wk.refl _) (.cons (Wk.refl _) (.cons (Wk.refl _) (.cons Wk.nil (.cons Wk.nil (.cons (Wk.refl _) .nil))))))) .nil))
def o0 : List Ow := [⟨1, [⟨1, 0, 0, 0, 1073741824, 0⟩, ⟨2, 0, 1, 0, 1073741824, 0⟩]⟩]
def o1 : List Ow := [⟨1, [keysR 0 5, keysR 9 1073741824, ⟨2, 0, 1, 0, 1073741824, 0⟩]⟩, ⟨2, [keysR 5 9]⟩]
def r40 : Rt := ⟨3, 0, 0, 7, 0, 40⟩
def o2 : List Ow := [⟨1, [keysR 0 5, keysR 9 1073741824, ⟨2, 0, 1, 0, 1073741824, 0⟩, ⟨3, 0, 0, 7, 0, -40⟩]⟩, ⟨2, [keysR 5 9, r40]⟩]
def o3 : List Ow := [⟨1, [keysR 0 5, keysR 9 1073741824, ⟨2, 0, 1, 0, 1073741824, 0⟩, ⟨3, 0, 0, 7, 0, -40⟩]⟩, ⟨2, [keysR 5 9, ⟨3, 0, 0, 7, 0, 25⟩]⟩]
theorem few_o (o : List Ow) (h : (decide (o.length ≤ 1000) && o.all fun w => decide (w.rights.length ≤ 1000)) = true) : FewO o := by
  simp only [Bool.and_eq_true, List.all_eq_true, decide_eq_true_eq] at h
  exact ⟨h.1, h.2⟩
theorem aw0 : startP plainS = o0 := by kernel_rfl
theorem aw1 : handP plainS o0 1 2 (keysR 5 9) = (o1, 0) := by kernel_rfl
theorem aw2 : handP plainS o1 1 2 r40 = (o2, 0) := by kernel_rfl
theorem aw3 : useP plainS o2 2 0 0 7 15 = (o3, 0) := by kernel_rfl
theorem aw4 : handP plainS o1 1 3 (keysR 4 6) = ([], 15) := by kernel_rfl
theorem aw5 : budgetP plainS o3 1 0 0 7 = 60 := by kernel_rfl
theorem aw6 : budgetP plainS o3 2 0 0 7 = 25 := by kernel_rfl
theorem aw7 : holdsP plainS o3 2 (keysR 6 8) = true := by kernel_rfl
theorem aw8 : canonP plainS o3 = true := by kernel_rfl
theorem awake_spec : PF Try.prog 7 [] (PV.val (Value.bool (true))) := by
  have f0 : FewO o0 := few_o _ rfl
  have f1 : FewO o1 := few_o _ rfl
  have f2 : FewO o2 := few_o _ rfl
  have f3 : FewO o3 := few_o _ rfl
  have p0 := start_spec plainS plain_few
  rw [aw0] at p0
  have p1 := hand_spec plainS plain_few o0 f0 1 2 (keysR 5 9)
  rw [aw1] at p1
  have p2 := hand_spec plainS plain_few o1 f1 1 2 r40
  rw [aw2] at p2
  have p3 := use_spec plainS plain_few o2 f2 2 0 0 7 15
  rw [aw3] at p3
  have p4 := hand_spec plainS plain_few o1 f1 1 3 (keysR 4 6)
  rw [aw4] at p4
  have p5 := budget_spec plainS plain_few o3 f3 1 0 0 7
  rw [aw5] at p5
  have p6 := budget_spec plainS plain_few o3 f3 2 0 0 7
  rw [aw6] at p6
  have p7 := holds_spec plainS plain_few o3 f3 2 (keysR 6 8)
  rw [aw7] at p7
  have p8 := canon_spec plainS plain_few o3 f3
  rw [aw8] at p8
  have p9 := samer_spec [keysR 0 5, keysR 9 1073741824, ⟨2, 0, 1, 0, 1073741824, 0⟩] [keysR 0 5, keysR 9 1073741824, ⟨2, 0, 1, 0, 1073741824, 0⟩] (by decide)
  rw [decide_eq_true rfl] at p9
  have p10 := samer_spec [keysR 5 9] [keysR 5 9] (by decide)
  rw [decide_eq_true rfl] at p10
  have k1 := lkeys_spec 5 9
  have k2 := lkeys_spec 4 6
  have k3 := lkeys_spec 0 5
  have k4 := lkeys_spec 9 1073741824
  have k5 := lkeys_spec 6 8
  have hp := plain_spec
  have hl : o1.length = 2 := rfl
  refine pf_of tt_ok Try.func7 (by kernel_rfl) rfl rfl rfl rfl (fun st => ?_)
  (try (apply wO pk; exact rfl)); (repeat' (first | ((exfalso; omega)) | exact All.nil | refine All.cons ?_ ?_ | (apply wC pk; exact rfl; exact rfl) | (apply wE pk; exact rfl; exact rfl) | (apply wX pk; exact rfl) | (apply wN pk; exact rfl) | (apply wD pk [] []; kernel_rfl; exact rfl; exact rfl) | exact Imp.one | exact Imp.same | refine Imp.left ?_ | exact ImpX.one | exact ImpX.same | exact ImpX.mk | refine ImpX.up ?_ | refine ImpX.old ?_ | (apply pwp_condC; simp only [cond_true, cond_false]) | (refine pwp_cond rfl (fun h => ?_) (fun h => ?_) <;> (try simp at h) <;> (first | done | (exfalso; omega) | skip)) | (refine pwp_ret ?_; refine ⟨_, _, _, rfl, Wk.refl _, StSub.refl _, ?_, rfl⟩; (first | rfl | skip)) | (apply callS; exact rfl; exact rfl; exact rfl; (intro _; first | (apply hp <;> first | assumption | omega) | (apply k1 <;> first | assumption | omega) | (apply k2 <;> first | assumption | omega) | (apply k3 <;> first | assumption | omega) | (apply k4 <;> first | assumption | omega) | (apply k5 <;> first | assumption | omega) | (apply p0 <;> first | assumption | omega) | (apply p1 <;> first | assumption | omega) | (apply p2 <;> first | assumption | omega) | (apply p3 <;> first | assumption | omega) | (apply p4 <;> first | assumption | omega) | (apply p5 <;> first | assumption | omega) | (apply p6 <;> first | assumption | omega) | (apply p7 <;> first | assumption | omega) | (apply p8 <;> first | assumption | omega) | (apply p9 <;> first | assumption | omega) | (apply p10 <;> first | assumption | omega)); rotate_left; exact rfl; exact rfl) | (apply callV; exact rfl; exact rfl; exact rfl; (intro _; first | (apply hp <;> first | assumption | omega) | (apply k1 <;> first | assumption | omega) | (apply k2 <;> first | assumption | omega) | (apply k3 <;> first | assumption | omega) | (apply k4 <;> first | assumption | omega) | (apply k5 <;> first | assumption | omega) | (apply p0 <;> first | assumption | omega) | (apply p1 <;> first | assumption | omega) | (apply p2 <;> first | assumption | omega) | (apply p3 <;> first | assumption | omega) | (apply p4 <;> first | assumption | omega) | (apply p5 <;> first | assumption | omega) | (apply p6 <;> first | assumption | omega) | (apply p7 <;> first | assumption | omega) | (apply p8 <;> first | assumption | omega) | (apply p9 <;> first | assumption | omega) | (apply p10 <;> first | assumption | omega)); rotate_left; exact rfl; exact rfl) | (apply idxS pk; exact rfl; exact rfl; exact rfl; exact rfl; exact rfl; exact rfl; rotate_left; exact rfl; (intro _; exact rfl); (intro _; apply (show (o1.map Ow.cells)[0]? = some _ from rfl) <;> omega); (intro _; exact rfl); exact rfl) | (apply idxS pk; exact rfl; exact rfl; exact rfl; exact rfl; exact rfl; exact rfl; rotate_left; exact rfl; (intro _; exact rfl); (intro _; apply (show (o1.map Ow.cells)[1]? = some _ from rfl) <;> omega); (intro _; exact rfl); exact rfl) | (intros; omega) | (intros; simp only [List.length_map]; omega)))
end Go.Proofs.Ytbcdgocepnkpeaa
