import Derived.Test.YtbcdgocepnkpeaaGreatRtUse
set_option linter.unusedSimpArgs false
set_option linter.unusedVariables false
namespace Go.Proofs.YtbcdgocepnkpeaaGreat
open Go Go.Abs
attribute [local irreducible] Ev PWp
set_option maxRecDepth 10000
set_option maxHeartbeats 4000000
def kR (r : Rt) : Of := ⟨r.kind, r.table, r.col, 0⟩
structure HandArg (s : Sc) (o : List Ow) (a b : Int) : Prop where
  hc : canonP s o = true
  ha : deviceB a = true
  hb : deviceB b = true
  ne : a ≠ b
structure HandOf (s : Sc) (o : List Ow) (a b : Int) (r : Rt) (l : List Ow) (e : Int) : Prop where
  arg : ¬ HandArg s o a b → e = 1 ∧ l = []
  bad : HandArg s o a b → rightE s r ≠ 0 → e = rightE s r ∧ l = []
  no : HandArg s o a b → rightE s r = 0 → holdsP s o a r = false → e = 15 ∧ l = []
  over : HandArg s o a b → rightE s r = 0 → holdsP s o a r = true → r.kind = 3 → amtOf (openP o) b (kS r.table r.col r.lo) > 1099511627776 - r.amt → e = 20 ∧ l = []
  sum : HandArg s o a b → rightE s r = 0 → holdsP s o a r = true → r.kind = 3 → ¬ amtOf (openP o) b (kS r.table r.col r.lo) > 1099511627776 - r.amt →
    e = 0 ∧ ClosedOf (onDev b (setAm (kS r.table r.col r.lo) (amtOf (openP o) b (kS r.table r.col r.lo) + r.amt)) (onDev a (setAm (kS r.table r.col r.lo) (amtOf (openP o) a (kS r.table r.col r.lo) - r.amt)) (atP b (atP a (openP o))))) l
  span : HandArg s o a b → rightE s r = 0 → holdsP s o a r = true → r.kind ≠ 3 →
    e = 0 ∧ ClosedOf (onDev b (setSp (kR r) (spOf (openP o) b (kR r) ++ [⟨r.lo, r.hi⟩])) (onDev a (setSp (kR r) (lessP ⟨r.lo, r.hi⟩ (spOf (openP o) a (kR r)))) (atP b (atP a (openP o))))) l
theorem hand0_pc (s : Sc) (hs : FewS s) (o : List Ow) (ho : FewO o) (a b : Int) (r : Rt) (st : Store) (hno : ¬ (HandArg s o a b ∧ rightE s r = 0 ∧ holdsP s o a r = true)) : PC Tryz.prog 22 [.agg (scC s), .seq (o.map Ow.cells), (PV.val (Value.int .i64 (a))), (PV.val (Value.int .i64 (b))), .agg r.cells] st fun q S => S = st ∧ ∃ l e, q = .tup [.seq (l.map Ow.cells), (PV.val (Value.int .i64 (e)))] ∧ HandOf s o a b r l e := by
  have hc := canon_spec s hs o ho
  have hd1 := device_spec a
  have hd2 := device_spec b
  have hr := right_spec s hs r
  have hh := holds_spec s hs o ho a r
  by_cases h1 : HandArg s o a b
  · have hn1 := h1.hc
    have hn2 := h1.ha
    have hn3 := h1.hb
    have hn4 := h1.ne
    rw [hn1] at hc
    rw [hn2] at hd1
    rw [hn3] at hd2
    by_cases h2 : rightE s r = 0
    · have h3 : holdsP s o a r = false := by cases h : holdsP s o a r with | false => rfl | true => exact absurd ⟨h1, h2, h⟩ hno
      have hres : HandOf s o a b r [] 15 := ⟨fun h => absurd h1 h, fun _ h => absurd h2 h, fun _ _ _ => ⟨rfl, rfl⟩, fun _ h2 h3 => absurd ⟨h1, h2, h3⟩ hno, fun _ h2 h3 => absurd ⟨h1, h2, h3⟩ hno, fun _ h2 h3 => absurd ⟨h1, h2, h3⟩ hno⟩
      rw [h2] at hr
      rw [h3] at hh
      clear hno h3 h2 h1
      refine pc_of tt_ok Tryz.func22 (by kernel_rfl) rfl rfl rfl rfl ?_
      (try (apply wO pk; exact rfl)); (repeat' (first | exact All.nil | refine All.cons ?_ ?_ | (apply wC pk; exact rfl; exact rfl) | (apply wE pk; exact rfl; exact rfl) | (apply wX pk; exact rfl) | (apply wN pk; exact rfl) | (apply wD pk [] []; kernel_rfl; exact rfl; exact rfl) | exact Imp.one | exact Imp.same | refine Imp.left ?_ | exact ImpX.one | exact ImpX.same | exact ImpX.mk | refine ImpX.up ?_ | refine ImpX.old ?_ | (apply pwp_condC; simp only [cond_true, cond_false]) | (refine pwp_cond rfl (fun h => ?_) (fun h => ?_) <;> (try simp at h) <;> (first | done | (exfalso; omega) | skip)) | (refine pwp_ret ?_; refine ⟨_, _, _, rfl, Wk.refl _, StSub.refl _, ?_, rfl⟩; (first | rfl | skip)) | (apply callS; exact rfl; exact rfl; exact rfl; (intro _; first | (apply hc <;> first | assumption | omega) | (apply hd1 <;> first | assumption | omega) | (apply hd2 <;> first | assumption | omega) | (apply hr <;> first | assumption | omega) | (apply hh <;> first | assumption | omega)); rotate_left; exact rfl; exact rfl) | (apply callV; exact rfl; exact rfl; exact rfl; (intro _; first | (apply hc <;> first | assumption | omega) | (apply hd1 <;> first | assumption | omega) | (apply hd2 <;> first | assumption | omega) | (apply hr <;> first | assumption | omega) | (apply hh <;> first | assumption | omega)); rotate_left; exact rfl; exact rfl) | (refine pwp_ret ?_; exact ⟨_, _, st, rfl, Wk.soft _, StSub.refl _, rfl, [], 15, rfl, hres⟩) | (exfalso; exact hn4 (by assumption)) | (intros; omega) | (intros; simp only [List.length_map]; omega)))
    · have hres : HandOf s o a b r [] (rightE s r) := ⟨fun h => absurd h1 h, fun _ h => ⟨rfl, rfl⟩, fun _ h => absurd h h2, fun _ h2 h3 => absurd ⟨h1, h2, h3⟩ hno, fun _ h2 h3 => absurd ⟨h1, h2, h3⟩ hno, fun _ h2 h3 => absurd ⟨h1, h2, h3⟩ hno⟩
      generalize rightE s r = re at *
      clear hno h1 hh
      refine pc_of tt_ok Tryz.func22 (by kernel_rfl) rfl rfl rfl rfl ?_
      (try (apply wO pk; exact rfl)); (repeat' (first | exact All.nil | refine All.cons ?_ ?_ | (apply wC pk; exact rfl; exact rfl) | (apply wE pk; exact rfl; exact rfl) | (apply wX pk; exact rfl) | (apply wN pk; exact rfl) | (apply wD pk [] []; kernel_rfl; exact rfl; exact rfl) | exact Imp.one | exact Imp.same | refine Imp.left ?_ | exact ImpX.one | exact ImpX.same | exact ImpX.mk | refine ImpX.up ?_ | refine ImpX.old ?_ | (apply pwp_condC; simp only [cond_true, cond_false]) | (refine pwp_cond rfl (fun h => ?_) (fun h => ?_) <;> (try simp at h) <;> (first | done | (exfalso; omega) | skip)) | (refine pwp_ret ?_; refine ⟨_, _, _, rfl, Wk.refl _, StSub.refl _, ?_, rfl⟩; (first | rfl | skip)) | (apply callS; exact rfl; exact rfl; exact rfl; (intro _; first | (apply hc <;> first | assumption | omega) | (apply hd1 <;> first | assumption | omega) | (apply hd2 <;> first | assumption | omega) | (apply hr <;> first | assumption | omega)); rotate_left; exact rfl; exact rfl) | (apply callV; exact rfl; exact rfl; exact rfl; (intro _; first | (apply hc <;> first | assumption | omega) | (apply hd1 <;> first | assumption | omega) | (apply hd2 <;> first | assumption | omega) | (apply hr <;> first | assumption | omega)); rotate_left; exact rfl; exact rfl) | (refine pwp_ret ?_; exact ⟨_, _, st, rfl, Wk.soft _, StSub.refl _, rfl, [], re, rfl, hres⟩) | (exfalso; (first | exact hn4 (by assumption) | exact h2 (by assumption))) | (intros; omega) | (intros; simp only [List.length_map]; omega)))
  · have hres : HandOf s o a b r [] 1 := ⟨fun _ => ⟨rfl, rfl⟩, fun h => absurd h h1, fun h => absurd h h1, fun h => absurd h h1, fun h => absurd h h1, fun h => absurd h h1⟩
    have hn : ((canonP s o = true ∧ deviceB a = true) ∧ deviceB b = true) ∧ ¬ a = b → False := fun ⟨⟨⟨x, y⟩, z⟩, w⟩ => h1 ⟨x, y, z, w⟩
    generalize canonP s o = c at *
    generalize deviceB a = d1 at *
    generalize deviceB b = d2 at *
    refine pc_of tt_ok Tryz.func22 (by kernel_rfl) rfl rfl rfl rfl ?_
    (try (apply wO pk; exact rfl)); (repeat' (first | exact All.nil | refine All.cons ?_ ?_ | (apply wC pk; exact rfl; exact rfl) | (apply wE pk; exact rfl; exact rfl) | (apply wX pk; exact rfl) | (apply wN pk; exact rfl) | (apply wD pk [] []; kernel_rfl; exact rfl; exact rfl) | exact Imp.one | exact Imp.same | refine Imp.left ?_ | exact ImpX.one | exact ImpX.same | exact ImpX.mk | refine ImpX.up ?_ | refine ImpX.old ?_ | (apply pwp_condC; simp only [cond_true, cond_false]) | (refine pwp_cond rfl (fun h => ?_) (fun h => ?_) <;> (try simp at h) <;> (first | done | (exfalso; omega) | skip)) | (refine pwp_ret ?_; refine ⟨_, _, _, rfl, Wk.refl _, StSub.refl _, ?_, rfl⟩; (first | rfl | skip)) | (apply callS; exact rfl; exact rfl; exact rfl; (intro _; first | (apply hc <;> first | assumption | omega) | (apply hd1 <;> first | assumption | omega) | (apply hd2 <;> first | assumption | omega) | (apply hr <;> first | assumption | omega)); rotate_left; exact rfl; exact rfl) | (apply callV; exact rfl; exact rfl; exact rfl; (intro _; first | (apply hc <;> first | assumption | omega) | (apply hd1 <;> first | assumption | omega) | (apply hd2 <;> first | assumption | omega) | (apply hr <;> first | assumption | omega)); rotate_left; exact rfl; exact rfl) | (refine pwp_ret ?_; exact ⟨_, _, st, rfl, Wk.soft _, StSub.refl _, rfl, [], 1, rfl, hres⟩) | (exfalso; exact hn (by assumption)) | (intros; omega) | (intros; simp only [List.length_map]; omega)))
end Go.Proofs.YtbcdgocepnkpeaaGreat
