/-
  All budgets of a group are, together, its bound, less what was used, and none is below 0 (RightSums): for every list of hand-overs and uses, and every group.
-/
import Derived.Test.YtbcdgocepnkpeaaRtSums
import Derived.Test.YtbcdgocepnkpeaaRtArgs2
set_option linter.unusedSimpArgs false
set_option linter.unusedVariables false
namespace Go.Proofs.Ytbcdgocepnkpeaa
open Go Go.Abs Go.ChangeShapes Go.WideShapes Go.ChangeAt Go.RowKit
set_option maxRecDepth 100000
theorem contract (H : Type) (enc : TypeId × Value → H) (W : World) (base : Nat) (args : Array Value) (ds gs : List (DataW H)) (before : List MemPlace)
    (hval : ∀ (j : Nat) t v, Try.f4.params[j]? = some t → args[j]? = some v → Value.okWide Try.prog W .any base t v)
    (hW : DataW.Whole enc Try.prog Try.f4.params.toList Rows.rightSumsSpec.vars false W args.toList ds gs before)
    (hwt : (DataW.weightsEach Try.prog (Try.f4.params.toList ++ Rows.rightSumsSpec.plain.varTypes Try.prog) (ds ++ gs)).all (· ≤ reachBytes) = true) :
    Calls Try.prog 4 args W fun e W' => ∃ v, e = .returned v ∧ Rows.rightSumsSpec.post enc Try.prog Try.f4 false true false false W args v W' := by
  have hW' := hW
  obtain ⟨p, q, hA, hV, hps, hfz, hnd⟩ := hW
  rw [Try.params4] at hA hval
  obtain ⟨v0, vs0, d0, ds0, p0, q0, hargs, rfl, rfl, h0, r0⟩ := trodAll_cons hA
  obtain ⟨v1, vs1, d1, ds1, p1, q1, rfl, rfl, rfl, h1, r1⟩ := trodAll_cons r0
  obtain ⟨rfl, rfl, rfl⟩ := trodAll_nil r1
  obtain rfl : args = #[v0, v1] := by cases args; simp_all
  obtain ⟨rfl, rfl⟩ := trodVars_none hV
  have hwt' : ∀ n ∈ DataW.weightsEach Try.prog [22, 3] [d0, d1], n ≤ reachBytes := by
    intro n hn
    have := List.all_eq_true.1 hwt n (by rw [Try.params4]; simpa [ChangeSpec.plain, DataSpec.varTypes, Rows.rightSumsSpec] using hn)
    simpa using this
  have hB := wB_bnd (P := Try.prog) (H := H) full2
  have hN : reachBytes < 2 ^ 62 := by decide
  obtain ⟨pv0, a0, b0⟩ := lift_arg laid full hB hN (of_decide_eq_true (by kernel_rfl)) (by kernel_rfl) h0 (hval 0 _ v0 rfl rfl) (fun n hn => hwt' n (weightsEach_mem (i := 0) rfl rfl n hn))
  obtain ⟨pv1, a1, b1⟩ := lift_arg laid full hB hN (of_decide_eq_true (by kernel_rfl)) (by kernel_rfl) h1 (hval 1 _ v1 rfl rfl) (fun n hn => hwt' n (weightsEach_mem (i := 1) rfl rfl n hn))
  obtain ⟨_, s0⟩ := one_of rfl b0
  obtain ⟨x0, e0⟩ := gos_of s0
  injection e0 with e0
  subst e0
  obtain ⟨_, s1⟩ := one_of rfl b1
  obtain ⟨x1, e1, w1⟩ := shape_int tt_ok rfl s1
  injection e1 with e1
  subst e1
  have w1 : -9223372036854775808 ≤ x1 ∧ x1 ≤ 9223372036854775807 := by simpa [Lit.wf, IntKind.min, IntKind.max, IntKind.signed, IntKind.bits] using w1
  refine (law_calls (vs := [v0, v1]) (by simp only [RepL]; exact ⟨v0, _, rfl, a0, v1, _, rfl, a1, rfl⟩) (sums_spec x0 x1)).mono fun e' W' ⟨he, hb⟩ => ?_
  subst he
  exact ⟨_, rfl, law_post (tb := 4) hW' rfl laid rfl rfl (by kernel_rfl) (by
    intro t ht
    rw [Try.params4] at ht
    simp only [List.mem_cons, List.not_mem_nil, or_false] at ht
    rcases ht with rfl | rfl <;> exact ⟨by kernel_rfl, of_decide_eq_true (by kernel_rfl)⟩) hb⟩
theorem lifted (os : Os) (started : os.Started) (H : Type) (enc : TypeId × Value → H) :
    ReturnsInHanded {} Try.checked os 4 .any (Rows.rightSumsSpec.pre6 enc Try.prog Try.f4 Rows.rightSumsRow.domain false) (Rows.rightSumsSpec.post enc Try.prog Try.f4 false true false false) := by
  refine returnsInHanded_of_change_sized (C := Try.checked) own started (by kernel_rfl) Try.func4
    (ChangeSpec.witness6 (enc := enc) (C := Try.checked) false ⟨#[], #[.slice none 0 0, .int .i64 0], []⟩ 8 (by kernel_rfl) (by kernel_rfl) (by kernel_rfl) (by kernel_rfl)) ?_
  intro W base args ds gs before hval hW _ hwt _
  exact contract H enc W base args ds gs before hval hW hwt
theorem proved : Rows.RightSumsSaid :=
  OpenClaim.holds_of_wide 4 Try.f4 rfl rfl rfl rfl rfl rfl rfl ⟨rfl, rfl, rfl, rfl, rfl⟩ rfl rfl rfl rfl rfl (by kernel_rfl) Try.func4 (by kernel_rfl)
    (of_decide_eq_true (by kernel_rfl)) (by unfold Func.isWrapper; first | (rw [if_pos (by decide +kernel)]; kernel_rfl) | (rw [if_neg (by decide +kernel)]; exact ⟨rfl, rfl⟩))
    (fun os started H enc _ => lifted os started H enc)
end Go.Proofs.Ytbcdgocepnkpeaa
