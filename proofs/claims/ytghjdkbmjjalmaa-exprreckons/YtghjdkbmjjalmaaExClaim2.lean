/-
  The statement ExprReckonsSaid: the law ExprReckons returns true for every input, and its input reads as it did; no condition is asked.
-/
import Derived.Test.YtghjdkbmjjalmaaExReck2
import Derived.Test.YtghjdkbmjjalmaaExArgs
namespace Go.Proofs.Ytghjdkbmjjalmaa
open Go Go.Abs Go.ChangeShapes Go.WideShapes Go.ChangeAt Go.RowKit
set_option maxRecDepth 100000
theorem contract (H : Type) (enc : TypeId × Value → H) (W : World) (base : Nat) (args : Array Value) (ds gs : List (DataW H)) (before : List MemPlace)
    (hval : ∀ (j : Nat) t v, Try.f4.params[j]? = some t → args[j]? = some v → Value.okWide Try.prog W .any base t v)
    (hW : DataW.Whole enc Try.prog Try.f4.params.toList Rows.exprReckonsSpec.vars false W args.toList ds gs before)
    (hwt : (DataW.weightsEach Try.prog (Try.f4.params.toList ++ Rows.exprReckonsSpec.plain.varTypes Try.prog) (ds ++ gs)).all (· ≤ reachBytes) = true) :
    Calls Try.prog 4 args W fun e W' => ∃ v, e = .returned v ∧ Rows.exprReckonsSpec.post enc Try.prog Try.f4 false true false false W args v W' := by
  have hW' := hW
  obtain ⟨p, q, hA, hV, hps, hfz, hnd⟩ := hW
  rw [Try.params4] at hA hval
  obtain ⟨v0, vs0, d0, ds0, p0, q0, hargs, rfl, rfl, h0, r0⟩ := trodAll_cons hA
  obtain ⟨v1, vs1, d1, ds1, p1, q1, rfl, rfl, rfl, h1, r1⟩ := trodAll_cons r0
  obtain ⟨v2, vs2, d2, ds2, p2, q2, rfl, rfl, rfl, h2, r2⟩ := trodAll_cons r1
  obtain ⟨rfl, rfl, rfl⟩ := trodAll_nil r2
  obtain rfl : args = #[v0, v1, v2] := by cases args; simp_all
  obtain ⟨rfl, rfl⟩ := trodVars_none hV
  have hwt' : ∀ n ∈ DataW.weightsEach Try.prog [21, 21, 5] [d0, d1, d2], n ≤ reachBytes := by
    intro n hn
    have := List.all_eq_true.1 hwt n (by rw [Try.params4]; simpa [ChangeSpec.plain, DataSpec.varTypes, Rows.exprReckonsSpec] using hn)
    simpa using this
  have hB := wB_bnd (P := Try.prog) (H := H) full2
  have hN : reachBytes < 2 ^ 62 := by decide
  obtain ⟨pv0, a0, b0⟩ := lift_arg laid full hB hN (of_decide_eq_true (by kernel_rfl)) (by kernel_rfl) h0 (hval 0 _ v0 rfl rfl) (fun n hn => hwt' n (weightsEach_mem (i := 0) rfl rfl n hn))
  obtain ⟨pv1, a1, b1⟩ := lift_arg laid full hB hN (of_decide_eq_true (by kernel_rfl)) (by kernel_rfl) h1 (hval 1 _ v1 rfl rfl) (fun n hn => hwt' n (weightsEach_mem (i := 1) rfl rfl n hn))
  obtain ⟨pv2, a2, b2⟩ := lift_arg laid full hB hN (of_decide_eq_true (by kernel_rfl)) (by kernel_rfl) h2 (hval 2 _ v2 rfl rfl) (fun n hn => hwt' n (weightsEach_mem (i := 2) rfl rfl n hn))
  obtain ⟨_, s0⟩ := one_of rfl b0
  obtain ⟨x, hx, wx⟩ := shape_int tt_ok rfl s0
  obtain ⟨_, s1⟩ := one_of rfl b1
  obtain ⟨y, hy, wy⟩ := shape_int tt_ok rfl s1
  obtain ⟨_, s2⟩ := one_of rfl b2
  obtain ⟨z, hz, wz⟩ := shape_int tt_ok rfl s2
  injection hx with hx
  injection hy with hy
  injection hz with hz
  subst hx
  subst hy
  subst hz
  have wx : -2147483648 ≤ x ∧ x ≤ 2147483647 := by simpa [Lit.wf, IntKind.min, IntKind.max, IntKind.signed, IntKind.bits] using wx
  have wy : -2147483648 ≤ y ∧ y ≤ 2147483647 := by simpa [Lit.wf, IntKind.min, IntKind.max, IntKind.signed, IntKind.bits] using wy
  have wz : 0 ≤ z ∧ z ≤ 255 := by simpa [Lit.wf, IntKind.min, IntKind.max, IntKind.signed, IntKind.bits] using wz
  refine (law_calls (vs := [v0, v1, v2]) (by simp only [RepL]; exact ⟨v0, _, rfl, a0, v1, _, rfl, a1, v2, _, rfl, a2, rfl⟩) (reckons_spec wx wy wz)).mono fun e' W' ⟨he, hb⟩ => ?_
  subst he
  exact ⟨_, rfl, law_post (tb := 4) hW' rfl laid rfl rfl (by kernel_rfl) (by
    intro t ht
    rw [Try.params4] at ht
    simp only [List.mem_cons, List.not_mem_nil, or_false] at ht
    rcases ht with rfl | rfl | rfl <;> exact ⟨by kernel_rfl, of_decide_eq_true (by kernel_rfl)⟩) hb⟩
theorem lifted (os : Os) (started : os.Started) (H : Type) (enc : TypeId × Value → H) :
    ReturnsInHanded {} Try.checked os 4 .any (Rows.exprReckonsSpec.pre6 enc Try.prog Try.f4 Rows.exprReckonsRow.domain false) (Rows.exprReckonsSpec.post enc Try.prog Try.f4 false true false false) := by
  refine returnsInHanded_of_change_sized (C := Try.checked) own started (by kernel_rfl) Try.func4
    (ChangeSpec.witness6 (enc := enc) (C := Try.checked) false ⟨#[], #[.int .i32 0, .int .i32 0, .int .u8 0], []⟩ 8 (by kernel_rfl) (by kernel_rfl) (by kernel_rfl) (by kernel_rfl)) ?_
  intro W base args ds gs before hval hW _ hwt _
  exact contract H enc W base args ds gs before hval hW hwt
theorem proved : Rows.ExprReckonsSaid :=
  OpenClaim.holds_of_wide 4 Try.f4 rfl rfl rfl rfl rfl rfl rfl ⟨rfl, rfl, rfl, rfl, rfl⟩ rfl rfl rfl rfl rfl (by kernel_rfl) Try.func4 (by kernel_rfl)
    (of_decide_eq_true (by kernel_rfl)) (by unfold Func.isWrapper; first | (rw [if_pos (by decide +kernel)]; kernel_rfl) | (rw [if_neg (by decide +kernel)]; exact ⟨rfl, rfl⟩))
    (fun os started H enc _ => lifted os started H enc)
end Go.Proofs.Ytghjdkbmjjalmaa
