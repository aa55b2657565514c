/-
  A base that is right shows as many rows as it has lines, each with its key at its first place, and as many values as its table has columns: for every schema, base and number (no further condition).
-/
import Derived.Test.YtkaliolnijkadaaGreatDoorBsShowsS
import Derived.Test.YtkaliolnijkadaaGreatDoorBsArgs
import Derived.Test.YtkaliolnijkadaaGreatDoorTie
import Derived.Test.YtkaliolnijkadaaGreatDoorCards
import Derived.SevenTiedAt
set_option linter.unusedSimpArgs false
set_option linter.unusedVariables false
namespace Go.Proofs.YtkaliolnijkadaaGreatDoor
open Go Go.Abs Go.ChangeShapes Go.WideShapes Go.ChangeAt Go.RowKit
set_option maxRecDepth 100000
theorem contract (H : Type) (enc : TypeId × Value → H) (W : World) (base : Nat) (args : Array Value) (ds gs : List (DataW H)) (before : List MemPlace)
    (hval : ∀ (j : Nat) t v, Tryz.f8.params[j]? = some t → args[j]? = some v → Value.okWide Tryz.prog W .any base t v)
    (hW : DataW.Whole enc Tryz.prog Tryz.f8.params.toList Rows.baseShowsSpec.vars false W args.toList ds gs before)
    (hwt : (DataW.weightsEach Tryz.prog (Tryz.f8.params.toList ++ Rows.baseShowsSpec.plain.varTypes Tryz.prog) (ds ++ gs)).all (· ≤ reachBytes) = true) :
    Calls Tryz.prog 8 args W fun e W' => ∃ v, e = .returned v ∧ Rows.baseShowsSpec.post enc Tryz.prog Tryz.f8 false true false false W args v W' := by
  have hW' := hW
  obtain ⟨p, q, hA, hV, hps, hfz, hnd⟩ := hW
  rw [Tryz.params8] at hA hval
  obtain ⟨v0, vs0, d0, ds0, p0, q0, hargs, rfl, rfl, h0, r0⟩ := trodAll_cons hA
  obtain ⟨v1, vs1, d1, ds1, p1, q1, rfl, rfl, rfl, h1, r1⟩ := trodAll_cons r0
  obtain ⟨v2, vs2, d2, ds2, p2, q2, rfl, rfl, rfl, h2, r2⟩ := trodAll_cons r1
  obtain ⟨rfl, rfl, rfl⟩ := trodAll_nil r2
  obtain rfl : args = #[v0, v1, v2] := by cases args; simp_all
  obtain ⟨rfl, rfl⟩ := trodVars_none hV
  have hwt' : ∀ n ∈ DataW.weightsEach Tryz.prog [24, 27, 3] [d0, d1, d2], n ≤ reachBytes := by
    intro n hn
    have := List.all_eq_true.1 hwt n (by rw [Tryz.params8]; simpa [ChangeSpec.plain, DataSpec.varTypes, Rows.baseShowsSpec] using hn)
    simpa using this
  have hB := wB_bnd (P := Tryz.prog) (H := H) full2
  have hN : reachBytes < 2 ^ 62 := by decide
  obtain ⟨pv0, a0, b0⟩ := lift_arg laid full hB hN (of_decide_eq_true (by kernel_rfl)) (by kernel_rfl) h0 (hval 0 _ v0 rfl rfl) (fun n hn => hwt' n (weightsEach_mem (i := 0) rfl rfl n hn))
  obtain ⟨pv1, a1, b1⟩ := lift_arg laid full hB hN (of_decide_eq_true (by kernel_rfl)) (by kernel_rfl) h1 (hval 1 _ v1 rfl rfl) (fun n hn => hwt' n (weightsEach_mem (i := 1) rfl rfl n hn))
  obtain ⟨pv2, a2, b2⟩ := lift_arg laid full hB hN (of_decide_eq_true (by kernel_rfl)) (by kernel_rfl) h2 (hval 2 _ v2 rfl rfl) (fun n hn => hwt' n (weightsEach_mem (i := 2) rfl rfl n hn))
  obtain ⟨_, cs0, rfl, s0⟩ := agg_of rfl b0
  obtain ⟨x0, rfl⟩ := sc_of s0
  obtain ⟨_, cs1, rfl, s1⟩ := agg_of rfl b1
  obtain ⟨x1, rfl⟩ := bs_of s1
  obtain ⟨_, s2⟩ := one_of rfl b2
  obtain ⟨x2, e2, w2⟩ := shape_int tt_ok rfl s2
  injection e2 with e2
  subst e2
  have w2 : -9223372036854775808 ≤ x2 ∧ x2 ≤ 9223372036854775807 := by simpa [Lit.wf, IntKind.min, IntKind.max, IntKind.signed, IntKind.bits] using w2
  refine (law_calls (vs := [v0, v1, v2]) (by simp only [RepL]; exact ⟨v0, _, rfl, a0, v1, _, rfl, a1, v2, _, rfl, a2, rfl⟩) (bshows_spec x0.1 x1.1 x2 x0.2 x1.2.b)).mono fun e' W' ⟨he, hb⟩ => ?_
  subst he
  exact ⟨_, rfl, law_post (tb := 4) hW' rfl laid rfl rfl (by kernel_rfl) (by
    intro t ht
    rw [Tryz.params8] at ht
    simp only [List.mem_cons, List.not_mem_nil, or_false] at ht
    rcases ht with rfl | rfl | rfl <;> exact ⟨by kernel_rfl, of_decide_eq_true (by kernel_rfl)⟩) hb⟩
theorem lifted (os : Os) (started : os.Started) (H : Type) (enc : TypeId × Value → H) :
    ReturnsInHanded {} Tryz.checked os 8 .any (fun w args => (Rows.baseShowsSpec.pre enc Tryz.prog Tryz.f8 Rows.baseShowsRow.domain false w args ∧ laidMetH Tryz.prog Rows.baseShowsRow.laid w) ∧ sizedMet enc Tryz.prog Tryz.f8 (OpenSpec.ofChange Rows.baseShowsSpec) false w args) (Rows.baseShowsSpec.post enc Tryz.prog Tryz.f8 false true false false) := by
  refine returnsInHanded_of_change_and (C := Tryz.checked) (X := fun w _ => laidMetH Tryz.prog Rows.baseShowsRow.laid w) (fun _ _ _ hh h => h.of_heap hh) own started (by kernel_rfl) Tryz.func8
    (ChangeSpec.witness_shaped (enc := enc) (C := Tryz.checked) (os := os) (X := fun w _ => laidMetH Tryz.prog Rows.baseShowsRow.laid w) false (wL os) #[.agg #[.slice none 0 0], .agg #[.slice none 0 0], .int .i64 0] 8 rfl (wL_shaped os _) (by kernel_rfl) (by kernel_rfl) (by kernel_rfl) (wL_met os _)) ?_
  intro W base args ds gs before hval hW _ hwt _ _
  exact contract H enc W base args ds gs before hval hW hwt
theorem law_holds : Rows.BaseShowsSaid :=
  OpenClaim.holds_of_wide 8 Tryz.f8 rfl rfl rfl rfl rfl rfl rfl ⟨rfl, rfl, rfl, rfl, rfl⟩ rfl rfl rfl rfl rfl (by kernel_rfl) Tryz.func8 (by kernel_rfl)
    (of_decide_eq_true (by kernel_rfl)) (by unfold Func.isWrapper; first | (rw [if_pos (by decide +kernel)]; kernel_rfl) | (rw [if_neg (by decide +kernel)]; exact ⟨rfl, rfl⟩))
    (fun os started H enc _ => lifted os started H enc)
theorem proved : Rows.BaseShowsCardSaid :=
  Claim7.holds_tied_plain_at .later [] [.data, .pinned] true (true, "c121553cc7f3c2467d895848c571e8802509a9de7f8f9d316e3980f047d84048") false
    law_holds (fun _ h => by cases h) (by kernel_rfl) (fun _ h => by cases h) baseShows_row_tie rfl ⟨rfl, rfl⟩ (by kernel_rfl) rfl
    (fun f fn hf hfn => by
      obtain rfl : f = 8 := Option.some.inj ((show Tryz.prog.funcNamed "homestead/homesteadlaw13.BaseShows" = some 8 by kernel_rfl).symm.trans hf) |>.symm
      obtain rfl : fn = Tryz.f8 := (Option.some.inj (Tryz.func8.symm.trans hfn)).symm
      exact ⟨by kernel_rfl, fun j t ht => by
        rw [Tryz.params8] at ht
        have hm := List.mem_of_getElem? (l := Tryz.f8.params.toList) (by rw [Tryz.params8]; simpa using ht)
        rw [Tryz.params8] at hm
        simp only [List.mem_cons, List.not_mem_nil, or_false] at hm
        rcases hm with rfl | rfl | rfl <;> exact (show Tryz.prog.wantsStandIn _ = false by kernel_rfl)⟩)
    (by kernel_rfl)
end Go.Proofs.YtkaliolnijkadaaGreatDoor
