import Derived.Test.YtghjdkbmjjalmaaExSound
import Derived.Test.YtghjdkbmjjalmaaAbsShape
import Derived.Test.YtghjdkbmjjalmaaRows
import Derived.SizedLaws
namespace Go.Proofs.Ytghjdkbmjjalmaa
open Go Go.Abs Go.ChangeShapes Go.WideShapes Go.ChangeAt Go.RowKit
set_option maxRecDepth 10000
theorem own : ownKnob Try.prog.godebug = none := by kernel_rfl
theorem laid : laidOutB Try.prog = true := by kernel_rfl
theorem full (t e : TypeId) (h : t < Try.prog.types.size) (hu : Try.prog.underlying t = some (.slice e)) : 0 < Try.prog.cellsOf e :=
  of_decide_eq_true (slices_of (fun _ e => decide (0 < Try.prog.cellsOf e)) (by kernel_rfl) t e h hu)
theorem full2 (t e : TypeId) (h : t < Try.prog.types.size) (hu : Try.prog.underlying t = some (.slice e)) : 1 ≤ Try.prog.bytesOf e :=
  of_decide_eq_true (slices_of (fun _ e => decide (1 ≤ Try.prog.bytesOf e)) (by kernel_rfl) t e h hu)
section
variable {N : Nat}
theorem vl_of {n : Nat} {ps : List PV} (h : Shape Try.prog N n 23 ps) : ∃ v : Vl, ps = v.cells := by
  obtain ⟨m, pss, _, rfl, h2⟩ := shape_struct tt_ok rfl h
  cases h2 with | cons ha h2 => cases h2 with | cons hb h2 => cases h2 with | cons hc h2 => cases h2 with | nil =>
  obtain ⟨a, rfl, _⟩ := shape_int tt_ok rfl ha
  obtain ⟨b, rfl, _⟩ := shape_int tt_ok rfl hb
  obtain ⟨c, rfl, _⟩ := shape_str tt_ok rfl hc
  exact ⟨⟨a, b, c⟩, rfl⟩
theorem rows_eq : ∀ (l : List Ex), Ex.rows l = l.map Ex.cells
  | [] => rfl
  | e :: es => by simp [Ex.rows, rows_eq es]
theorem ex_of : ∀ {n : Nat} {ps : List PV}, Shape Try.prog N n 26 ps → ∃ e : Ex, ps = e.cells := by
  intro n
  induction n using Nat.strongRecOn with
  | _ n ih =>
    intro ps h
    obtain ⟨m, pss, hm, rfl, h2⟩ := shape_struct tt_ok rfl h
    cases h2 with | cons ha h2 => cases h2 with | cons hb h2 => cases h2 with | cons hc h2 => cases h2 with | cons hd h2 => cases h2 with | nil =>
    obtain ⟨a, rfl, _⟩ := shape_int tt_ok rfl ha
    obtain ⟨b, rfl, _⟩ := shape_int tt_ok rfl hb
    obtain ⟨c, rfl⟩ := vl_of hc
    obtain ⟨m', rows, hm', rfl, _, hr⟩ := shape_slice tt_ok rfl hd
    obtain ⟨l, rfl⟩ := rows_of (f := Ex.cells) fun r hr' => ih m' (by omega) (hr r hr')
    exact ⟨.mk a b c l, by rw [← rows_eq]; rfl⟩
theorem ints_of {n : Nat} {ps : List PV} (h : Shape Try.prog N n 27 ps) : ∃ l, ps = [.seq (irows l)] := by
  obtain ⟨m, rows, _, rfl, _, hr⟩ := shape_slice tt_ok rfl h
  obtain ⟨l, rfl⟩ := rows_of (f := fun n => [(PV.val (Value.int .i64 (n)))]) fun r hr' => by
    obtain ⟨x, rfl, _⟩ := shape_int tt_ok rfl (hr r hr'); exact ⟨x, rfl⟩
  exact ⟨l, rfl⟩
theorem row_of {n : Nat} {ps : List PV} (h : Shape Try.prog N n 29 ps) : ∃ l, ps = [.seq (vrows l)] := by
  obtain ⟨m, rows, _, rfl, _, hr⟩ := shape_slice tt_ok rfl h
  obtain ⟨l, rfl⟩ := rows_of (f := Vl.cells) fun r hr' => vl_of (hr r hr')
  exact ⟨l, rfl⟩
theorem agg_of {t : TypeId} {p : PV} (ha : tiAgg tt t = some true) (h : ArgShape Try.prog N t p) : ∃ n cs, p = .agg cs ∧ Shape Try.prog N n t cs := by
  obtain ⟨n, ⟨_, cs, h1, h2⟩ | ⟨h1, _⟩⟩ := h
  · exact ⟨n, cs, h1, h2⟩
  · rw [(tiAgg_ok tt_ok ha).1] at h1; cases h1
theorem one_of {t : TypeId} {p : PV} (ha : tiAgg tt t = some false) (h : ArgShape Try.prog N t p) : ∃ n, Shape Try.prog N n t [p] := by
  obtain ⟨n, ⟨h1, _⟩ | ⟨_, h2⟩⟩ := h
  · rw [(tiAgg_ok tt_ok ha).1] at h1; cases h1
  · exact ⟨n, h2⟩
end
theorem contract (H : Type) (enc : TypeId × Value → H) (W : World) (base : Nat) (args : Array Value) (ds gs : List (DataW H)) (before : List MemPlace)
    (hval : ∀ (j : Nat) t v, Try.f3.params[j]? = some t → args[j]? = some v → Value.okWide Try.prog W .any base t v)
    (hW : DataW.Whole enc Try.prog Try.f3.params.toList Rows.exprSoundSpec.vars false W args.toList ds gs before)
    (hwt : (DataW.weightsEach Try.prog (Try.f3.params.toList ++ Rows.exprSoundSpec.plain.varTypes Try.prog) (ds ++ gs)).all (· ≤ reachBytes) = true) :
    Calls Try.prog 3 args W fun e W' => ∃ v, e = .returned v ∧ Rows.exprSoundSpec.post enc Try.prog Try.f3 false true false false W args v W' := by
  have hW' := hW
  obtain ⟨p, q, hA, hV, hps, hfz, hnd⟩ := hW
  rw [Try.params3] at hA hval
  obtain ⟨v0, vs0, d0, ds0, p0, q0, hargs, rfl, rfl, h0, r0⟩ := trodAll_cons hA
  obtain ⟨v1, vs1, d1, ds1, p1, q1, rfl, rfl, rfl, h1, r1⟩ := trodAll_cons r0
  obtain ⟨v2, vs2, d2, ds2, p2, q2, rfl, rfl, rfl, h2, r2⟩ := trodAll_cons r1
  obtain ⟨rfl, rfl, rfl⟩ := trodAll_nil r2
  obtain rfl : args = #[v0, v1, v2] := by cases args; simp_all
  obtain ⟨rfl, rfl⟩ := trodVars_none hV
  have hwt' : ∀ n ∈ DataW.weightsEach Try.prog [26, 27, 29] [d0, d1, d2], n ≤ reachBytes := by
    intro n hn
    have := List.all_eq_true.1 hwt n (by rw [Try.params3]; simpa [ChangeSpec.plain, DataSpec.varTypes, Rows.exprSoundSpec] using hn)
    simpa using this
  have hB := wB_bnd (P := Try.prog) (H := H) full2
  have hN : reachBytes < 2 ^ 62 := by decide
  obtain ⟨pv0, a0, b0⟩ := lift_arg laid full hB hN (of_decide_eq_true (by kernel_rfl)) (by kernel_rfl) h0 (hval 0 _ v0 rfl rfl) (fun n hn => hwt' n (weightsEach_mem (i := 0) rfl rfl n hn))
  obtain ⟨pv1, a1, b1⟩ := lift_arg laid full hB hN (of_decide_eq_true (by kernel_rfl)) (by kernel_rfl) h1 (hval 1 _ v1 rfl rfl) (fun n hn => hwt' n (weightsEach_mem (i := 1) rfl rfl n hn))
  obtain ⟨pv2, a2, b2⟩ := lift_arg laid full hB hN (of_decide_eq_true (by kernel_rfl)) (by kernel_rfl) h2 (hval 2 _ v2 rfl rfl) (fun n hn => hwt' n (weightsEach_mem (i := 2) rfl rfl n hn))
  obtain ⟨_, cs, rfl, s0⟩ := agg_of rfl b0
  obtain ⟨e, rfl⟩ := ex_of s0
  obtain ⟨_, s1⟩ := one_of rfl b1
  obtain ⟨l, hl⟩ := ints_of s1
  obtain ⟨_, s2⟩ := one_of rfl b2
  obtain ⟨row, hrow⟩ := row_of s2
  injection hl with hl
  injection hrow with hrow
  subst hl
  subst hrow
  refine (law_calls (vs := [v0, v1, v2]) (by simp only [RepL]; exact ⟨v0, _, rfl, a0, v1, _, rfl, a1, v2, _, rfl, a2, rfl⟩) (sound_spec e l row)).mono fun e' W' ⟨he, hb⟩ => ?_
  subst he
  exact ⟨_, rfl, law_post (tb := 4) hW' rfl laid rfl rfl (by kernel_rfl) (by
    intro t ht
    rw [Try.params3] at ht
    simp only [List.mem_cons, List.not_mem_nil, or_false] at ht
    rcases ht with rfl | rfl | rfl <;> exact ⟨by kernel_rfl, of_decide_eq_true (by kernel_rfl)⟩) hb⟩
end Go.Proofs.Ytghjdkbmjjalmaa
