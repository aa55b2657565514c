import Derived.Test.YtghjdkbmjjalmaaExAwake
import Derived.Test.YtghjdkbmjjalmaaAbsShape
import Derived.Test.YtghjdkbmjjalmaaRows
import Derived.SizedLaws
namespace Go.Proofs.Ytghjdkbmjjalmaa
open Go Go.Abs Go.ChangeShapes Go.WideShapes Go.ChangeAt Go.RowKit
set_option maxRecDepth 10000
theorem own : ownKnob Try.prog.godebug = none := by kernel_rfl
theorem laid : laidOutB Try.prog = true := by kernel_rfl
theorem full (t e : TypeId) (h : t < Try.prog.types.size) (hu : Try.prog.underlying t = some (.slice e)) : 0 < Try.prog.cellsOf e :=
  of_decide_eq_true (slices_of (fun _ e => decide (0 < Try.prog.cellsOf e)) (by kernel_rfl) t e h hu)
theorem full2 (t e : TypeId) (h : t < Try.prog.types.size) (hu : Try.prog.underlying t = some (.slice e)) : 1 ≤ Try.prog.bytesOf e :=
  of_decide_eq_true (slices_of (fun _ e => decide (1 ≤ Try.prog.bytesOf e)) (by kernel_rfl) t e h hu)
section
variable {N : Nat}
theorem vl_of {n : Nat} {ps : List PV} (h : Shape Try.prog N n 23 ps) : ∃ v : Vl, ps = v.cells := by
  obtain ⟨m, pss, _, rfl, h2⟩ := shape_struct tt_ok rfl h
  cases h2 with | cons ha h2 => cases h2 with | cons hb h2 => cases h2 with | cons hc h2 => cases h2 with | nil =>
  obtain ⟨a, rfl, _⟩ := shape_int tt_ok rfl ha
  obtain ⟨b, rfl, _⟩ := shape_int tt_ok rfl hb
  obtain ⟨c, rfl, _⟩ := shape_str tt_ok rfl hc
  exact ⟨⟨a, b, c⟩, rfl⟩
theorem rows_eq : ∀ (l : List Ex), Ex.rows l = l.map Ex.cells
  | [] => rfl
  | e :: es => by simp [Ex.rows, rows_eq es]
theorem ex_of : ∀ {n : Nat} {ps : List PV}, Shape Try.prog N n 26 ps → ∃ e : Ex, ps = e.cells := by
  intro n
  induction n using Nat.strongRecOn with
  | _ n ih =>
    intro ps h
    obtain ⟨m, pss, hm, rfl, h2⟩ := shape_struct tt_ok rfl h
    cases h2 with | cons ha h2 => cases h2 with | cons hb h2 => cases h2 with | cons hc h2 => cases h2 with | cons hd h2 => cases h2 with | nil =>
    obtain ⟨a, rfl, _⟩ := shape_int tt_ok rfl ha
    obtain ⟨b, rfl, _⟩ := shape_int tt_ok rfl hb
    obtain ⟨c, rfl⟩ := vl_of hc
    obtain ⟨m', rows, hm', rfl, _, hr⟩ := shape_slice tt_ok rfl hd
    obtain ⟨l, rfl⟩ := rows_of (f := Ex.cells) fun r hr' => ih m' (by omega) (hr r hr')
    exact ⟨.mk a b c l, by rw [← rows_eq]; rfl⟩
theorem ints_of {n : Nat} {ps : List PV} (h : Shape Try.prog N n 27 ps) : ∃ l, ps = [.seq (irows l)] := by
  obtain ⟨m, rows, _, rfl, _, hr⟩ := shape_slice tt_ok rfl h
  obtain ⟨l, rfl⟩ := rows_of (f := fun n => [(PV.val (Value.int .i64 (n)))]) fun r hr' => by
    obtain ⟨x, rfl, _⟩ := shape_int tt_ok rfl (hr r hr'); exact ⟨x, rfl⟩
  exact ⟨l, rfl⟩
theorem row_of {n : Nat} {ps : List PV} (h : Shape Try.prog N n 29 ps) : ∃ l, ps = [.seq (vrows l)] := by
  obtain ⟨m, rows, _, rfl, _, hr⟩ := shape_slice tt_ok rfl h
  obtain ⟨l, rfl⟩ := rows_of (f := Vl.cells) fun r hr' => vl_of (hr r hr')
  exact ⟨l, rfl⟩
theorem agg_of {t : TypeId} {p : PV} (ha : tiAgg tt t = some true) (h : ArgShape Try.prog N t p) : ∃ n cs, p = .agg cs ∧ Shape Try.prog N n t cs := by
  obtain ⟨n, ⟨_, cs, h1, h2⟩ | ⟨h1, _⟩⟩ := h
  · exact ⟨n, cs, h1, h2⟩
  · rw [(tiAgg_ok tt_ok ha).1] at h1; cases h1
theorem one_of {t : TypeId} {p : PV} (ha : tiAgg tt t = some false) (h : ArgShape Try.prog N t p) : ∃ n, Shape Try.prog N n t [p] := by
  obtain ⟨n, ⟨h1, _⟩ | ⟨_, h2⟩⟩ := h
  · rw [(tiAgg_ok tt_ok ha).1] at h1; cases h1
  · exact ⟨n, h2⟩
end
end Go.Proofs.Ytghjdkbmjjalmaa
