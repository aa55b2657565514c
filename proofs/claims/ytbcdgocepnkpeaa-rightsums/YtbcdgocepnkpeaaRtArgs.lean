import Derived.Test.YtbcdgocepnkpeaaRtAwake
import Derived.Test.YtbcdgocepnkpeaaAbsF
import Derived.Test.YtbcdgocepnkpeaaRows
import Derived.SizedLaws
set_option linter.unusedSimpArgs false
set_option linter.unusedVariables false
namespace Go.Proofs.Ytbcdgocepnkpeaa
open Go Go.Abs Go.ChangeShapes Go.WideShapes Go.ChangeAt Go.RowKit
set_option maxRecDepth 10000
theorem own : ownKnob Try.prog.godebug = none := by kernel_rfl
theorem laid : laidOutB Try.prog = true := by kernel_rfl
theorem full (t e : TypeId) (h : t < Try.prog.types.size) (hu : Try.prog.underlying t = some (.slice e)) : 0 < Try.prog.cellsOf e :=
  of_decide_eq_true (slices_of (fun _ e => decide (0 < Try.prog.cellsOf e)) (by kernel_rfl) t e h hu)
theorem full2 (t e : TypeId) (h : t < Try.prog.types.size) (hu : Try.prog.underlying t = some (.slice e)) : 1 ≤ Try.prog.bytesOf e :=
  of_decide_eq_true (slices_of (fun _ e => decide (1 ≤ Try.prog.bytesOf e)) (by kernel_rfl) t e h hu)
section
variable {N : Nat}
theorem rt_of {n : Nat} {ps : List PV} (h : Shape Try.prog N n 34 ps) : ∃ v : Rt, ps = v.cells := by
  obtain ⟨m, pss, _, rfl, h2⟩ := shape_struct tt_ok rfl h
  cases h2 with | cons ha h2 => cases h2 with | cons hb h2 => cases h2 with | cons hc h2 => cases h2 with | cons hd h2 => cases h2 with | cons he h2 => cases h2 with | cons hf h2 => cases h2 with | nil =>
  obtain ⟨a, rfl, _⟩ := shape_int tt_ok rfl ha
  obtain ⟨b, rfl, _⟩ := shape_int tt_ok rfl hb
  obtain ⟨c, rfl, _⟩ := shape_int tt_ok rfl hc
  obtain ⟨d, rfl, _⟩ := shape_int tt_ok rfl hd
  obtain ⟨e, rfl, _⟩ := shape_int tt_ok rfl he
  obtain ⟨f, rfl, _⟩ := shape_int tt_ok rfl hf
  exact ⟨⟨a, b, c, d, e, f⟩, rfl⟩
theorem rts_of {n : Nat} {ps : List PV} (h : Shape Try.prog N n 50 ps) : ∃ l : List Rt, ps = [.seq (l.map Rt.cells)] := by
  obtain ⟨m, rows, _, rfl, _, hr⟩ := shape_slice tt_ok rfl h
  obtain ⟨l, rfl⟩ := rows_of (f := Rt.cells) fun r hr' => rt_of (hr r hr')
  exact ⟨l, rfl⟩
theorem ow_of {n : Nat} {ps : List PV} (h : Shape Try.prog N n 52 ps) : ∃ v : Ow, ps = v.cells := by
  obtain ⟨m, pss, _, rfl, h2⟩ := shape_struct tt_ok rfl h
  cases h2 with | cons ha h2 => cases h2 with | cons hb h2 => cases h2 with | nil =>
  obtain ⟨a, rfl, _⟩ := shape_int tt_ok rfl ha
  obtain ⟨b, rfl⟩ := rts_of hb
  exact ⟨⟨a, b⟩, rfl⟩
theorem ows_of {n : Nat} {ps : List PV} (h : Shape Try.prog N n 29 ps) : ∃ l : List Ow, ps = [.seq (l.map Ow.cells)] := by
  obtain ⟨m, rows, _, rfl, _, hr⟩ := shape_slice tt_ok rfl h
  obtain ⟨l, rfl⟩ := rows_of (f := Ow.cells) fun r hr' => ow_of (hr r hr')
  exact ⟨l, rfl⟩
theorem sm_of {n : Nat} {ps : List PV} (h : Shape Try.prog N n 58 ps) : ∃ v : Sm, ps = v.cells := by
  obtain ⟨m, pss, _, rfl, h2⟩ := shape_struct tt_ok rfl h
  cases h2 with | cons ha h2 => cases h2 with | cons hb h2 => cases h2 with | cons hc h2 => cases h2 with | nil =>
  obtain ⟨a, rfl, _⟩ := shape_int tt_ok rfl ha
  obtain ⟨b, rfl, _⟩ := shape_int tt_ok rfl hb
  obtain ⟨c, rfl, _⟩ := shape_int tt_ok rfl hc
  exact ⟨⟨a, b, c⟩, rfl⟩
theorem tb_of {n : Nat} {ps : List PV} (h : Shape Try.prog N n 63 ps) : ∃ v : Tb, ps = v.cells := by
  obtain ⟨m, pss, _, rfl, h2⟩ := shape_struct tt_ok rfl h
  cases h2 with | cons ha h2 => cases h2 with | cons hb h2 => cases h2 with | cons hc h2 => cases h2 with | cons hd h2 => cases h2 with | cons he h2 => cases h2 with | cons hf h2 => cases h2 with | nil =>
  obtain ⟨a, rfl, _⟩ := shape_str tt_ok rfl ha
  obtain ⟨_, b, _, rfl, _, _⟩ := shape_slice tt_ok rfl hb
  obtain ⟨_, c, _, rfl, _, hr⟩ := shape_slice tt_ok rfl hc
  obtain ⟨c, rfl⟩ := rows_of (f := I1) fun r hr' => by
    obtain ⟨x, rfl, _⟩ := shape_int tt_ok rfl (hr r hr'); exact ⟨x, rfl⟩
  obtain ⟨_, d, _, rfl, _, _⟩ := shape_slice tt_ok rfl hd
  obtain ⟨_, e, _, rfl, _, _⟩ := shape_slice tt_ok rfl he
  obtain ⟨_, f, _, rfl, _, hr⟩ := shape_slice tt_ok rfl hf
  obtain ⟨f, rfl⟩ := rows_of (f := Sm.cells) fun r hr' => sm_of (hr r hr')
  exact ⟨⟨a, b, c, d, e, f⟩, rfl⟩
theorem sc_of {n : Nat} {ps : List PV} (h : Shape Try.prog N n 27 ps) : ∃ v : Sc, ps = scC v := by
  obtain ⟨m, pss, _, rfl, h2⟩ := shape_struct tt_ok rfl h
  cases h2 with | cons ha h2 => cases h2 with | nil =>
  obtain ⟨_, c, _, rfl, _, hr⟩ := shape_slice tt_ok rfl ha
  obtain ⟨c, rfl⟩ := rows_of (f := Tb.cells) fun r hr' => tb_of (hr r hr')
  exact ⟨c, rfl⟩
theorem agg_of {t : TypeId} {p : PV} (ha : tiAgg tt t = some true) (h : ArgShape Try.prog N t p) : ∃ n cs, p = .agg cs ∧ Shape Try.prog N n t cs := by
  obtain ⟨n, ⟨_, cs, h1, h2⟩ | ⟨h1, _⟩⟩ := h
  · exact ⟨n, cs, h1, h2⟩
  · rw [(tiAgg_ok tt_ok ha).1] at h1; cases h1
theorem one_of {t : TypeId} {p : PV} (ha : tiAgg tt t = some false) (h : ArgShape Try.prog N t p) : ∃ n, Shape Try.prog N n t [p] := by
  obtain ⟨n, ⟨h1, _⟩ | ⟨_, h2⟩⟩ := h
  · rw [(tiAgg_ok tt_ok ha).1] at h1; cases h1
  · exact ⟨n, h2⟩
end
end Go.Proofs.Ytbcdgocepnkpeaa
