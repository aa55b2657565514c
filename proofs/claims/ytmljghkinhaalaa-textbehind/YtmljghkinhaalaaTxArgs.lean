import Derived.Test.YtmljghkinhaalaaTxTells
import Derived.Test.YtmljghkinhaalaaAbsF
import Derived.Test.YtmljghkinhaalaaRows
import Derived.SizedLaws
set_option linter.unusedSimpArgs false
set_option linter.unusedVariables false
namespace Go.Proofs.Ytmljghkinhaalaa
open Go Go.Abs Go.ChangeShapes Go.WideShapes Go.ChangeAt Go.RowKit
set_option maxRecDepth 10000
theorem own : ownKnob Try.prog.godebug = none := by kernel_rfl
theorem laid : laidOutB Try.prog = true := by kernel_rfl
theorem full (t e : TypeId) (h : t < Try.prog.types.size) (hu : Try.prog.underlying t = some (.slice e)) : 0 < Try.prog.cellsOf e :=
  of_decide_eq_true (slices_of (fun _ e => decide (0 < Try.prog.cellsOf e)) (by kernel_rfl) t e h hu)
theorem full2 (t e : TypeId) (h : t < Try.prog.types.size) (hu : Try.prog.underlying t = some (.slice e)) : 1 ≤ Try.prog.bytesOf e :=
  of_decide_eq_true (slices_of (fun _ e => decide (1 ≤ Try.prog.bytesOf e)) (by kernel_rfl) t e h hu)
section
variable {N : Nat}
theorem vl_of {n : Nat} {ps : List PV} (h : Shape Try.prog N n 23 ps) : ∃ v : Vl, ps = v.cells := by
  obtain ⟨m, pss, _, rfl, h2⟩ := shape_struct tt_ok rfl h
  cases h2 with | cons ha h2 => cases h2 with | cons hb h2 => cases h2 with | cons hc h2 => cases h2 with | nil =>
  obtain ⟨a, rfl, _⟩ := shape_int tt_ok rfl ha
  obtain ⟨b, rfl, _⟩ := shape_int tt_ok rfl hb
  obtain ⟨c, rfl, _⟩ := shape_str tt_ok rfl hc
  exact ⟨⟨a, b, c⟩, rfl⟩
theorem dt_of {n : Nat} {ps : List PV} (h : Shape Try.prog N n 37 ps) : ∃ v : Dt, ps = v.cells := by
  obtain ⟨m, pss, _, rfl, h2⟩ := shape_struct tt_ok rfl h
  cases h2 with | cons ha h2 => cases h2 with | cons hb h2 => cases h2 with | nil =>
  obtain ⟨a, rfl, _⟩ := shape_int tt_ok rfl ha
  obtain ⟨b, rfl, _⟩ := shape_int tt_ok rfl hb
  exact ⟨⟨a, b⟩, rfl⟩
theorem sp_of {n : Nat} {ps : List PV} (h : Shape Try.prog N n 42 ps) : ∃ v : Sp, ps = v.cells := by
  obtain ⟨m, pss, _, rfl, h2⟩ := shape_struct tt_ok rfl h
  cases h2 with | cons ha h2 => cases h2 with | cons hb h2 => cases h2 with | cons hc h2 => cases h2 with | nil =>
  obtain ⟨a, rfl, _⟩ := shape_int tt_ok rfl ha
  obtain ⟨b, rfl, _⟩ := shape_int tt_ok rfl hb
  obtain ⟨c, rfl, _⟩ := shape_int tt_ok rfl hc
  exact ⟨⟨a, b, c⟩, rfl⟩
theorem pt_of {n : Nat} {ps : List PV} (h : Shape Try.prog N n 39 ps) : ∃ v : Pt, ps = v.cells := by
  obtain ⟨m, pss, _, rfl, h2⟩ := shape_struct tt_ok rfl h
  cases h2 with | cons ha h2 => cases h2 with | cons hb h2 => cases h2 with | cons hc h2 => cases h2 with | cons hd h2 => cases h2 with | cons he h2 => cases h2 with | cons hf h2 => cases h2 with | cons hg h2 => cases h2 with | nil =>
  obtain ⟨a, rfl⟩ := vl_of ha
  obtain ⟨b, rfl⟩ := dt_of hb
  obtain ⟨c, rfl, _⟩ := shape_int tt_ok rfl hc
  obtain ⟨d, rfl, _⟩ := shape_int tt_ok rfl hd
  obtain ⟨e, rfl⟩ := dt_of he
  obtain ⟨f, rfl, _⟩ := shape_int tt_ok rfl hf
  obtain ⟨g, rfl⟩ := shape_bool tt_ok rfl hg
  exact ⟨⟨a, b, c, d, e, f, g⟩, rfl⟩
theorem pts_of {n : Nat} {ps : List PV} (h : Shape Try.prog N n 24 ps) : ∃ l : List Pt, ps = [.seq (l.map Pt.cells)] := by
  obtain ⟨m, rows, _, rfl, _, hr⟩ := shape_slice tt_ok rfl h
  obtain ⟨l, rfl⟩ := rows_of (f := Pt.cells) fun r hr' => pt_of (hr r hr')
  exact ⟨l, rfl⟩
theorem strs_of {n : Nat} {ps : List PV} (h : Shape Try.prog N n 43 ps) : ∃ l : List ByteArray, ps = [.seq (l.map S1)] := by
  obtain ⟨m, rows, _, rfl, _, hr⟩ := shape_slice tt_ok rfl h
  obtain ⟨l, rfl⟩ := rows_of (f := S1) fun r hr' => by
    obtain ⟨x, rfl, _⟩ := shape_str tt_ok rfl (hr r hr'); exact ⟨x, rfl⟩
  exact ⟨l, rfl⟩
theorem cl_of {n : Nat} {ps : List PV} (h : Shape Try.prog N n 26 ps) : ∃ v : Cl, ps = v.cells := by
  obtain ⟨m, pss, _, rfl, h2⟩ := shape_struct tt_ok rfl h
  cases h2 with | cons ha h2 => cases h2 with | cons hb h2 => cases h2 with | cons hc h2 => cases h2 with | nil =>
  obtain ⟨a, rfl, _⟩ := shape_int tt_ok rfl ha
  obtain ⟨b, rfl⟩ := vl_of hb
  obtain ⟨c, rfl⟩ := pts_of hc
  exact ⟨⟨a, b, c⟩, rfl⟩
theorem agg_of {t : TypeId} {p : PV} (ha : tiAgg tt t = some true) (h : ArgShape Try.prog N t p) : ∃ n cs, p = .agg cs ∧ Shape Try.prog N n t cs := by
  obtain ⟨n, ⟨_, cs, h1, h2⟩ | ⟨h1, _⟩⟩ := h
  · exact ⟨n, cs, h1, h2⟩
  · rw [(tiAgg_ok tt_ok ha).1] at h1; cases h1
theorem one_of {t : TypeId} {p : PV} (ha : tiAgg tt t = some false) (h : ArgShape Try.prog N t p) : ∃ n, Shape Try.prog N n t [p] := by
  obtain ⟨n, ⟨h1, _⟩ | ⟨_, h2⟩⟩ := h
  · rw [(tiAgg_ok tt_ok ha).1] at h1; cases h1
  · exact ⟨n, h2⟩
end
end Go.Proofs.Ytmljghkinhaalaa
