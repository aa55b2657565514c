import Derived.Test.YtbcdgocepnkpeaaRtArgs
import Derived.Test.YtbcdgocepnkpeaaRtMade
set_option linter.unusedSimpArgs false
set_option linter.unusedVariables false
namespace Go.Proofs.Ytbcdgocepnkpeaa
open Go Go.Abs Go.ChangeShapes Go.WideShapes Go.ChangeAt Go.RowKit
set_option maxRecDepth 10000
theorem gs_of {N n : Nat} {ps : List PV} (h : Shape Try.prog N n 65 ps) : ∃ v : Gs, ps = v.cells := by
  obtain ⟨m, pss, _, rfl, h2⟩ := shape_struct tt_ok rfl h
  cases h2 with | cons ha h2 => cases h2 with | cons hb h2 => cases h2 with | cons hc h2 => cases h2 with | cons hd h2 => cases h2 with | nil =>
  obtain ⟨a, rfl, _⟩ := shape_int tt_ok rfl ha
  obtain ⟨b, rfl, _⟩ := shape_int tt_ok rfl hb
  obtain ⟨c, rfl⟩ := rt_of hc
  obtain ⟨d, rfl, _⟩ := shape_int tt_ok rfl hd
  exact ⟨⟨a, b, c, d⟩, rfl⟩
theorem gos_of {N n : Nat} {ps : List PV} (h : Shape Try.prog N n 22 ps) : ∃ l : List Gs, ps = [.seq (l.map Gs.cells)] := by
  obtain ⟨m, rows, _, rfl, _, hr⟩ := shape_slice tt_ok rfl h
  obtain ⟨l, rfl⟩ := rows_of (f := Gs.cells) fun r hr' => gs_of (hr r hr')
  exact ⟨l, rfl⟩
end Go.Proofs.Ytbcdgocepnkpeaa
