import Derived.Test.YtghjdkbmjjalmaaExRef3
import Derived.Test.YtghjdkbmjjalmaaExArgs
namespace Go.Proofs.Ytghjdkbmjjalmaa
open Go Go.Abs Go.ChangeShapes Go.WideShapes Go.ChangeAt Go.RowKit
set_option maxRecDepth 10000
section
variable {N : Nat}
theorem exl_of {n : Nat} {ps : List PV} (h : Shape Try.prog N n 26 ps) : ∃ e : Ex, ps = e.lit := by
  obtain ⟨e, rfl⟩ := ex_of h
  exact ⟨e, (Ex.lit_eq e).symm⟩
theorem col_of {n : Nat} {ps : List PV} (h : Shape Try.prog N n 46 ps) : ∃ v : Col, ps = v.cells := by
  obtain ⟨m, pss, _, rfl, h2⟩ := shape_struct tt_ok rfl h
  cases h2 with | cons ha h2 => cases h2 with | cons hb h2 => cases h2 with | cons hc h2 => cases h2 with | cons hd h2 => cases h2 with | nil =>
  obtain ⟨a, rfl, _⟩ := shape_str tt_ok rfl ha
  obtain ⟨b, rfl, _⟩ := shape_int tt_ok rfl hb
  obtain ⟨c, rfl, _⟩ := shape_int tt_ok rfl hc
  obtain ⟨d, rfl⟩ := shape_bool tt_ok rfl hd
  exact ⟨⟨a, b, c, d⟩, rfl⟩
theorem cols_of {n : Nat} {ps : List PV} (h : Shape Try.prog N n 44 ps) : ∃ l, ps = [.seq (Col.rows l)] := by
  obtain ⟨m, rows, _, rfl, _, hr⟩ := shape_slice tt_ok rfl h
  obtain ⟨l, rfl⟩ := rows_of (f := Col.cells) fun r hr' => col_of (hr r hr')
  exact ⟨l, rfl⟩
end
end Go.Proofs.Ytghjdkbmjjalmaa
