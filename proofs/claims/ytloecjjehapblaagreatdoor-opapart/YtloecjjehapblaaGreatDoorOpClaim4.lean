/-
  Operations about unlike rows may change places, of whichever writers, unless one deletes. For every schema, base, operations, writers and knowledge.
-/
import Derived.Test.YtloecjjehapblaaGreatDoorOpClaim4f
import Derived.Test.YtloecjjehapblaaGreatDoorOpClaim4a
import Derived.Test.YtloecjjehapblaaGreatDoorTie
import Derived.Test.YtloecjjehapblaaGreatDoorCards
import Derived.SevenTiedAt
set_option linter.unusedSimpArgs false
set_option linter.unusedVariables false
namespace Go.Proofs.YtloecjjehapblaaGreatDoor
open Go Go.Abs Go.ChangeShapes Go.WideShapes Go.ChangeAt Go.RowKit
set_option maxRecDepth 100000
theorem mW :Rows.OpApartSaid:=
 OpenClaim.holds_of_wide 7 Tryz.f7 rfl rfl rfl rfl rfl rfl rfl ⟨rfl,rfl,rfl,rfl,rfl⟩ rfl rfl rfl rfl rfl fact1 Tryz.func7 ajR alW akP
  (λos started H enc _=>lifted os started H enc)
theorem proved :Rows.OpApartCardSaid:=
  Claim7.holds_tied_plain_at .later [] [.data, .pinned] true (true, "d1370e1fadb3af4c411a2b3eecb37007d056ee24850089c118eba4ba415d0123") false
    mW (λ_ h=>by cases h) akO (λ_ h=>by cases h) opApart_row_tie rfl ⟨rfl,rfl⟩ alR rfl
    (λf fn hf hfn=>by
      obtain rfl:f=7:=Option.some.inj (fact1.symm.trans hf)|>.symm
      obtain rfl:fn=Tryz.f7:=(Option.some.inj (Tryz.func7.symm.trans hfn)).symm
      exact ⟨amA,λj t ht=>by
        rw [Tryz.params7] at ht
        have hm:=List.mem_of_getElem? (l:=Tryz.f7.params.toList) (by rw [Tryz.params7];simpa using ht)
        rw [Tryz.params7] at hm
        simp only [zmc,List.not_mem_nil,or_false] at hm
        rcases hm with rfl|rfl|rfl|rfl|rfl|rfl|rfl|rfl<;>first|exact zQ|exact acQ|exact abY|exact aaQ|exact aaX⟩)
    aiJ
end Go.Proofs.YtloecjjehapblaaGreatDoor
