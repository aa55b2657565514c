/-
  An operation touches its own row alone, unless it deletes. For every schema, base, operation, writer and knowledge.
-/
import Derived.Test.YtloecjjehapblaaGreatDoorOpClaim3f
import Derived.Test.YtloecjjehapblaaGreatDoorOpClaim3a
import Derived.Test.YtloecjjehapblaaGreatDoorTie
import Derived.Test.YtloecjjehapblaaGreatDoorCards
import Derived.SevenTiedAt
set_option linter.unusedSimpArgs false
set_option linter.unusedVariables false
namespace Go.Proofs.YtloecjjehapblaaGreatDoor
open Go Go.Abs Go.ChangeShapes Go.WideShapes Go.ChangeAt Go.RowKit
set_option maxRecDepth 100000
theorem mW :Rows.OpOwnSaid:=
 OpenClaim.holds_of_wide 6 Tryz.f6 rfl rfl rfl rfl rfl rfl rfl ⟨rfl,rfl,rfl,rfl,rfl⟩ rfl rfl rfl rfl rfl fact1 Tryz.func6 ajR alW akP
  (λos started H enc _=>lifted os started H enc)
theorem proved :Rows.OpOwnCardSaid:=
  Claim7.holds_tied_plain_at .later [] [.data, .pinned] true (true, "d1370e1fadb3af4c411a2b3eecb37007d056ee24850089c118eba4ba415d0123") false
    mW (λ_ h=>by cases h) akO (λ_ h=>by cases h) opOwn_row_tie rfl ⟨rfl,rfl⟩ alR rfl
    (λf fn hf hfn=>by
      obtain rfl:f=6:=Option.some.inj (fact1.symm.trans hf)|>.symm
      obtain rfl:fn=Tryz.f6:=(Option.some.inj (Tryz.func6.symm.trans hfn)).symm
      exact ⟨amA,λj t ht=>by
        rw [Tryz.params6] at ht
        have hm:=List.mem_of_getElem? (l:=Tryz.f6.params.toList) (by rw [Tryz.params6];simpa using ht)
        rw [Tryz.params6] at hm
        simp only [zmc,List.not_mem_nil,or_false] at hm
        rcases hm with rfl|rfl|rfl|rfl|rfl|rfl|rfl<;>first|exact zQ|exact acQ|exact abY|exact aaQ|exact aaX|exact aFB⟩)
    aiJ
end Go.Proofs.YtloecjjehapblaaGreatDoor
