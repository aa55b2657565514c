/-
  What a writer didn't know of stays: a multi-value that another one wrote, and a number that another one put, are there behind a write, and a take, by one that didn't know of it; by one that did they aren't. For every two numbers.
-/
import Derived.Test.YtloecjjehapblaaGreatDoorOpClaim5f
import Derived.Test.YtloecjjehapblaaGreatDoorOpClaim5a
import Derived.Test.YtloecjjehapblaaGreatDoorTie
import Derived.Test.YtloecjjehapblaaGreatDoorCards
import Derived.SevenTiedAt
set_option linter.unusedSimpArgs false
set_option linter.unusedVariables false
namespace Go.Proofs.YtloecjjehapblaaGreatDoor
open Go Go.Abs Go.ChangeShapes Go.WideShapes Go.ChangeAt Go.RowKit
set_option maxRecDepth 100000
theorem axE :Rows.OpKnowsSaid:=
 OpenClaim.holds_of_wide 8 Tryz.f8 rfl rfl rfl rfl rfl rfl rfl ⟨rfl,rfl,rfl,rfl,rfl⟩ rfl rfl rfl rfl rfl fact1 Tryz.func8 aGb aGz aGk
  (λos started H enc _=>lifted os started H enc)
theorem proved :Rows.OpKnowsCardSaid:=
  Claim7.holds_tied_plain_at .later [] [.data, .pinned] true (true, "d1370e1fadb3af4c411a2b3eecb37007d056ee24850089c118eba4ba415d0123") false
    axE (λ_ h=>by cases h) aGj (λ_ h=>by cases h) opKnows_row_tie rfl ⟨rfl,rfl⟩ aGy rfl
    (λf fn hf hfn=>by
      obtain rfl:f=8:=Option.some.inj (fact1.symm.trans hf)|>.symm
      obtain rfl:fn=Tryz.f8:=(Option.some.inj (Tryz.func8.symm.trans hfn)).symm
      exact ⟨aGE,λj t ht=>by
        rw [Tryz.params8] at ht
        have hm:=List.mem_of_getElem? (l:=Tryz.f8.params.toList) (by rw [Tryz.params8];simpa using ht)
        rw [Tryz.params8] at hm
        simp only [zmc,List.not_mem_nil,or_false] at hm
        rcases hm with rfl|rfl|rfl<;>first|exact aEt|exact aFG⟩)
    aFO
end Go.Proofs.YtloecjjehapblaaGreatDoor
