/-
  OpGood of the given Leango: what goes makes a base that may be, and what all operations make is good in all that binds it.
-/
import Derived.Test.YtloecjjehapblaaGreatDoorOpClaim1f
import Derived.Test.YtloecjjehapblaaGreatDoorOpClaim1a
import Derived.Test.YtloecjjehapblaaGreatDoorTie
import Derived.Test.YtloecjjehapblaaGreatDoorCards
import Derived.SevenTiedAt
set_option linter.unusedSimpArgs false
set_option linter.unusedVariables false
namespace Go.Proofs.YtloecjjehapblaaGreatDoor
open Go Go.Abs Go.ChangeShapes Go.WideShapes Go.ChangeAt Go.RowKit
set_option maxRecDepth 100000
theorem axF :Rows.OpGoodSaid:=
 OpenClaim.holds_of_wide 4 Tryz.f4 rfl rfl rfl rfl rfl rfl rfl ⟨rfl,rfl,rfl,rfl,rfl⟩ rfl rfl rfl rfl rfl fact1 Tryz.func4 aGa aGF aGm
  (λos started H enc _=>lifted os started H enc)
theorem proved :Rows.OpGoodCardSaid:=
  Claim7.holds_tied_plain_at .later [] [.data, .pinned] true (true, "d1370e1fadb3af4c411a2b3eecb37007d056ee24850089c118eba4ba415d0123") false
    axF (λ_ h=>by cases h) aGl (λ_ h=>by cases h) opGood_row_tie rfl ⟨rfl,rfl⟩ aGE rfl
    (λf fn hf hfn=>by
      obtain rfl:f=4:=Option.some.inj (fact1.symm.trans hf)|>.symm
      obtain rfl:fn=Tryz.f4:=(Option.some.inj (Tryz.func4.symm.trans hfn)).symm
      exact ⟨aGJ,λj t ht=>by
        rw [Tryz.params4] at ht
        have hm:=List.mem_of_getElem? (l:=Tryz.f4.params.toList) (by rw [Tryz.params4];simpa using ht)
        rw [Tryz.params4] at hm
        simp only [zmc,List.not_mem_nil,or_false] at hm
        rcases hm with rfl|rfl|rfl|rfl|rfl<;>first|exact aEu|exact aFF|exact aFn|exact aEP|exact aEY⟩)
    aFM
end Go.Proofs.YtloecjjehapblaaGreatDoor
