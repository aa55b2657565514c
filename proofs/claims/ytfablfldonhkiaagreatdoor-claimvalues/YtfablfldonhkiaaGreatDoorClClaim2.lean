/-
  ClaimValues of the given Leango: each unique value and each foreign key that a row has behind the operations, and had not ahead of them, is claimed, for every input.
-/
import Derived.Test.YtfablfldonhkiaaGreatDoorClClaim2f
import Derived.Test.YtfablfldonhkiaaGreatDoorClClaim2a
import Derived.Test.YtfablfldonhkiaaGreatDoorTie
import Derived.Test.YtfablfldonhkiaaGreatDoorCards
import Derived.SevenTiedAt
set_option linter.unusedSimpArgs false
set_option linter.unusedVariables false
namespace Go.Proofs.YtfablfldonhkiaaGreatDoor
open Go Go.Abs Go.ChangeShapes Go.WideShapes Go.ChangeAt Go.RowKit
set_option maxRecDepth 100000
theorem xD :Rows.ClaimValuesSaid:=
 OpenClaim.holds_of_wide 4 Tryz.f4 rfl rfl rfl rfl rfl rfl rfl ⟨rfl,rfl,rfl,rfl,rfl⟩ rfl rfl rfl rfl rfl fact1 Tryz.func4 aB2 aC8 aCC
  (λos started H enc _=>lifted os started H enc)
theorem proved :Rows.ClaimValuesCardSaid:=
  Claim7.holds_tied_plain_at .later [] [.data, .pinned] true (true, "cf7bce60202627aedfe7340f3a94d77c8970d4f9727b881ddd2b993ea3e36e60") false
    xD (λ_ h=>by cases h) aCz (λ_ h=>by cases h) claimValues_row_tie rfl ⟨rfl,rfl⟩ aC2 rfl
    (λf fn hf hfn=>by
      obtain rfl:f=4:=Option.some.inj (fact1.symm.trans hf)|>.symm
      obtain rfl:fn=Tryz.f4:=(Option.some.inj (Tryz.func4.symm.trans hfn)).symm
      exact ⟨aDm,λj t ht=>by
        rw [Tryz.params4] at ht
        have hm:=List.mem_of_getElem? (l:=Tryz.f4.params.toList) (by rw [Tryz.params4];simpa using ht)
        rw [Tryz.params4] at hm
        simp only [zmc,List.not_mem_nil,or_false] at hm
        rcases hm with rfl|rfl|rfl|rfl|rfl<;>first|exact aoY|exact atK|exact asH|exact aqN|exact aqU⟩)
    aA2
end Go.Proofs.YtfablfldonhkiaaGreatDoor
