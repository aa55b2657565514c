/-
  ClaimFrame of the given Leango: nothing but what the operations touch has changed, for every input.
-/
import Derived.Test.YtfablfldonhkiaaGreatDoorClClaim3f
import Derived.Test.YtfablfldonhkiaaGreatDoorClClaim3a
import Derived.Test.YtfablfldonhkiaaGreatDoorTie
import Derived.Test.YtfablfldonhkiaaGreatDoorCards
import Derived.SevenTiedAt
set_option linter.unusedSimpArgs false
set_option linter.unusedVariables false
namespace Go.Proofs.YtfablfldonhkiaaGreatDoor
open Go Go.Abs Go.ChangeShapes Go.WideShapes Go.ChangeAt Go.RowKit
set_option maxRecDepth 100000
theorem aBL :Rows.ClaimFrameSaid:=
 OpenClaim.holds_of_wide 5 Tryz.f5 rfl rfl rfl rfl rfl rfl rfl ⟨rfl,rfl,rfl,rfl,rfl⟩ rfl rfl rfl rfl rfl fact1 Tryz.func5 aJ6 aKz aKg
  (λos a H enc _=>lifted os a H enc)
theorem proved :Rows.ClaimFrameCardSaid:=
  Claim7.holds_tied_plain_at .later [] [.data, .pinned] true (true, "cf7bce60202627aedfe7340f3a94d77c8970d4f9727b881ddd2b993ea3e36e60") false
    aBL (λ_ h=>by cases h) aKf (λ_ h=>by cases h) claimFrame_row_tie rfl ⟨rfl,rfl⟩ aKx rfl
    (λf fn hf a=>by
      obtain rfl:f=5:=Option.some.inj (fact1.symm.trans hf)|>.symm
      obtain rfl:fn=Tryz.f5:=(Option.some.inj (Tryz.func5.symm.trans a)).symm
      exact ⟨aKC,λj t ht=>by
        rw [Tryz.params5] at ht
        have hm:=List.mem_of_getElem? (l:=Tryz.f5.params.toList) (by rw [Tryz.params5];simpa using ht)
        rw [Tryz.params5] at hm
        simp only [zmc,List.not_mem_nil,or_false] at hm
        rcases hm with rfl|rfl|rfl|rfl|rfl|rfl|rfl<;>first|exact aIw|exact aJH|exact aJq|exact aIV|exact aI3|exact aJG|exact aII⟩)
    aJN
end Go.Proofs.YtfablfldonhkiaaGreatDoor
