/-
  which rights any operations need, or why they do not go, is what the document says
-/
import Derived.Test.YtigmnfepdlbcpaaGreatDoorRvClaim1f
import Derived.Test.YtigmnfepdlbcpaaGreatDoorRvClaim1a
import Derived.SevenTiedAt
set_option linter.all false
namespace Go.Proofs.YtigmnfepdlbcpaaGreatDoor
open Go Go.Abs Go.ChangeShapes Go.WideShapes Go.ChangeAt Go.RowKit
set_option maxRecDepth 100000
theorem aE7 :Rows.ClaimOfSaid:=
 OpenClaim.holds_of_wide 3 Tryz.f3 rfl rfl rfl rfl rfl rfl rfl ⟨rfl,rfl,rfl,rfl,rfl⟩ rfl rfl rfl rfl rfl fact1 Tryz.func3 aNy aNZ aNJ
  λos a H enc _=>lifted os a H enc
theorem proved :Rows.ClaimOfCardSaid:=
  Claim7.holds_tied_plain_at .later [] [.data, .pinned] true (true, "aa8254d7436aa8e8f9c15303aad9e18ee844f6b80b9e8fad11ebb9f41f6dfdae") false
    aE7 (λ_ h=>by cases h) aNI (λ_ h=>by cases h) claimOf_row_tie rfl ⟨rfl,rfl⟩ aNY rfl
    (λf fn hf a=>by
      obtain rfl:f=3:=Option.some.inj (fact1.symm.trans hf)|>.symm
      obtain rfl:fn=Tryz.f3:=(Option.some.inj (Tryz.func3.symm.trans a)).symm
      exact⟨aN2,λj t ht=>by
        rw[Tryz.params3]at ht
        have hm:=List.mem_of_getElem? (l:=Tryz.f3.params.toList) (by rw[Tryz.params3];simpa using ht)
        rw[Tryz.params3]at hm
        simp only[zmc,List.not_mem_nil,or_false]at hm
        rcases hm with rfl|rfl|rfl|rfl|rfl<;>first|exact aLV|exact aM6|exact aMO|exact aMm|exact aMt⟩)
    aNe
end Go.Proofs.YtigmnfepdlbcpaaGreatDoor
