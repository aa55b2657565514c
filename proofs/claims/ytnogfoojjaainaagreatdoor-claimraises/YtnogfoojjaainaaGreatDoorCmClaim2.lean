/-
  no bound's group is raised by more than is claimed of it
-/
import Derived.Test.YtnogfoojjaainaaGreatDoorCmClaim2f
import Derived.Test.YtnogfoojjaainaaGreatDoorCmClaim2a
import Derived.Test.YtnogfoojjaainaaGreatDoorTie
import Derived.Test.YtnogfoojjaainaaGreatDoorCards
import Derived.SevenTiedAt
set_option linter.unusedSimpArgs false
set_option linter.unusedVariables false
namespace Go.Proofs.YtnogfoojjaainaaGreatDoor
open Go Go.Abs Go.ChangeShapes Go.WideShapes Go.ChangeAt Go.RowKit
set_option maxRecDepth 100000
theorem aCm :Rows.ClaimRaisesSaid:=
 OpenClaim.holds_of_wide 4 Tryz.f4 rfl rfl rfl rfl rfl rfl rfl ⟨rfl,rfl,rfl,rfl,rfl⟩ rfl rfl rfl rfl rfl fact1 Tryz.func4 aKm aKQ aKw
  λos a H enc _=>lifted os a H enc
theorem proved :Rows.ClaimRaisesCardSaid:=
  Claim7.holds_tied_plain_at .later [] [.data, .pinned] true (true, "4ac0df6e9431ff588cf1bacf0a0f43fb2bac79d705857ec834b5837de4a07ca7") false
    aCm (λ_ h=>by cases h) aKv (λ_ h=>by cases h) claimRaises_row_tie rfl ⟨rfl,rfl⟩ aKO rfl
    (λf fn hf a=>by
      obtain rfl:f=4:=Option.some.inj (fact1.symm.trans hf)|>.symm
      obtain rfl:fn=Tryz.f4:=(Option.some.inj (Tryz.func4.symm.trans a)).symm
      exact⟨aKT,λj t ht=>by
        rw[Tryz.params4]at ht
        have hm:=List.mem_of_getElem? (l:=Tryz.f4.params.toList) (by rw[Tryz.params4];simpa using ht)
        rw[Tryz.params4]at hm
        simp only[zmc,List.not_mem_nil,or_false]at hm
        rcases hm with rfl|rfl|rfl|rfl|rfl<;>first|exact aIL|exact aJW|exact aJC|exact aI9|exact aJg⟩)
    aJ3
end Go.Proofs.YtnogfoojjaainaaGreatDoor
