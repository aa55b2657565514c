/-
  ClaimSums of the given Leango: by how much any base's bounds' groups are more than another one's is what the document says, for every input.
-/
import Derived.Test.YtnogfoojjaainaaGreatDoorCmClaim1f
import Derived.Test.YtnogfoojjaainaaGreatDoorCmClaim1a
import Derived.Test.YtnogfoojjaainaaGreatDoorTie
import Derived.Test.YtnogfoojjaainaaGreatDoorCards
import Derived.SevenTiedAt
set_option linter.unusedSimpArgs false
set_option linter.unusedVariables false
namespace Go.Proofs.YtnogfoojjaainaaGreatDoor
open Go Go.Abs Go.ChangeShapes Go.WideShapes Go.ChangeAt Go.RowKit
set_option maxRecDepth 100000
theorem aB8 :Rows.ClaimSumsSaid:=
 OpenClaim.holds_of_wide 3 Tryz.f3 rfl rfl rfl rfl rfl rfl rfl ⟨rfl,rfl,rfl,rfl,rfl⟩ rfl rfl rfl rfl rfl fact1 Tryz.func3 aJ1 aKv aKb
  (λos a H enc _=>lifted os a H enc)
theorem proved :Rows.ClaimSumsCardSaid:=
  Claim7.holds_tied_plain_at .later [] [.data, .pinned] true (true, "4ac0df6e9431ff588cf1bacf0a0f43fb2bac79d705857ec834b5837de4a07ca7") false
    aB8 (λ_ h=>by cases h) aKa (λ_ h=>by cases h) claimSums_row_tie rfl ⟨rfl,rfl⟩ aKt rfl
    (λf fn hf a=>by
      obtain rfl:f=3:=Option.some.inj (fact1.symm.trans hf)|>.symm
      obtain rfl:fn=Tryz.f3:=(Option.some.inj (Tryz.func3.symm.trans a)).symm
      exact ⟨aKy,λj t ht=>by
        rw [Tryz.params3] at ht
        have hm:=List.mem_of_getElem? (l:=Tryz.f3.params.toList) (by rw [Tryz.params3];simpa using ht)
        rw [Tryz.params3] at hm
        simp only [zmc,List.not_mem_nil,or_false] at hm
        rcases hm with rfl|rfl|rfl<;>first|exact aIv|exact aJA⟩)
    aJH
end Go.Proofs.YtnogfoojjaainaaGreatDoor
