/-
  WhyNone of the given Leango: no row comes by dropping lines, for every input.
-/
import Derived.Test.YtppdefkgmegipaaGreatDoorWyClaim1f
import Derived.Test.YtppdefkgmegipaaGreatDoorWyClaim1a
import Derived.Test.YtppdefkgmegipaaGreatDoorTie
import Derived.Test.YtppdefkgmegipaaGreatDoorCards
import Derived.SevenTiedAt
set_option linter.unusedSimpArgs false
set_option linter.unusedVariables false
namespace Go.Proofs.YtppdefkgmegipaaGreatDoor
open Go Go.Abs Go.ChangeShapes Go.WideShapes Go.ChangeAt Go.RowKit
set_option maxRecDepth 100000
theorem aqK :Rows.WhyNoneSaid:=
 OpenClaim.holds_of_wide 3 Tryz.f3 rfl rfl rfl rfl rfl rfl rfl ⟨rfl,rfl,rfl,rfl,rfl⟩ rfl rfl rfl rfl rfl fact1 Tryz.func3 aCh aCF aCs
  (λos started H enc _=>lifted os started H enc)
theorem proved :Rows.WhyNoneCardSaid:=
  Claim7.holds_tied_plain_at .later [] [.data, .pinned] true (true, "5ec13e2cfb7902a87225f2635569ea761ef61dc8663b52557747c8f96f3a9824") false
    aqK (λ_ h=>by cases h) aCr (λ_ h=>by cases h) whyNone_row_tie rfl ⟨rfl,rfl⟩ aCE rfl
    (λf fn hf hfn=>by
      obtain rfl:f=3:=Option.some.inj (fact1.symm.trans hf)|>.symm
      obtain rfl:fn=Tryz.f3:=(Option.some.inj (Tryz.func3.symm.trans hfn)).symm
      exact ⟨aCJ,λj t ht=>by
        rw [Tryz.params3] at ht
        have hm:=List.mem_of_getElem? (l:=Tryz.f3.params.toList) (by rw [Tryz.params3];simpa using ht)
        rw [Tryz.params3] at hm
        simp only [zmc,List.not_mem_nil,or_false] at hm
        rcases hm with rfl|rfl|rfl|rfl|rfl|rfl<;>first|exact aAQ|exact aBS|exact aBy|exact aA6|exact aBe|exact aBR⟩)
    aBZ
end Go.Proofs.YtppdefkgmegipaaGreatDoor
