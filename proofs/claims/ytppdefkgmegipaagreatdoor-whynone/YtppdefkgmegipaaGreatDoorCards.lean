/-
  DERIVED. GIVEN WITH THE SEED: THE CARDS: each row of YtppdefkgmegipaaGreatDoorRows.lean that lists a variable, with what it lists TIED to the program's text (the seventh form; the later family's looks); each row that meets fmt, with fmt's text TOLD by the authors' own Lean function (tested against real Go, not proved from fmt's source: count such statements apart). THE CARD IS WHAT COUNTS. Prove the row's statement (the work); the ties are given (YtppdefkgmegipaaGreatDoorTie.lean); close each card by the builder's one call (the guide's Derived/Test/ToyasCard.lean, 'card_holds'). Laid BY PROGRAM, IN A SANDBOX (cutbox-door.mjs). By AI agents, Wed Nov 11 2026. No macro, syntax, notation, axiom, sorry.
-/
import Derived.Test.YtppdefkgmegipaaGreatDoorRows
import GoSem.ClaimSeven
namespace Go.Proofs.YtppdefkgmegipaaGreatDoor
namespace Rows

/-- THE TIED CARD OF 'homesteadlaw30.WhyNone'. -/
def whyNoneCard : Claim7 := { stood := { row := whyNoneRow, standIns := [], harness := (true, "5ec13e2cfb7902a87225f2635569ea761ef61dc8663b52557747c8f96f3a9824"), looks := false }, kinds := [], alts := [], laidByText := true, laidKinds := [.data, .pinned], laidTests := true, laidLooks := .later }
def WhyNoneCardSaid : Prop := Claim7.holds Tryz.pinned (.plain (OpenSpec.ofChange whyNoneSpec)) whyNoneCard

/-- THE SECOND FORM's CARD OF 'homesteadlaw30.WhyNone'. -/
def whyNoneUptoCard : Claim7 := { stood := { row := whyNoneUptoRow, standIns := [], harness := (true, "5ec13e2cfb7902a87225f2635569ea761ef61dc8663b52557747c8f96f3a9824"), looks := false }, kinds := [], alts := [], laidByText := true, laidKinds := [.data, .pinned], laidTests := true, laidLooks := .later }
def WhyNoneUptoCardSaid : Prop := Claim7.holds Tryz.pinned (.plain (OpenSpec.upto whyNoneSpec)) whyNoneUptoCard
end Rows
end Go.Proofs.YtppdefkgmegipaaGreatDoor
