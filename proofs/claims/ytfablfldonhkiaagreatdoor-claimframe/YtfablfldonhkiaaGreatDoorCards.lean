/-
  DERIVED. GIVEN WITH THE SEED: THE CARDS: each row of YtfablfldonhkiaaGreatDoorRows.lean that lists a variable, with what it lists TIED to the program's text (the seventh form; the later family's looks); each row that meets fmt, with fmt's text TOLD by the authors' own Lean function (tested against real Go, not proved from fmt's source: count such statements apart). THE CARD IS WHAT COUNTS. Prove the row's statement (the work); the ties are given (YtfablfldonhkiaaGreatDoorTie.lean); close each card by the builder's one call (the guide's Derived/Test/ToyasCard.lean, 'card_holds'). Laid BY PROGRAM, IN A SANDBOX (cutbox-door.mjs). By AI agents, Wed Nov 11 2026. No macro, syntax, notation, axiom, sorry.
-/
import Derived.Test.YtfablfldonhkiaaGreatDoorRows
import GoSem.ClaimSeven
namespace Go.Proofs.YtfablfldonhkiaaGreatDoor
namespace Rows

/-- THE TIED CARD OF 'homesteadlaw19.ClaimRows'. -/
def claimRowsCard : Claim7 := { stood := { row := claimRowsRow, standIns := [], harness := (true, "cf7bce60202627aedfe7340f3a94d77c8970d4f9727b881ddd2b993ea3e36e60"), looks := false }, kinds := [], alts := [], laidByText := true, laidKinds := [.data, .pinned], laidTests := true, laidLooks := .later }
def ClaimRowsCardSaid : Prop := Claim7.holds Tryz.pinned (.plain (OpenSpec.ofChange claimRowsSpec)) claimRowsCard

/-- THE TIED CARD OF 'homesteadlaw19.ClaimValues'. -/
def claimValuesCard : Claim7 := { stood := { row := claimValuesRow, standIns := [], harness := (true, "cf7bce60202627aedfe7340f3a94d77c8970d4f9727b881ddd2b993ea3e36e60"), looks := false }, kinds := [], alts := [], laidByText := true, laidKinds := [.data, .pinned], laidTests := true, laidLooks := .later }
def ClaimValuesCardSaid : Prop := Claim7.holds Tryz.pinned (.plain (OpenSpec.ofChange claimValuesSpec)) claimValuesCard

/-- THE TIED CARD OF 'homesteadlaw19.ClaimFrame'. -/
def claimFrameCard : Claim7 := { stood := { row := claimFrameRow, standIns := [], harness := (true, "cf7bce60202627aedfe7340f3a94d77c8970d4f9727b881ddd2b993ea3e36e60"), looks := false }, kinds := [], alts := [], laidByText := true, laidKinds := [.data, .pinned], laidTests := true, laidLooks := .later }
def ClaimFrameCardSaid : Prop := Claim7.holds Tryz.pinned (.plain (OpenSpec.ofChange claimFrameSpec)) claimFrameCard

/-- THE SECOND FORM's CARD OF 'homesteadlaw19.ClaimRows'. -/
def claimRowsUptoCard : Claim7 := { stood := { row := claimRowsUptoRow, standIns := [], harness := (true, "cf7bce60202627aedfe7340f3a94d77c8970d4f9727b881ddd2b993ea3e36e60"), looks := false }, kinds := [], alts := [], laidByText := true, laidKinds := [.data, .pinned], laidTests := true, laidLooks := .later }
def ClaimRowsUptoCardSaid : Prop := Claim7.holds Tryz.pinned (.plain (OpenSpec.upto claimRowsSpec)) claimRowsUptoCard

/-- THE SECOND FORM's CARD OF 'homesteadlaw19.ClaimValues'. -/
def claimValuesUptoCard : Claim7 := { stood := { row := claimValuesUptoRow, standIns := [], harness := (true, "cf7bce60202627aedfe7340f3a94d77c8970d4f9727b881ddd2b993ea3e36e60"), looks := false }, kinds := [], alts := [], laidByText := true, laidKinds := [.data, .pinned], laidTests := true, laidLooks := .later }
def ClaimValuesUptoCardSaid : Prop := Claim7.holds Tryz.pinned (.plain (OpenSpec.upto claimValuesSpec)) claimValuesUptoCard

/-- THE SECOND FORM's CARD OF 'homesteadlaw19.ClaimFrame'. -/
def claimFrameUptoCard : Claim7 := { stood := { row := claimFrameUptoRow, standIns := [], harness := (true, "cf7bce60202627aedfe7340f3a94d77c8970d4f9727b881ddd2b993ea3e36e60"), looks := false }, kinds := [], alts := [], laidByText := true, laidKinds := [.data, .pinned], laidTests := true, laidLooks := .later }
def ClaimFrameUptoCardSaid : Prop := Claim7.holds Tryz.pinned (.plain (OpenSpec.upto claimFrameSpec)) claimFrameUptoCard
end Rows
end Go.Proofs.YtfablfldonhkiaaGreatDoor
