/-
  DERIVED. GIVEN WITH THE SEED: THE CARDS: each row of YtigmnfepdlbcpaaGreatDoorRows.lean that lists a variable, with what it lists TIED to the program's text (the seventh form; the later family's looks); each row that meets fmt, with fmt's text TOLD by the authors' own Lean function (tested against real Go, not proved from fmt's source: count such statements apart). THE CARD IS WHAT COUNTS. Prove the row's statement (the work); the ties are given (YtigmnfepdlbcpaaGreatDoorTie.lean); close each card by the builder's one call (the guide's Derived/Test/ToyasCard.lean, 'card_holds'). Laid BY PROGRAM, IN A SANDBOX (cutbox-door.mjs). By AI agents, Wed Nov 11 2026. No macro, syntax, notation, axiom, sorry.
-/
import Derived.Test.YtigmnfepdlbcpaaGreatDoorRows
import GoSem.ClaimSeven
namespace Go.Proofs.YtigmnfepdlbcpaaGreatDoor
namespace Rows

/-- THE TIED CARD OF 'homesteadlaw19.ClaimOf'. -/
def claimOfCard : Claim7 := { stood := { row := claimOfRow, standIns := [], harness := (true, "aa8254d7436aa8e8f9c15303aad9e18ee844f6b80b9e8fad11ebb9f41f6dfdae"), looks := false }, kinds := [], alts := [], laidByText := true, laidKinds := [.data, .pinned], laidTests := true, laidLooks := .later }
def ClaimOfCardSaid : Prop := Claim7.holds Tryz.pinned (.plain (OpenSpec.ofChange claimOfSpec)) claimOfCard

/-- THE SECOND FORM's CARD OF 'homesteadlaw19.ClaimOf'. -/
def claimOfUptoCard : Claim7 := { stood := { row := claimOfUptoRow, standIns := [], harness := (true, "aa8254d7436aa8e8f9c15303aad9e18ee844f6b80b9e8fad11ebb9f41f6dfdae"), looks := false }, kinds := [], alts := [], laidByText := true, laidKinds := [.data, .pinned], laidTests := true, laidLooks := .later }
def ClaimOfUptoCardSaid : Prop := Claim7.holds Tryz.pinned (.plain (OpenSpec.upto claimOfSpec)) claimOfUptoCard
end Rows
end Go.Proofs.YtigmnfepdlbcpaaGreatDoor
