/-
  DERIVED. GIVEN WITH THE SEED: THE CARDS: each row of YtnogfoojjaainaaGreatDoorRows.lean that lists a variable, with what it lists TIED to the program's text (the seventh form; the later family's looks); each row that meets fmt, with fmt's text TOLD by the authors' own Lean function (tested against real Go, not proved from fmt's source: count such statements apart). THE CARD IS WHAT COUNTS. Prove the row's statement (the work); the ties are given (YtnogfoojjaainaaGreatDoorTie.lean); close each card by the builder's one call (the guide's Derived/Test/ToyasCard.lean, 'card_holds'). Laid BY PROGRAM, IN A SANDBOX (cutbox-door.mjs). By AI agents, Wed Nov 11 2026. No macro, syntax, notation, axiom, sorry.
-/
import Derived.Test.YtnogfoojjaainaaGreatDoorRows
import GoSem.ClaimSeven
namespace Go.Proofs.YtnogfoojjaainaaGreatDoor
namespace Rows

/-- THE TIED CARD OF 'homesteadlaw19.ClaimSums'. -/
def claimSumsCard : Claim7 := { stood := { row := claimSumsRow, standIns := [], harness := (true, "4ac0df6e9431ff588cf1bacf0a0f43fb2bac79d705857ec834b5837de4a07ca7"), looks := false }, kinds := [], alts := [], laidByText := true, laidKinds := [.data, .pinned], laidTests := true, laidLooks := .later }
def ClaimSumsCardSaid : Prop := Claim7.holds Tryz.pinned (.plain (OpenSpec.ofChange claimSumsSpec)) claimSumsCard

/-- THE TIED CARD OF 'homesteadlaw19.ClaimRaises'. -/
def claimRaisesCard : Claim7 := { stood := { row := claimRaisesRow, standIns := [], harness := (true, "4ac0df6e9431ff588cf1bacf0a0f43fb2bac79d705857ec834b5837de4a07ca7"), looks := false }, kinds := [], alts := [], laidByText := true, laidKinds := [.data, .pinned], laidTests := true, laidLooks := .later }
def ClaimRaisesCardSaid : Prop := Claim7.holds Tryz.pinned (.plain (OpenSpec.ofChange claimRaisesSpec)) claimRaisesCard

/-- THE SECOND FORM's CARD OF 'homesteadlaw19.ClaimSums'. -/
def claimSumsUptoCard : Claim7 := { stood := { row := claimSumsUptoRow, standIns := [], harness := (true, "4ac0df6e9431ff588cf1bacf0a0f43fb2bac79d705857ec834b5837de4a07ca7"), looks := false }, kinds := [], alts := [], laidByText := true, laidKinds := [.data, .pinned], laidTests := true, laidLooks := .later }
def ClaimSumsUptoCardSaid : Prop := Claim7.holds Tryz.pinned (.plain (OpenSpec.upto claimSumsSpec)) claimSumsUptoCard

/-- THE SECOND FORM's CARD OF 'homesteadlaw19.ClaimRaises'. -/
def claimRaisesUptoCard : Claim7 := { stood := { row := claimRaisesUptoRow, standIns := [], harness := (true, "4ac0df6e9431ff588cf1bacf0a0f43fb2bac79d705857ec834b5837de4a07ca7"), looks := false }, kinds := [], alts := [], laidByText := true, laidKinds := [.data, .pinned], laidTests := true, laidLooks := .later }
def ClaimRaisesUptoCardSaid : Prop := Claim7.holds Tryz.pinned (.plain (OpenSpec.upto claimRaisesSpec)) claimRaisesUptoCard
end Rows
end Go.Proofs.YtnogfoojjaainaaGreatDoor
