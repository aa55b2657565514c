/-
  DERIVED. GIVEN WITH THE SEED: THE CARDS: each row of YtcglimangneafaaGreatDoorRows.lean that lists a variable, with what it lists TIED to the program's text (the seventh form; the later family's looks); each row that meets fmt, with fmt's text TOLD by the authors' own Lean function (tested against real Go, not proved from fmt's source: count such statements apart). THE CARD IS WHAT COUNTS. Prove the row's statement (the work); the ties are given (YtcglimangneafaaGreatDoorTie.lean); close each card by the builder's one call (the guide's Derived/Test/ToyasCard.lean, 'card_holds'). Laid BY PROGRAM, IN A SANDBOX (cutbox-door.mjs). By AI agents, Wed Nov 11 2026. No macro, syntax, notation, axiom, sorry.
-/
import Derived.Test.YtcglimangneafaaGreatDoorRows
import GoSem.ClaimSeven
namespace Go.Proofs.YtcglimangneafaaGreatDoor
namespace Rows

/-- THE TIED CARD OF 'homesteadlaw14.CheckTells'. -/
def checkTellsCard : Claim7 := { stood := { row := checkTellsRow, standIns := [], harness := (true, "735ff2812a370ecee00dbd3473f48f960602603ee4e519847f1b3baa9c4125fc"), looks := false }, kinds := [], alts := [], laidByText := true, laidKinds := [.data, .pinned], laidTests := true, laidLooks := .later }
def CheckTellsCardSaid : Prop := Claim7.holds Tryz.pinned (.plain (OpenSpec.ofChange checkTellsSpec)) checkTellsCard

/-- THE TIED CARD OF 'homesteadlaw14.CheckKeys'. -/
def checkKeysCard : Claim7 := { stood := { row := checkKeysRow, standIns := [], harness := (true, "735ff2812a370ecee00dbd3473f48f960602603ee4e519847f1b3baa9c4125fc"), looks := false }, kinds := [], alts := [], laidByText := true, laidKinds := [.data, .pinned], laidTests := true, laidLooks := .later }
def CheckKeysCardSaid : Prop := Claim7.holds Tryz.pinned (.plain (OpenSpec.ofChange checkKeysSpec)) checkKeysCard

/-- THE TIED CARD OF 'homesteadlaw14.CheckFirst'. -/
def checkFirstCard : Claim7 := { stood := { row := checkFirstRow, standIns := [], harness := (true, "735ff2812a370ecee00dbd3473f48f960602603ee4e519847f1b3baa9c4125fc"), looks := false }, kinds := [], alts := [], laidByText := true, laidKinds := [.data, .pinned], laidTests := true, laidLooks := .later }
def CheckFirstCardSaid : Prop := Claim7.holds Tryz.pinned (.plain (OpenSpec.ofChange checkFirstSpec)) checkFirstCard

/-- THE TIED CARD OF 'homesteadlaw14.CheckEmpty'. -/
def checkEmptyCard : Claim7 := { stood := { row := checkEmptyRow, standIns := [], harness := (true, "735ff2812a370ecee00dbd3473f48f960602603ee4e519847f1b3baa9c4125fc"), looks := false }, kinds := [], alts := [], laidByText := true, laidKinds := [.data, .pinned], laidTests := true, laidLooks := .later }
def CheckEmptyCardSaid : Prop := Claim7.holds Tryz.pinned (.plain (OpenSpec.ofChange checkEmptySpec)) checkEmptyCard

/-- THE TIED CARD OF 'homesteadlaw14.CheckSums'. -/
def checkSumsCard : Claim7 := { stood := { row := checkSumsRow, standIns := [], harness := (true, "735ff2812a370ecee00dbd3473f48f960602603ee4e519847f1b3baa9c4125fc"), looks := false }, kinds := [], alts := [], laidByText := true, laidKinds := [.data, .pinned], laidTests := true, laidLooks := .later }
def CheckSumsCardSaid : Prop := Claim7.holds Tryz.pinned (.plain (OpenSpec.ofChange checkSumsSpec)) checkSumsCard

/-- THE TIED CARD OF 'homesteadlaw14.CheckLess'. -/
def checkLessCard : Claim7 := { stood := { row := checkLessRow, standIns := [], harness := (true, "735ff2812a370ecee00dbd3473f48f960602603ee4e519847f1b3baa9c4125fc"), looks := false }, kinds := [], alts := [], laidByText := true, laidKinds := [.data, .pinned], laidTests := true, laidLooks := .later }
def CheckLessCardSaid : Prop := Claim7.holds Tryz.pinned (.plain (OpenSpec.ofChange checkLessSpec)) checkLessCard

/-- THE SECOND FORM's CARD OF 'homesteadlaw14.CheckTells'. -/
def checkTellsUptoCard : Claim7 := { stood := { row := checkTellsUptoRow, standIns := [], harness := (true, "735ff2812a370ecee00dbd3473f48f960602603ee4e519847f1b3baa9c4125fc"), looks := false }, kinds := [], alts := [], laidByText := true, laidKinds := [.data, .pinned], laidTests := true, laidLooks := .later }
def CheckTellsUptoCardSaid : Prop := Claim7.holds Tryz.pinned (.plain (OpenSpec.upto checkTellsSpec)) checkTellsUptoCard

/-- THE SECOND FORM's CARD OF 'homesteadlaw14.CheckKeys'. -/
def checkKeysUptoCard : Claim7 := { stood := { row := checkKeysUptoRow, standIns := [], harness := (true, "735ff2812a370ecee00dbd3473f48f960602603ee4e519847f1b3baa9c4125fc"), looks := false }, kinds := [], alts := [], laidByText := true, laidKinds := [.data, .pinned], laidTests := true, laidLooks := .later }
def CheckKeysUptoCardSaid : Prop := Claim7.holds Tryz.pinned (.plain (OpenSpec.upto checkKeysSpec)) checkKeysUptoCard

/-- THE SECOND FORM's CARD OF 'homesteadlaw14.CheckFirst'. -/
def checkFirstUptoCard : Claim7 := { stood := { row := checkFirstUptoRow, standIns := [], harness := (true, "735ff2812a370ecee00dbd3473f48f960602603ee4e519847f1b3baa9c4125fc"), looks := false }, kinds := [], alts := [], laidByText := true, laidKinds := [.data, .pinned], laidTests := true, laidLooks := .later }
def CheckFirstUptoCardSaid : Prop := Claim7.holds Tryz.pinned (.plain (OpenSpec.upto checkFirstSpec)) checkFirstUptoCard

/-- THE SECOND FORM's CARD OF 'homesteadlaw14.CheckEmpty'. -/
def checkEmptyUptoCard : Claim7 := { stood := { row := checkEmptyUptoRow, standIns := [], harness := (true, "735ff2812a370ecee00dbd3473f48f960602603ee4e519847f1b3baa9c4125fc"), looks := false }, kinds := [], alts := [], laidByText := true, laidKinds := [.data, .pinned], laidTests := true, laidLooks := .later }
def CheckEmptyUptoCardSaid : Prop := Claim7.holds Tryz.pinned (.plain (OpenSpec.upto checkEmptySpec)) checkEmptyUptoCard

/-- THE SECOND FORM's CARD OF 'homesteadlaw14.CheckSums'. -/
def checkSumsUptoCard : Claim7 := { stood := { row := checkSumsUptoRow, standIns := [], harness := (true, "735ff2812a370ecee00dbd3473f48f960602603ee4e519847f1b3baa9c4125fc"), looks := false }, kinds := [], alts := [], laidByText := true, laidKinds := [.data, .pinned], laidTests := true, laidLooks := .later }
def CheckSumsUptoCardSaid : Prop := Claim7.holds Tryz.pinned (.plain (OpenSpec.upto checkSumsSpec)) checkSumsUptoCard

/-- THE SECOND FORM's CARD OF 'homesteadlaw14.CheckLess'. -/
def checkLessUptoCard : Claim7 := { stood := { row := checkLessUptoRow, standIns := [], harness := (true, "735ff2812a370ecee00dbd3473f48f960602603ee4e519847f1b3baa9c4125fc"), looks := false }, kinds := [], alts := [], laidByText := true, laidKinds := [.data, .pinned], laidTests := true, laidLooks := .later }
def CheckLessUptoCardSaid : Prop := Claim7.holds Tryz.pinned (.plain (OpenSpec.upto checkLessSpec)) checkLessUptoCard
end Rows
end Go.Proofs.YtcglimangneafaaGreatDoor
