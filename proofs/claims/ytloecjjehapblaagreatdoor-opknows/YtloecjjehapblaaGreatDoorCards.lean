/-
  DERIVED. GIVEN WITH THE SEED: THE CARDS: each row of YtloecjjehapblaaGreatDoorRows.lean that lists a variable, with what it lists TIED to the program's text (the seventh form; the later family's looks); each row that meets fmt, with fmt's text TOLD by the authors' own Lean function (tested against real Go, not proved from fmt's source: count such statements apart). THE CARD IS WHAT COUNTS. Prove the row's statement (the work); the ties are given (YtloecjjehapblaaGreatDoorTie.lean); close each card by the builder's one call (the guide's Derived/Test/ToyasCard.lean, 'card_holds'). Laid BY PROGRAM, IN A SANDBOX (cutbox-door.mjs). By AI agents, Wed Nov 11 2026. No macro, syntax, notation, axiom, sorry.
-/
import Derived.Test.YtloecjjehapblaaGreatDoorRows
import GoSem.ClaimSeven
namespace Go.Proofs.YtloecjjehapblaaGreatDoor
namespace Rows

/-- THE TIED CARD OF 'homesteadlaw30.WhyNone'. -/
def whyNoneCard : Claim7 := { stood := { row := whyNoneRow, standIns := [], harness := (true, "d1370e1fadb3af4c411a2b3eecb37007d056ee24850089c118eba4ba415d0123"), looks := false }, kinds := [], alts := [], laidByText := true, laidKinds := [.data, .pinned], laidTests := true, laidLooks := .later }
def WhyNoneCardSaid : Prop := Claim7.holds Tryz.pinned (.plain (OpenSpec.ofChange whyNoneSpec)) whyNoneCard

/-- THE TIED CARD OF 'homesteadlaw16.OpGood'. -/
def opGoodCard : Claim7 := { stood := { row := opGoodRow, standIns := [], harness := (true, "d1370e1fadb3af4c411a2b3eecb37007d056ee24850089c118eba4ba415d0123"), looks := false }, kinds := [], alts := [], laidByText := true, laidKinds := [.data, .pinned], laidTests := true, laidLooks := .later }
def OpGoodCardSaid : Prop := Claim7.holds Tryz.pinned (.plain (OpenSpec.ofChange opGoodSpec)) opGoodCard

/-- THE TIED CARD OF 'homesteadlaw16.OpSteps'. -/
def opStepsCard : Claim7 := { stood := { row := opStepsRow, standIns := [], harness := (true, "d1370e1fadb3af4c411a2b3eecb37007d056ee24850089c118eba4ba415d0123"), looks := false }, kinds := [], alts := [], laidByText := true, laidKinds := [.data, .pinned], laidTests := true, laidLooks := .later }
def OpStepsCardSaid : Prop := Claim7.holds Tryz.pinned (.plain (OpenSpec.ofChange opStepsSpec)) opStepsCard

/-- THE TIED CARD OF 'homesteadlaw16.OpOwn'. -/
def opOwnCard : Claim7 := { stood := { row := opOwnRow, standIns := [], harness := (true, "d1370e1fadb3af4c411a2b3eecb37007d056ee24850089c118eba4ba415d0123"), looks := false }, kinds := [], alts := [], laidByText := true, laidKinds := [.data, .pinned], laidTests := true, laidLooks := .later }
def OpOwnCardSaid : Prop := Claim7.holds Tryz.pinned (.plain (OpenSpec.ofChange opOwnSpec)) opOwnCard

/-- THE TIED CARD OF 'homesteadlaw16.OpApart'. -/
def opApartCard : Claim7 := { stood := { row := opApartRow, standIns := [], harness := (true, "d1370e1fadb3af4c411a2b3eecb37007d056ee24850089c118eba4ba415d0123"), looks := false }, kinds := [], alts := [], laidByText := true, laidKinds := [.data, .pinned], laidTests := true, laidLooks := .later }
def OpApartCardSaid : Prop := Claim7.holds Tryz.pinned (.plain (OpenSpec.ofChange opApartSpec)) opApartCard

/-- THE TIED CARD OF 'homesteadlaw16.OpKnows'. -/
def opKnowsCard : Claim7 := { stood := { row := opKnowsRow, standIns := [], harness := (true, "d1370e1fadb3af4c411a2b3eecb37007d056ee24850089c118eba4ba415d0123"), looks := false }, kinds := [], alts := [], laidByText := true, laidKinds := [.data, .pinned], laidTests := true, laidLooks := .later }
def OpKnowsCardSaid : Prop := Claim7.holds Tryz.pinned (.plain (OpenSpec.ofChange opKnowsSpec)) opKnowsCard

/-- THE SECOND FORM's CARD OF 'homesteadlaw30.WhyNone'. -/
def whyNoneUptoCard : Claim7 := { stood := { row := whyNoneUptoRow, standIns := [], harness := (true, "d1370e1fadb3af4c411a2b3eecb37007d056ee24850089c118eba4ba415d0123"), looks := false }, kinds := [], alts := [], laidByText := true, laidKinds := [.data, .pinned], laidTests := true, laidLooks := .later }
def WhyNoneUptoCardSaid : Prop := Claim7.holds Tryz.pinned (.plain (OpenSpec.upto whyNoneSpec)) whyNoneUptoCard

/-- THE SECOND FORM's CARD OF 'homesteadlaw16.OpGood'. -/
def opGoodUptoCard : Claim7 := { stood := { row := opGoodUptoRow, standIns := [], harness := (true, "d1370e1fadb3af4c411a2b3eecb37007d056ee24850089c118eba4ba415d0123"), looks := false }, kinds := [], alts := [], laidByText := true, laidKinds := [.data, .pinned], laidTests := true, laidLooks := .later }
def OpGoodUptoCardSaid : Prop := Claim7.holds Tryz.pinned (.plain (OpenSpec.upto opGoodSpec)) opGoodUptoCard

/-- THE SECOND FORM's CARD OF 'homesteadlaw16.OpSteps'. -/
def opStepsUptoCard : Claim7 := { stood := { row := opStepsUptoRow, standIns := [], harness := (true, "d1370e1fadb3af4c411a2b3eecb37007d056ee24850089c118eba4ba415d0123"), looks := false }, kinds := [], alts := [], laidByText := true, laidKinds := [.data, .pinned], laidTests := true, laidLooks := .later }
def OpStepsUptoCardSaid : Prop := Claim7.holds Tryz.pinned (.plain (OpenSpec.upto opStepsSpec)) opStepsUptoCard

/-- THE SECOND FORM's CARD OF 'homesteadlaw16.OpOwn'. -/
def opOwnUptoCard : Claim7 := { stood := { row := opOwnUptoRow, standIns := [], harness := (true, "d1370e1fadb3af4c411a2b3eecb37007d056ee24850089c118eba4ba415d0123"), looks := false }, kinds := [], alts := [], laidByText := true, laidKinds := [.data, .pinned], laidTests := true, laidLooks := .later }
def OpOwnUptoCardSaid : Prop := Claim7.holds Tryz.pinned (.plain (OpenSpec.upto opOwnSpec)) opOwnUptoCard

/-- THE SECOND FORM's CARD OF 'homesteadlaw16.OpApart'. -/
def opApartUptoCard : Claim7 := { stood := { row := opApartUptoRow, standIns := [], harness := (true, "d1370e1fadb3af4c411a2b3eecb37007d056ee24850089c118eba4ba415d0123"), looks := false }, kinds := [], alts := [], laidByText := true, laidKinds := [.data, .pinned], laidTests := true, laidLooks := .later }
def OpApartUptoCardSaid : Prop := Claim7.holds Tryz.pinned (.plain (OpenSpec.upto opApartSpec)) opApartUptoCard

/-- THE SECOND FORM's CARD OF 'homesteadlaw16.OpKnows'. -/
def opKnowsUptoCard : Claim7 := { stood := { row := opKnowsUptoRow, standIns := [], harness := (true, "d1370e1fadb3af4c411a2b3eecb37007d056ee24850089c118eba4ba415d0123"), looks := false }, kinds := [], alts := [], laidByText := true, laidKinds := [.data, .pinned], laidTests := true, laidLooks := .later }
def OpKnowsUptoCardSaid : Prop := Claim7.holds Tryz.pinned (.plain (OpenSpec.upto opKnowsSpec)) opKnowsUptoCard
end Rows
end Go.Proofs.YtloecjjehapblaaGreatDoor
