/-
  DERIVED. GIVEN WITH THE SEED: THE CARDS: each row of YtkaliolnijkadaaGreatDoorRows.lean that lists a variable, with what it lists TIED to the program's text (the seventh form; the later family's looks); each row that meets fmt, with fmt's text TOLD by the authors' own Lean function (tested against real Go, not proved from fmt's source: count such statements apart). THE CARD IS WHAT COUNTS. Prove the row's statement (the work); the ties are given (YtkaliolnijkadaaGreatDoorTie.lean); close each card by the builder's one call (the guide's Derived/Test/ToyasCard.lean, 'card_holds'). Laid BY PROGRAM, IN A SANDBOX (cutbox-door.mjs). By AI agents, Wed Nov 11 2026. No macro, syntax, notation, axiom, sorry.
-/
import Derived.Test.YtkaliolnijkadaaGreatDoorRows
import GoSem.ClaimSeven
namespace Go.Proofs.YtkaliolnijkadaaGreatDoor
namespace Rows

/-- THE TIED CARD OF 'homesteadlaw13.BaseRight'. -/
def baseRightCard : Claim7 := { stood := { row := baseRightRow, standIns := [], harness := (true, "c121553cc7f3c2467d895848c571e8802509a9de7f8f9d316e3980f047d84048"), looks := false }, kinds := [], alts := [], laidByText := true, laidKinds := [.data, .pinned], laidTests := true, laidLooks := .later }
def BaseRightCardSaid : Prop := Claim7.holds Tryz.pinned (.plain (OpenSpec.ofChange baseRightSpec)) baseRightCard

/-- THE TIED CARD OF 'homesteadlaw13.BaseTurns'. -/
def baseTurnsCard : Claim7 := { stood := { row := baseTurnsRow, standIns := [], harness := (true, "c121553cc7f3c2467d895848c571e8802509a9de7f8f9d316e3980f047d84048"), looks := false }, kinds := [], alts := [], laidByText := true, laidKinds := [.data, .pinned], laidTests := true, laidLooks := .later }
def BaseTurnsCardSaid : Prop := Claim7.holds Tryz.pinned (.plain (OpenSpec.ofChange baseTurnsSpec)) baseTurnsCard

/-- THE TIED CARD OF 'homesteadlaw13.BasePut'. -/
def basePutCard : Claim7 := { stood := { row := basePutRow, standIns := [], harness := (true, "c121553cc7f3c2467d895848c571e8802509a9de7f8f9d316e3980f047d84048"), looks := false }, kinds := [], alts := [], laidByText := true, laidKinds := [.data, .pinned], laidTests := true, laidLooks := .later }
def BasePutCardSaid : Prop := Claim7.holds Tryz.pinned (.plain (OpenSpec.ofChange basePutSpec)) basePutCard

/-- THE TIED CARD OF 'homesteadlaw13.BaseDrop'. -/
def baseDropCard : Claim7 := { stood := { row := baseDropRow, standIns := [], harness := (true, "c121553cc7f3c2467d895848c571e8802509a9de7f8f9d316e3980f047d84048"), looks := false }, kinds := [], alts := [], laidByText := true, laidKinds := [.data, .pinned], laidTests := true, laidLooks := .later }
def BaseDropCardSaid : Prop := Claim7.holds Tryz.pinned (.plain (OpenSpec.ofChange baseDropSpec)) baseDropCard

/-- THE TIED CARD OF 'homesteadlaw13.BaseOrder'. -/
def baseOrderCard : Claim7 := { stood := { row := baseOrderRow, standIns := [], harness := (true, "c121553cc7f3c2467d895848c571e8802509a9de7f8f9d316e3980f047d84048"), looks := false }, kinds := [], alts := [], laidByText := true, laidKinds := [.data, .pinned], laidTests := true, laidLooks := .later }
def BaseOrderCardSaid : Prop := Claim7.holds Tryz.pinned (.plain (OpenSpec.ofChange baseOrderSpec)) baseOrderCard

/-- THE TIED CARD OF 'homesteadlaw13.BaseShows'. -/
def baseShowsCard : Claim7 := { stood := { row := baseShowsRow, standIns := [], harness := (true, "c121553cc7f3c2467d895848c571e8802509a9de7f8f9d316e3980f047d84048"), looks := false }, kinds := [], alts := [], laidByText := true, laidKinds := [.data, .pinned], laidTests := true, laidLooks := .later }
def BaseShowsCardSaid : Prop := Claim7.holds Tryz.pinned (.plain (OpenSpec.ofChange baseShowsSpec)) baseShowsCard

/-- THE TIED CARD OF 'homesteadlaw13.BaseWrote'. -/
def baseWroteCard : Claim7 := { stood := { row := baseWroteRow, standIns := [], harness := (true, "c121553cc7f3c2467d895848c571e8802509a9de7f8f9d316e3980f047d84048"), looks := false }, kinds := [], alts := [], laidByText := true, laidKinds := [.data, .pinned], laidTests := true, laidLooks := .later }
def BaseWroteCardSaid : Prop := Claim7.holds Tryz.pinned (.plain (OpenSpec.ofChange baseWroteSpec)) baseWroteCard

/-- THE SECOND FORM's CARD OF 'homesteadlaw13.BaseRight'. -/
def baseRightUptoCard : Claim7 := { stood := { row := baseRightUptoRow, standIns := [], harness := (true, "c121553cc7f3c2467d895848c571e8802509a9de7f8f9d316e3980f047d84048"), looks := false }, kinds := [], alts := [], laidByText := true, laidKinds := [.data, .pinned], laidTests := true, laidLooks := .later }
def BaseRightUptoCardSaid : Prop := Claim7.holds Tryz.pinned (.plain (OpenSpec.upto baseRightSpec)) baseRightUptoCard

/-- THE SECOND FORM's CARD OF 'homesteadlaw13.BaseTurns'. -/
def baseTurnsUptoCard : Claim7 := { stood := { row := baseTurnsUptoRow, standIns := [], harness := (true, "c121553cc7f3c2467d895848c571e8802509a9de7f8f9d316e3980f047d84048"), looks := false }, kinds := [], alts := [], laidByText := true, laidKinds := [.data, .pinned], laidTests := true, laidLooks := .later }
def BaseTurnsUptoCardSaid : Prop := Claim7.holds Tryz.pinned (.plain (OpenSpec.upto baseTurnsSpec)) baseTurnsUptoCard

/-- THE SECOND FORM's CARD OF 'homesteadlaw13.BasePut'. -/
def basePutUptoCard : Claim7 := { stood := { row := basePutUptoRow, standIns := [], harness := (true, "c121553cc7f3c2467d895848c571e8802509a9de7f8f9d316e3980f047d84048"), looks := false }, kinds := [], alts := [], laidByText := true, laidKinds := [.data, .pinned], laidTests := true, laidLooks := .later }
def BasePutUptoCardSaid : Prop := Claim7.holds Tryz.pinned (.plain (OpenSpec.upto basePutSpec)) basePutUptoCard

/-- THE SECOND FORM's CARD OF 'homesteadlaw13.BaseDrop'. -/
def baseDropUptoCard : Claim7 := { stood := { row := baseDropUptoRow, standIns := [], harness := (true, "c121553cc7f3c2467d895848c571e8802509a9de7f8f9d316e3980f047d84048"), looks := false }, kinds := [], alts := [], laidByText := true, laidKinds := [.data, .pinned], laidTests := true, laidLooks := .later }
def BaseDropUptoCardSaid : Prop := Claim7.holds Tryz.pinned (.plain (OpenSpec.upto baseDropSpec)) baseDropUptoCard

/-- THE SECOND FORM's CARD OF 'homesteadlaw13.BaseOrder'. -/
def baseOrderUptoCard : Claim7 := { stood := { row := baseOrderUptoRow, standIns := [], harness := (true, "c121553cc7f3c2467d895848c571e8802509a9de7f8f9d316e3980f047d84048"), looks := false }, kinds := [], alts := [], laidByText := true, laidKinds := [.data, .pinned], laidTests := true, laidLooks := .later }
def BaseOrderUptoCardSaid : Prop := Claim7.holds Tryz.pinned (.plain (OpenSpec.upto baseOrderSpec)) baseOrderUptoCard

/-- THE SECOND FORM's CARD OF 'homesteadlaw13.BaseShows'. -/
def baseShowsUptoCard : Claim7 := { stood := { row := baseShowsUptoRow, standIns := [], harness := (true, "c121553cc7f3c2467d895848c571e8802509a9de7f8f9d316e3980f047d84048"), looks := false }, kinds := [], alts := [], laidByText := true, laidKinds := [.data, .pinned], laidTests := true, laidLooks := .later }
def BaseShowsUptoCardSaid : Prop := Claim7.holds Tryz.pinned (.plain (OpenSpec.upto baseShowsSpec)) baseShowsUptoCard

/-- THE SECOND FORM's CARD OF 'homesteadlaw13.BaseWrote'. -/
def baseWroteUptoCard : Claim7 := { stood := { row := baseWroteUptoRow, standIns := [], harness := (true, "c121553cc7f3c2467d895848c571e8802509a9de7f8f9d316e3980f047d84048"), looks := false }, kinds := [], alts := [], laidByText := true, laidKinds := [.data, .pinned], laidTests := true, laidLooks := .later }
def BaseWroteUptoCardSaid : Prop := Claim7.holds Tryz.pinned (.plain (OpenSpec.upto baseWroteSpec)) baseWroteUptoCard
end Rows
end Go.Proofs.YtkaliolnijkadaaGreatDoor
