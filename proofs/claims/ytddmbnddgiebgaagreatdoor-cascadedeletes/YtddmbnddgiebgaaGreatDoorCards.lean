/-
  DERIVED. GIVEN WITH THE SEED: THE CARDS: each row of YtddmbnddgiebgaaGreatDoorRows.lean that lists a variable, with what it lists TIED to the program's text (the seventh form; the later family's looks); each row that meets fmt, with fmt's text TOLD by the authors' own Lean function (tested against real Go, not proved from fmt's source: count such statements apart). THE CARD IS WHAT COUNTS. Prove the row's statement (the work); the ties are given (YtddmbnddgiebgaaGreatDoorTie.lean); close each card by the builder's one call (the guide's Derived/Test/ToyasCard.lean, 'card_holds'). Laid BY PROGRAM, IN A SANDBOX (cutbox-door.mjs). By AI agents, Wed Nov 11 2026. No macro, syntax, notation, axiom, sorry.
-/
import Derived.Test.YtddmbnddgiebgaaGreatDoorRows
import GoSem.ClaimSeven
namespace Go.Proofs.YtddmbnddgiebgaaGreatDoor
namespace Rows

/-- THE TIED CARD OF 'homesteadlaw15.CascadeDeletes'. -/
def cascadeDeletesCard : Claim7 := { stood := { row := cascadeDeletesRow, standIns := [], harness := (true, "bc6f8039139d0a3a1ce57ebbab176413ad497ed3f7ef250ed6f982381100645d"), looks := false }, kinds := [], alts := [], laidByText := true, laidKinds := [.data, .pinned], laidTests := true, laidLooks := .later }
def CascadeDeletesCardSaid : Prop := Claim7.holds Tryz.pinned (.plain (OpenSpec.ofChange cascadeDeletesSpec)) cascadeDeletesCard

/-- THE TIED CARD OF 'homesteadlaw15.CascadeClosed'. -/
def cascadeClosedCard : Claim7 := { stood := { row := cascadeClosedRow, standIns := [], harness := (true, "bc6f8039139d0a3a1ce57ebbab176413ad497ed3f7ef250ed6f982381100645d"), looks := false }, kinds := [], alts := [], laidByText := true, laidKinds := [.data, .pinned], laidTests := true, laidLooks := .later }
def CascadeClosedCardSaid : Prop := Claim7.holds Tryz.pinned (.plain (OpenSpec.ofChange cascadeClosedSpec)) cascadeClosedCard

/-- THE TIED CARD OF 'homesteadlaw15.CascadeGone'. -/
def cascadeGoneCard : Claim7 := { stood := { row := cascadeGoneRow, standIns := [], harness := (true, "bc6f8039139d0a3a1ce57ebbab176413ad497ed3f7ef250ed6f982381100645d"), looks := false }, kinds := [], alts := [], laidByText := true, laidKinds := [.data, .pinned], laidTests := true, laidLooks := .later }
def CascadeGoneCardSaid : Prop := Claim7.holds Tryz.pinned (.plain (OpenSpec.ofChange cascadeGoneSpec)) cascadeGoneCard

/-- THE TIED CARD OF 'homesteadlaw15.CascadeOthers'. -/
def cascadeOthersCard : Claim7 := { stood := { row := cascadeOthersRow, standIns := [], harness := (true, "bc6f8039139d0a3a1ce57ebbab176413ad497ed3f7ef250ed6f982381100645d"), looks := false }, kinds := [], alts := [], laidByText := true, laidKinds := [.data, .pinned], laidTests := true, laidLooks := .later }
def CascadeOthersCardSaid : Prop := Claim7.holds Tryz.pinned (.plain (OpenSpec.ofChange cascadeOthersSpec)) cascadeOthersCard

/-- THE TIED CARD OF 'homesteadlaw15.CascadeMay'. -/
def cascadeMayCard : Claim7 := { stood := { row := cascadeMayRow, standIns := [], harness := (true, "bc6f8039139d0a3a1ce57ebbab176413ad497ed3f7ef250ed6f982381100645d"), looks := false }, kinds := [], alts := [], laidByText := true, laidKinds := [.data, .pinned], laidTests := true, laidLooks := .later }
def CascadeMayCardSaid : Prop := Claim7.holds Tryz.pinned (.plain (OpenSpec.ofChange cascadeMaySpec)) cascadeMayCard

/-- THE TIED CARD OF 'homesteadlaw15.CascadeOrder'. -/
def cascadeOrderCard : Claim7 := { stood := { row := cascadeOrderRow, standIns := [], harness := (true, "bc6f8039139d0a3a1ce57ebbab176413ad497ed3f7ef250ed6f982381100645d"), looks := false }, kinds := [], alts := [], laidByText := true, laidKinds := [.data, .pinned], laidTests := true, laidLooks := .later }
def CascadeOrderCardSaid : Prop := Claim7.holds Tryz.pinned (.plain (OpenSpec.ofChange cascadeOrderSpec)) cascadeOrderCard

/-- THE SECOND FORM's CARD OF 'homesteadlaw15.CascadeDeletes'. -/
def cascadeDeletesUptoCard : Claim7 := { stood := { row := cascadeDeletesUptoRow, standIns := [], harness := (true, "bc6f8039139d0a3a1ce57ebbab176413ad497ed3f7ef250ed6f982381100645d"), looks := false }, kinds := [], alts := [], laidByText := true, laidKinds := [.data, .pinned], laidTests := true, laidLooks := .later }
def CascadeDeletesUptoCardSaid : Prop := Claim7.holds Tryz.pinned (.plain (OpenSpec.upto cascadeDeletesSpec)) cascadeDeletesUptoCard

/-- THE SECOND FORM's CARD OF 'homesteadlaw15.CascadeClosed'. -/
def cascadeClosedUptoCard : Claim7 := { stood := { row := cascadeClosedUptoRow, standIns := [], harness := (true, "bc6f8039139d0a3a1ce57ebbab176413ad497ed3f7ef250ed6f982381100645d"), looks := false }, kinds := [], alts := [], laidByText := true, laidKinds := [.data, .pinned], laidTests := true, laidLooks := .later }
def CascadeClosedUptoCardSaid : Prop := Claim7.holds Tryz.pinned (.plain (OpenSpec.upto cascadeClosedSpec)) cascadeClosedUptoCard

/-- THE SECOND FORM's CARD OF 'homesteadlaw15.CascadeGone'. -/
def cascadeGoneUptoCard : Claim7 := { stood := { row := cascadeGoneUptoRow, standIns := [], harness := (true, "bc6f8039139d0a3a1ce57ebbab176413ad497ed3f7ef250ed6f982381100645d"), looks := false }, kinds := [], alts := [], laidByText := true, laidKinds := [.data, .pinned], laidTests := true, laidLooks := .later }
def CascadeGoneUptoCardSaid : Prop := Claim7.holds Tryz.pinned (.plain (OpenSpec.upto cascadeGoneSpec)) cascadeGoneUptoCard

/-- THE SECOND FORM's CARD OF 'homesteadlaw15.CascadeOthers'. -/
def cascadeOthersUptoCard : Claim7 := { stood := { row := cascadeOthersUptoRow, standIns := [], harness := (true, "bc6f8039139d0a3a1ce57ebbab176413ad497ed3f7ef250ed6f982381100645d"), looks := false }, kinds := [], alts := [], laidByText := true, laidKinds := [.data, .pinned], laidTests := true, laidLooks := .later }
def CascadeOthersUptoCardSaid : Prop := Claim7.holds Tryz.pinned (.plain (OpenSpec.upto cascadeOthersSpec)) cascadeOthersUptoCard

/-- THE SECOND FORM's CARD OF 'homesteadlaw15.CascadeMay'. -/
def cascadeMayUptoCard : Claim7 := { stood := { row := cascadeMayUptoRow, standIns := [], harness := (true, "bc6f8039139d0a3a1ce57ebbab176413ad497ed3f7ef250ed6f982381100645d"), looks := false }, kinds := [], alts := [], laidByText := true, laidKinds := [.data, .pinned], laidTests := true, laidLooks := .later }
def CascadeMayUptoCardSaid : Prop := Claim7.holds Tryz.pinned (.plain (OpenSpec.upto cascadeMaySpec)) cascadeMayUptoCard

/-- THE SECOND FORM's CARD OF 'homesteadlaw15.CascadeOrder'. -/
def cascadeOrderUptoCard : Claim7 := { stood := { row := cascadeOrderUptoRow, standIns := [], harness := (true, "bc6f8039139d0a3a1ce57ebbab176413ad497ed3f7ef250ed6f982381100645d"), looks := false }, kinds := [], alts := [], laidByText := true, laidKinds := [.data, .pinned], laidTests := true, laidLooks := .later }
def CascadeOrderUptoCardSaid : Prop := Claim7.holds Tryz.pinned (.plain (OpenSpec.upto cascadeOrderSpec)) cascadeOrderUptoCard
end Rows
end Go.Proofs.YtddmbnddgiebgaaGreatDoor
