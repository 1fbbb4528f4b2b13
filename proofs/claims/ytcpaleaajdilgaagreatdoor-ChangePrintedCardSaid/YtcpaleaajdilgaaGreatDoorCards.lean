/-
  DERIVED. GIVEN WITH THE SEED: THE CARDS: each row of YtcpaleaajdilgaaGreatDoorRows.lean that lists a variable, with what it lists TIED to the program's text (the seventh form; the later family's looks); each row that meets fmt, with fmt's text TOLD by the authors' own Lean function (tested against real Go, not proved from fmt's source: count such statements apart). THE CARD IS WHAT COUNTS. Prove the row's statement (the work); the ties are given (YtcpaleaajdilgaaGreatDoorTie.lean); close each card by the builder's one call (the guide's Derived/Test/ToyasCard.lean, 'card_holds'). Laid BY PROGRAM, IN A SANDBOX (cutbox-door.mjs). By AI agents, Wed Nov 11 2026. No macro, syntax, notation, axiom, sorry.
-/
import Derived.Test.YtcpaleaajdilgaaGreatDoorRows
import GoSem.ClaimSeven
namespace Go.Proofs.YtcpaleaajdilgaaGreatDoor
namespace Rows

/-- THE TIED CARD OF 'morainelaw04.ClassValues'. -/
def classValuesCard : Claim7 := { stood := { row := classValuesRow, standIns := [], harness := (true, "1a18a16d99efb8dc6f5b9c061073961664b057d976204fb91925a43c36733a69"), looks := true }, kinds := [], alts := [], laidByText := true, laidKinds := [.data, .data, .data, .data, .sentinel, .sentinel, .pinned], laidTests := true, laidLooks := .later }
def ClassValuesCardSaid : Prop := Claim7.holds Tryz.pinned (.plain (OpenSpec.ofChange classValuesSpec)) classValuesCard

/-- THE TIED CARD OF 'morainelaw07.ChangeTells'. -/
def changeTellsCard : Claim7 := { stood := { row := changeTellsRow, standIns := [], harness := (true, "1a18a16d99efb8dc6f5b9c061073961664b057d976204fb91925a43c36733a69"), looks := true }, kinds := [], alts := [], laidByText := true, laidKinds := [.data, .data, .data, .data, .sentinel, .sentinel, .sentinel, .sentinel, .pinned], laidTests := true, laidLooks := .later }
def ChangeTellsCardSaid : Prop := Claim7.holds Tryz.pinned (.plain (OpenSpec.ofChange changeTellsSpec)) changeTellsCard

/-- THE TIED CARD OF 'morainelaw07.ChangeBytes'. -/
def changeBytesCard : Claim7 := { stood := { row := changeBytesRow, standIns := [], harness := (true, "1a18a16d99efb8dc6f5b9c061073961664b057d976204fb91925a43c36733a69"), looks := true }, kinds := [], alts := [], laidByText := true, laidKinds := [.data, .data, .data, .data, .sentinel, .sentinel, .sentinel, .sentinel, .pinned], laidTests := true, laidLooks := .later }
def ChangeBytesCardSaid : Prop := Claim7.holds Tryz.pinned (.plain (OpenSpec.ofChange changeBytesSpec)) changeBytesCard

/-- THE TIED CARD OF 'morainelaw07.ChangeFits'. -/
def changeFitsCard : Claim7 := { stood := { row := changeFitsRow, standIns := [], harness := (true, "1a18a16d99efb8dc6f5b9c061073961664b057d976204fb91925a43c36733a69"), looks := true }, kinds := [], alts := [], laidByText := true, laidKinds := [.data, .data, .data, .data, .sentinel, .sentinel, .sentinel, .sentinel, .pinned], laidTests := true, laidLooks := .later }
def ChangeFitsCardSaid : Prop := Claim7.holds Tryz.pinned (.plain (OpenSpec.ofChange changeFitsSpec)) changeFitsCard

/-- THE TIED CARD OF 'morainelaw07.ChangeTold'. -/
def changeToldCard : Claim7 := { stood := { row := changeToldRow, standIns := [], harness := (true, "1a18a16d99efb8dc6f5b9c061073961664b057d976204fb91925a43c36733a69"), looks := true }, kinds := [], alts := [], laidByText := true, laidKinds := [.data, .data, .data, .data, .sentinel, .sentinel, .sentinel, .sentinel, .pinned], laidTests := true, laidLooks := .later }
def ChangeToldCardSaid : Prop := Claim7.holds Tryz.pinned (.plain (OpenSpec.ofChange changeToldSpec)) changeToldCard

/-- THE TIED CARD OF 'morainelaw07.ChangeBack'. -/
def changeBackCard : Claim7 := { stood := { row := changeBackRow, standIns := [], harness := (true, "1a18a16d99efb8dc6f5b9c061073961664b057d976204fb91925a43c36733a69"), looks := true }, kinds := [], alts := [], laidByText := true, laidKinds := [.data, .data, .data, .data, .sentinel, .sentinel, .sentinel, .sentinel, .pinned], laidTests := true, laidLooks := .later }
def ChangeBackCardSaid : Prop := Claim7.holds Tryz.pinned (.plain (OpenSpec.ofChange changeBackSpec)) changeBackCard

/-- THE TIED CARD OF 'morainelaw07.ChangeApart'. -/
def changeApartCard : Claim7 := { stood := { row := changeApartRow, standIns := [], harness := (true, "1a18a16d99efb8dc6f5b9c061073961664b057d976204fb91925a43c36733a69"), looks := true }, kinds := [], alts := [], laidByText := true, laidKinds := [.data, .data, .data, .data, .sentinel, .sentinel, .sentinel, .sentinel, .pinned], laidTests := true, laidLooks := .later }
def ChangeApartCardSaid : Prop := Claim7.holds Tryz.pinned (.plain (OpenSpec.ofChange changeApartSpec)) changeApartCard

/-- THE TIED CARD OF 'morainelaw07.ChangePrinted'. -/
def changePrintedCard : Claim7 := { stood := { row := changePrintedRow, standIns := [], harness := (true, "1a18a16d99efb8dc6f5b9c061073961664b057d976204fb91925a43c36733a69"), looks := true }, kinds := [], alts := [], laidByText := true, laidKinds := [.data, .data, .data, .data, .sentinel, .sentinel, .sentinel, .sentinel, .pinned], laidTests := true, laidLooks := .later }
def ChangePrintedCardSaid : Prop := Claim7.holds Tryz.pinned (.plain (OpenSpec.ofChange changePrintedSpec)) changePrintedCard

/-- THE SECOND FORM's CARD OF 'morainelaw04.ClassValues'. -/
def classValuesUptoCard : Claim7 := { stood := { row := classValuesUptoRow, standIns := [], harness := (true, "1a18a16d99efb8dc6f5b9c061073961664b057d976204fb91925a43c36733a69"), looks := true }, kinds := [], alts := [], laidByText := true, laidKinds := [.data, .data, .data, .data, .sentinel, .sentinel, .pinned], laidTests := true, laidLooks := .later }
def ClassValuesUptoCardSaid : Prop := Claim7.holds Tryz.pinned (.plain (OpenSpec.upto classValuesSpec)) classValuesUptoCard

/-- THE SECOND FORM's CARD OF 'morainelaw07.ChangeTells'. -/
def changeTellsUptoCard : Claim7 := { stood := { row := changeTellsUptoRow, standIns := [], harness := (true, "1a18a16d99efb8dc6f5b9c061073961664b057d976204fb91925a43c36733a69"), looks := true }, kinds := [], alts := [], laidByText := true, laidKinds := [.data, .data, .data, .data, .sentinel, .sentinel, .sentinel, .sentinel, .pinned], laidTests := true, laidLooks := .later }
def ChangeTellsUptoCardSaid : Prop := Claim7.holds Tryz.pinned (.plain (OpenSpec.upto changeTellsSpec)) changeTellsUptoCard

/-- THE SECOND FORM's CARD OF 'morainelaw07.ChangeBytes'. -/
def changeBytesUptoCard : Claim7 := { stood := { row := changeBytesUptoRow, standIns := [], harness := (true, "1a18a16d99efb8dc6f5b9c061073961664b057d976204fb91925a43c36733a69"), looks := true }, kinds := [], alts := [], laidByText := true, laidKinds := [.data, .data, .data, .data, .sentinel, .sentinel, .sentinel, .sentinel, .pinned], laidTests := true, laidLooks := .later }
def ChangeBytesUptoCardSaid : Prop := Claim7.holds Tryz.pinned (.plain (OpenSpec.upto changeBytesSpec)) changeBytesUptoCard

/-- THE SECOND FORM's CARD OF 'morainelaw07.ChangeFits'. -/
def changeFitsUptoCard : Claim7 := { stood := { row := changeFitsUptoRow, standIns := [], harness := (true, "1a18a16d99efb8dc6f5b9c061073961664b057d976204fb91925a43c36733a69"), looks := true }, kinds := [], alts := [], laidByText := true, laidKinds := [.data, .data, .data, .data, .sentinel, .sentinel, .sentinel, .sentinel, .pinned], laidTests := true, laidLooks := .later }
def ChangeFitsUptoCardSaid : Prop := Claim7.holds Tryz.pinned (.plain (OpenSpec.upto changeFitsSpec)) changeFitsUptoCard

/-- THE SECOND FORM's CARD OF 'morainelaw07.ChangeTold'. -/
def changeToldUptoCard : Claim7 := { stood := { row := changeToldUptoRow, standIns := [], harness := (true, "1a18a16d99efb8dc6f5b9c061073961664b057d976204fb91925a43c36733a69"), looks := true }, kinds := [], alts := [], laidByText := true, laidKinds := [.data, .data, .data, .data, .sentinel, .sentinel, .sentinel, .sentinel, .pinned], laidTests := true, laidLooks := .later }
def ChangeToldUptoCardSaid : Prop := Claim7.holds Tryz.pinned (.plain (OpenSpec.upto changeToldSpec)) changeToldUptoCard

/-- THE SECOND FORM's CARD OF 'morainelaw07.ChangeBack'. -/
def changeBackUptoCard : Claim7 := { stood := { row := changeBackUptoRow, standIns := [], harness := (true, "1a18a16d99efb8dc6f5b9c061073961664b057d976204fb91925a43c36733a69"), looks := true }, kinds := [], alts := [], laidByText := true, laidKinds := [.data, .data, .data, .data, .sentinel, .sentinel, .sentinel, .sentinel, .pinned], laidTests := true, laidLooks := .later }
def ChangeBackUptoCardSaid : Prop := Claim7.holds Tryz.pinned (.plain (OpenSpec.upto changeBackSpec)) changeBackUptoCard

/-- THE SECOND FORM's CARD OF 'morainelaw07.ChangeApart'. -/
def changeApartUptoCard : Claim7 := { stood := { row := changeApartUptoRow, standIns := [], harness := (true, "1a18a16d99efb8dc6f5b9c061073961664b057d976204fb91925a43c36733a69"), looks := true }, kinds := [], alts := [], laidByText := true, laidKinds := [.data, .data, .data, .data, .sentinel, .sentinel, .sentinel, .sentinel, .pinned], laidTests := true, laidLooks := .later }
def ChangeApartUptoCardSaid : Prop := Claim7.holds Tryz.pinned (.plain (OpenSpec.upto changeApartSpec)) changeApartUptoCard

/-- THE SECOND FORM's CARD OF 'morainelaw07.ChangePrinted'. -/
def changePrintedUptoCard : Claim7 := { stood := { row := changePrintedUptoRow, standIns := [], harness := (true, "1a18a16d99efb8dc6f5b9c061073961664b057d976204fb91925a43c36733a69"), looks := true }, kinds := [], alts := [], laidByText := true, laidKinds := [.data, .data, .data, .data, .sentinel, .sentinel, .sentinel, .sentinel, .pinned], laidTests := true, laidLooks := .later }
def ChangePrintedUptoCardSaid : Prop := Claim7.holds Tryz.pinned (.plain (OpenSpec.upto changePrintedSpec)) changePrintedUptoCard
end Rows
end Go.Proofs.YtcpaleaajdilgaaGreatDoor
