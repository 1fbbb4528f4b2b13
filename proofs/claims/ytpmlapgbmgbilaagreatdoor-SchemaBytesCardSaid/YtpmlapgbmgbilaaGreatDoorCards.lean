/-
  DERIVED. GIVEN WITH THE SEED: THE CARDS: each row of YtpmlapgbmgbilaaGreatDoorRows.lean that lists a variable, with what it lists TIED to the program's text (the seventh form; the later family's looks); each row that meets fmt, with fmt's text TOLD by the authors' own Lean function (tested against real Go, not proved from fmt's source: count such statements apart). THE CARD IS WHAT COUNTS. Prove the row's statement (the work); the ties are given (YtpmlapgbmgbilaaGreatDoorTie.lean); close each card by the builder's one call (the guide's Derived/Test/ToyasCard.lean, 'card_holds'). Laid BY PROGRAM, IN A SANDBOX (cutbox-door.mjs). By AI agents, Wed Nov 11 2026. No macro, syntax, notation, axiom, sorry.
-/
import Derived.Test.YtpmlapgbmgbilaaGreatDoorRows
import GoSem.ClaimSeven
namespace Go.Proofs.YtpmlapgbmgbilaaGreatDoor
namespace Rows

/-- THE TIED CARD OF 'morainelaw08.SchemaKeeps'. -/
def schemaKeepsCard : Claim7 := { stood := { row := schemaKeepsRow, standIns := [], harness := (true, "bb58b8d67c019e7ca1f4bdff971d30652863cb2cb20c6e80a8924bbd334539ae"), looks := true }, kinds := [], alts := [], laidByText := true, laidKinds := [.data, .data, .data, .data, .sentinel, .sentinel, .pinned], laidTests := true, laidLooks := .later }
def SchemaKeepsCardSaid : Prop := Claim7.holds Tryz.pinned (.plain (OpenSpec.ofChange schemaKeepsSpec)) schemaKeepsCard

/-- THE TIED CARD OF 'morainelaw08.SchemaBytes'. -/
def schemaBytesCard : Claim7 := { stood := { row := schemaBytesRow, standIns := [], harness := (true, "bb58b8d67c019e7ca1f4bdff971d30652863cb2cb20c6e80a8924bbd334539ae"), looks := true }, kinds := [], alts := [], laidByText := true, laidKinds := [.data, .data, .data, .data, .sentinel, .sentinel, .sentinel, .sentinel, .pinned], laidTests := true, laidLooks := .later }
def SchemaBytesCardSaid : Prop := Claim7.holds Tryz.pinned (.plain (OpenSpec.ofChange schemaBytesSpec)) schemaBytesCard

/-- THE SECOND FORM's CARD OF 'morainelaw08.SchemaKeeps'. -/
def schemaKeepsUptoCard : Claim7 := { stood := { row := schemaKeepsUptoRow, standIns := [], harness := (true, "bb58b8d67c019e7ca1f4bdff971d30652863cb2cb20c6e80a8924bbd334539ae"), looks := true }, kinds := [], alts := [], laidByText := true, laidKinds := [.data, .data, .data, .data, .sentinel, .sentinel, .pinned], laidTests := true, laidLooks := .later }
def SchemaKeepsUptoCardSaid : Prop := Claim7.holds Tryz.pinned (.plain (OpenSpec.upto schemaKeepsSpec)) schemaKeepsUptoCard

/-- THE SECOND FORM's CARD OF 'morainelaw08.SchemaBytes'. -/
def schemaBytesUptoCard : Claim7 := { stood := { row := schemaBytesUptoRow, standIns := [], harness := (true, "bb58b8d67c019e7ca1f4bdff971d30652863cb2cb20c6e80a8924bbd334539ae"), looks := true }, kinds := [], alts := [], laidByText := true, laidKinds := [.data, .data, .data, .data, .sentinel, .sentinel, .sentinel, .sentinel, .pinned], laidTests := true, laidLooks := .later }
def SchemaBytesUptoCardSaid : Prop := Claim7.holds Tryz.pinned (.plain (OpenSpec.upto schemaBytesSpec)) schemaBytesUptoCard
end Rows
end Go.Proofs.YtpmlapgbmgbilaaGreatDoor
