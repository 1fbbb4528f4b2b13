/-
  DERIVED. GIVEN WITH THE SEED: THE CARDS: each row of YtbkgnekfigknhaaGreatDoorRows.lean that lists a variable, with what it lists TIED to the program's text (the seventh form; the later family's looks); each row that meets fmt, with fmt's text TOLD by the authors' own Lean function (tested against real Go, not proved from fmt's source: count such statements apart). THE CARD IS WHAT COUNTS. Prove the row's statement (the work); the ties are given (YtbkgnekfigknhaaGreatDoorTie.lean); close each card by the builder's one call (the guide's Derived/Test/ToyasCard.lean, 'card_holds'). Laid BY PROGRAM, IN A SANDBOX (cutbox-door.mjs). By AI agents, Wed Nov 11 2026. No macro, syntax, notation, axiom, sorry.
-/
import Derived.Test.YtbkgnekfigknhaaGreatDoorRows
import GoSem.ClaimSeven
namespace Go.Proofs.YtbkgnekfigknhaaGreatDoor
namespace Rows

/-- THE TIED CARD OF 'morainelaw08.SchemaCarries'. -/
def schemaCarriesCard : Claim7 := { stood := { row := schemaCarriesRow, standIns := [], harness := (true, "1f5aab9b8d5d175f27ab3f71ed6314f96350c448c7b3bc21a89bda89903ba9a8"), looks := true }, kinds := [], alts := [], laidByText := true, laidKinds := [.data, .data, .data, .data, .sentinel, .sentinel, .pinned], laidTests := true, laidLooks := .later }
def SchemaCarriesCardSaid : Prop := Claim7.holds Tryz.pinned (.plain (OpenSpec.ofChange schemaCarriesSpec)) schemaCarriesCard

/-- THE TIED CARD OF 'morainelaw08.SchemaSteps'. -/
def schemaStepsCard : Claim7 := { stood := { row := schemaStepsRow, standIns := [], harness := (true, "1f5aab9b8d5d175f27ab3f71ed6314f96350c448c7b3bc21a89bda89903ba9a8"), looks := true }, kinds := [], alts := [], laidByText := true, laidKinds := [.data, .data, .data, .data, .sentinel, .sentinel, .pinned], laidTests := true, laidLooks := .later }
def SchemaStepsCardSaid : Prop := Claim7.holds Tryz.pinned (.plain (OpenSpec.ofChange schemaStepsSpec)) schemaStepsCard

/-- THE TIED CARD OF 'morainelaw08.SchemaFollows'. -/
def schemaFollowsCard : Claim7 := { stood := { row := schemaFollowsRow, standIns := [], harness := (true, "1f5aab9b8d5d175f27ab3f71ed6314f96350c448c7b3bc21a89bda89903ba9a8"), looks := true }, kinds := [], alts := [], laidByText := true, laidKinds := [.data, .data, .data, .data, .sentinel, .sentinel, .pinned], laidTests := true, laidLooks := .later }
def SchemaFollowsCardSaid : Prop := Claim7.holds Tryz.pinned (.plain (OpenSpec.ofChange schemaFollowsSpec)) schemaFollowsCard

/-- THE TIED CARD OF 'morainelaw08.SchemaTold'. -/
def schemaToldCard : Claim7 := { stood := { row := schemaToldRow, standIns := [], harness := (true, "1f5aab9b8d5d175f27ab3f71ed6314f96350c448c7b3bc21a89bda89903ba9a8"), looks := true }, kinds := [], alts := [], laidByText := true, laidKinds := [.data, .data, .data, .data, .sentinel, .sentinel, .pinned], laidTests := true, laidLooks := .later }
def SchemaToldCardSaid : Prop := Claim7.holds Tryz.pinned (.plain (OpenSpec.ofChange schemaToldSpec)) schemaToldCard

/-- THE SECOND FORM's CARD OF 'morainelaw08.SchemaCarries'. -/
def schemaCarriesUptoCard : Claim7 := { stood := { row := schemaCarriesUptoRow, standIns := [], harness := (true, "1f5aab9b8d5d175f27ab3f71ed6314f96350c448c7b3bc21a89bda89903ba9a8"), looks := true }, kinds := [], alts := [], laidByText := true, laidKinds := [.data, .data, .data, .data, .sentinel, .sentinel, .pinned], laidTests := true, laidLooks := .later }
def SchemaCarriesUptoCardSaid : Prop := Claim7.holds Tryz.pinned (.plain (OpenSpec.upto schemaCarriesSpec)) schemaCarriesUptoCard

/-- THE SECOND FORM's CARD OF 'morainelaw08.SchemaSteps'. -/
def schemaStepsUptoCard : Claim7 := { stood := { row := schemaStepsUptoRow, standIns := [], harness := (true, "1f5aab9b8d5d175f27ab3f71ed6314f96350c448c7b3bc21a89bda89903ba9a8"), looks := true }, kinds := [], alts := [], laidByText := true, laidKinds := [.data, .data, .data, .data, .sentinel, .sentinel, .pinned], laidTests := true, laidLooks := .later }
def SchemaStepsUptoCardSaid : Prop := Claim7.holds Tryz.pinned (.plain (OpenSpec.upto schemaStepsSpec)) schemaStepsUptoCard

/-- THE SECOND FORM's CARD OF 'morainelaw08.SchemaFollows'. -/
def schemaFollowsUptoCard : Claim7 := { stood := { row := schemaFollowsUptoRow, standIns := [], harness := (true, "1f5aab9b8d5d175f27ab3f71ed6314f96350c448c7b3bc21a89bda89903ba9a8"), looks := true }, kinds := [], alts := [], laidByText := true, laidKinds := [.data, .data, .data, .data, .sentinel, .sentinel, .pinned], laidTests := true, laidLooks := .later }
def SchemaFollowsUptoCardSaid : Prop := Claim7.holds Tryz.pinned (.plain (OpenSpec.upto schemaFollowsSpec)) schemaFollowsUptoCard

/-- THE SECOND FORM's CARD OF 'morainelaw08.SchemaTold'. -/
def schemaToldUptoCard : Claim7 := { stood := { row := schemaToldUptoRow, standIns := [], harness := (true, "1f5aab9b8d5d175f27ab3f71ed6314f96350c448c7b3bc21a89bda89903ba9a8"), looks := true }, kinds := [], alts := [], laidByText := true, laidKinds := [.data, .data, .data, .data, .sentinel, .sentinel, .pinned], laidTests := true, laidLooks := .later }
def SchemaToldUptoCardSaid : Prop := Claim7.holds Tryz.pinned (.plain (OpenSpec.upto schemaToldSpec)) schemaToldUptoCard
end Rows
end Go.Proofs.YtbkgnekfigknhaaGreatDoor
