/-
  DERIVED. GIVEN WITH THE SEED: THE CARDS: each row of YthjphllpkcnehaaGreatDoorRows.lean that lists a variable, with what it lists TIED to the program's text (the seventh form; the later family's looks); each row that meets fmt, with fmt's text TOLD by the authors' own Lean function (tested against real Go, not proved from fmt's source: count such statements apart). THE CARD IS WHAT COUNTS. Prove the row's statement (the work); the ties are given (YthjphllpkcnehaaGreatDoorTie.lean); close each card by the builder's one call (the guide's Derived/Test/ToyasCard.lean, 'card_holds'). Laid BY PROGRAM, IN A SANDBOX (cutbox-door.mjs). By AI agents, Wed Nov 11 2026. No macro, syntax, notation, axiom, sorry.
-/
import Derived.Test.YthjphllpkcnehaaGreatDoorRows
import GoSem.ClaimSeven
namespace Go.Proofs.YthjphllpkcnehaaGreatDoor
namespace Rows

/-- THE TIED CARD OF 'morainelaw05.ExprBack'. -/
def exprBackCard : Claim7 := { stood := { row := exprBackRow, standIns := [], harness := (true, "89b7469062baff87d4b7ac82c05ce496fb0ca8f0eda692a6286c43018fb9376b"), looks := true }, kinds := [], alts := [], laidByText := true, laidKinds := [.data, .data, .data, .data, .pinned], laidTests := true, laidLooks := .later }
def ExprBackCardSaid : Prop := Claim7.holds Tryz.pinned (.plain (OpenSpec.ofChange exprBackSpec)) exprBackCard

/-- THE TIED CARD OF 'morainelaw05.ExprAround'. -/
def exprAroundCard : Claim7 := { stood := { row := exprAroundRow, standIns := [], harness := (true, "89b7469062baff87d4b7ac82c05ce496fb0ca8f0eda692a6286c43018fb9376b"), looks := true }, kinds := [], alts := [], laidByText := true, laidKinds := [.data, .data, .data, .data, .pinned], laidTests := true, laidLooks := .later }
def ExprAroundCardSaid : Prop := Claim7.holds Tryz.pinned (.plain (OpenSpec.ofChange exprAroundSpec)) exprAroundCard

/-- THE TIED CARD OF 'morainelaw03.ValWritten'. -/
def valWrittenCard : Claim7 := { stood := { row := valWrittenRow, standIns := [], harness := (true, "89b7469062baff87d4b7ac82c05ce496fb0ca8f0eda692a6286c43018fb9376b"), looks := true }, kinds := [], alts := [], laidByText := true, laidKinds := [.data, .data, .data, .data, .sentinel, .sentinel, .pinned], laidTests := true, laidLooks := .later }
def ValWrittenCardSaid : Prop := Claim7.holds Tryz.pinned (.plain (OpenSpec.ofChange valWrittenSpec)) valWrittenCard

/-- THE TIED CARD OF 'morainelaw03.ValRefs'. -/
def valRefsCard : Claim7 := { stood := { row := valRefsRow, standIns := [], harness := (true, "89b7469062baff87d4b7ac82c05ce496fb0ca8f0eda692a6286c43018fb9376b"), looks := true }, kinds := [], alts := [], laidByText := true, laidKinds := [.data, .data, .data, .data, .sentinel, .sentinel, .pinned], laidTests := true, laidLooks := .later }
def ValRefsCardSaid : Prop := Claim7.holds Tryz.pinned (.plain (OpenSpec.ofChange valRefsSpec)) valRefsCard

/-- THE TIED CARD OF 'morainelaw03.ValTells'. -/
def valTellsCard : Claim7 := { stood := { row := valTellsRow, standIns := [], harness := (true, "89b7469062baff87d4b7ac82c05ce496fb0ca8f0eda692a6286c43018fb9376b"), looks := true }, kinds := [], alts := [], laidByText := true, laidKinds := [.data, .data, .data, .data, .sentinel, .sentinel, .pinned], laidTests := true, laidLooks := .later }
def ValTellsCardSaid : Prop := Claim7.holds Tryz.pinned (.plain (OpenSpec.ofChange valTellsSpec)) valTellsCard

/-- THE TIED CARD OF 'morainelaw04.ClassValues'. -/
def classValuesCard : Claim7 := { stood := { row := classValuesRow, standIns := [], harness := (true, "89b7469062baff87d4b7ac82c05ce496fb0ca8f0eda692a6286c43018fb9376b"), looks := true }, kinds := [], alts := [], laidByText := true, laidKinds := [.data, .data, .data, .data, .sentinel, .sentinel, .pinned], laidTests := true, laidLooks := .later }
def ClassValuesCardSaid : Prop := Claim7.holds Tryz.pinned (.plain (OpenSpec.ofChange classValuesSpec)) classValuesCard

/-- THE SECOND FORM's CARD OF 'morainelaw05.ExprBack'. -/
def exprBackUptoCard : Claim7 := { stood := { row := exprBackUptoRow, standIns := [], harness := (true, "89b7469062baff87d4b7ac82c05ce496fb0ca8f0eda692a6286c43018fb9376b"), looks := true }, kinds := [], alts := [], laidByText := true, laidKinds := [.data, .data, .data, .data, .pinned], laidTests := true, laidLooks := .later }
def ExprBackUptoCardSaid : Prop := Claim7.holds Tryz.pinned (.plain (OpenSpec.upto exprBackSpec)) exprBackUptoCard

/-- THE SECOND FORM's CARD OF 'morainelaw05.ExprAround'. -/
def exprAroundUptoCard : Claim7 := { stood := { row := exprAroundUptoRow, standIns := [], harness := (true, "89b7469062baff87d4b7ac82c05ce496fb0ca8f0eda692a6286c43018fb9376b"), looks := true }, kinds := [], alts := [], laidByText := true, laidKinds := [.data, .data, .data, .data, .pinned], laidTests := true, laidLooks := .later }
def ExprAroundUptoCardSaid : Prop := Claim7.holds Tryz.pinned (.plain (OpenSpec.upto exprAroundSpec)) exprAroundUptoCard

/-- THE SECOND FORM's CARD OF 'morainelaw03.ValWritten'. -/
def valWrittenUptoCard : Claim7 := { stood := { row := valWrittenUptoRow, standIns := [], harness := (true, "89b7469062baff87d4b7ac82c05ce496fb0ca8f0eda692a6286c43018fb9376b"), looks := true }, kinds := [], alts := [], laidByText := true, laidKinds := [.data, .data, .data, .data, .sentinel, .sentinel, .pinned], laidTests := true, laidLooks := .later }
def ValWrittenUptoCardSaid : Prop := Claim7.holds Tryz.pinned (.plain (OpenSpec.upto valWrittenSpec)) valWrittenUptoCard

/-- THE SECOND FORM's CARD OF 'morainelaw03.ValRefs'. -/
def valRefsUptoCard : Claim7 := { stood := { row := valRefsUptoRow, standIns := [], harness := (true, "89b7469062baff87d4b7ac82c05ce496fb0ca8f0eda692a6286c43018fb9376b"), looks := true }, kinds := [], alts := [], laidByText := true, laidKinds := [.data, .data, .data, .data, .sentinel, .sentinel, .pinned], laidTests := true, laidLooks := .later }
def ValRefsUptoCardSaid : Prop := Claim7.holds Tryz.pinned (.plain (OpenSpec.upto valRefsSpec)) valRefsUptoCard

/-- THE SECOND FORM's CARD OF 'morainelaw03.ValTells'. -/
def valTellsUptoCard : Claim7 := { stood := { row := valTellsUptoRow, standIns := [], harness := (true, "89b7469062baff87d4b7ac82c05ce496fb0ca8f0eda692a6286c43018fb9376b"), looks := true }, kinds := [], alts := [], laidByText := true, laidKinds := [.data, .data, .data, .data, .sentinel, .sentinel, .pinned], laidTests := true, laidLooks := .later }
def ValTellsUptoCardSaid : Prop := Claim7.holds Tryz.pinned (.plain (OpenSpec.upto valTellsSpec)) valTellsUptoCard

/-- THE SECOND FORM's CARD OF 'morainelaw04.ClassValues'. -/
def classValuesUptoCard : Claim7 := { stood := { row := classValuesUptoRow, standIns := [], harness := (true, "89b7469062baff87d4b7ac82c05ce496fb0ca8f0eda692a6286c43018fb9376b"), looks := true }, kinds := [], alts := [], laidByText := true, laidKinds := [.data, .data, .data, .data, .sentinel, .sentinel, .pinned], laidTests := true, laidLooks := .later }
def ClassValuesUptoCardSaid : Prop := Claim7.holds Tryz.pinned (.plain (OpenSpec.upto classValuesSpec)) classValuesUptoCard
end Rows
end Go.Proofs.YthjphllpkcnehaaGreatDoor
