/-
  DERIVED. GIVEN WITH THE SEED: THE CARDS: each row of YtdlolkogifigpaaDoorRows.lean that lists a variable, with what it lists TIED to the program's text (the seventh form; the later family's looks); each row that meets fmt, with fmt's text TOLD by the authors' own Lean function (tested against real Go, not proved from fmt's source: count such statements apart). THE CARD IS WHAT COUNTS. Prove the row's statement (the work); the ties are given (YtdlolkogifigpaaDoorTie.lean); close each card by the builder's one call (the guide's Derived/Test/ToyasCard.lean, 'card_holds'). Laid BY PROGRAM, IN A SANDBOX (cutbox-door.mjs). By AI agents, Wed Nov 11 2026. No macro, syntax, notation, axiom, sorry.
-/
import Derived.Test.YtdlolkogifigpaaDoorRows
import GoSem.ClaimSeven
namespace Go.Proofs.YtdlolkogifigpaaDoor
namespace Rows

/-- THE TIED CARD OF 'morainelaw04.ClassChecks'. -/
def classChecksCard : Claim7 := { stood := { row := classChecksRow, standIns := [], harness := (true, "4df96ee112e5fdee4d6ca58871f5ac1c3f2f05e993a6e43a4d8f17a1b2af527e"), looks := true }, kinds := [], alts := [], laidByText := true, laidKinds := [.data, .sentinel, .sentinel, .pinned], laidTests := true, laidLooks := .later }
def ClassChecksCardSaid : Prop := Claim7.holds Tryd.pinned (.plain (OpenSpec.ofChange classChecksSpec)) classChecksCard

/-- THE TIED CARD OF 'morainelaw04.ClassBack'. -/
def classBackCard : Claim7 := { stood := { row := classBackRow, standIns := [], harness := (true, "4df96ee112e5fdee4d6ca58871f5ac1c3f2f05e993a6e43a4d8f17a1b2af527e"), looks := true }, kinds := [], alts := [], laidByText := true, laidKinds := [.data, .sentinel, .sentinel, .pinned], laidTests := true, laidLooks := .later }
def ClassBackCardSaid : Prop := Claim7.holds Tryd.pinned (.plain (OpenSpec.ofChange classBackSpec)) classBackCard

/-- THE TIED CARD OF 'morainelaw04.ClassOnce'. -/
def classOnceCard : Claim7 := { stood := { row := classOnceRow, standIns := [], harness := (true, "4df96ee112e5fdee4d6ca58871f5ac1c3f2f05e993a6e43a4d8f17a1b2af527e"), looks := true }, kinds := [], alts := [], laidByText := true, laidKinds := [.data, .sentinel, .sentinel, .pinned], laidTests := true, laidLooks := .later }
def ClassOnceCardSaid : Prop := Claim7.holds Tryd.pinned (.plain (OpenSpec.ofChange classOnceSpec)) classOnceCard

/-- THE TIED CARD OF 'morainelaw04.ClassFits'. -/
def classFitsCard : Claim7 := { stood := { row := classFitsRow, standIns := [], harness := (true, "4df96ee112e5fdee4d6ca58871f5ac1c3f2f05e993a6e43a4d8f17a1b2af527e"), looks := true }, kinds := [], alts := [], laidByText := true, laidKinds := [.data, .sentinel, .sentinel, .pinned], laidTests := true, laidLooks := .later }
def ClassFitsCardSaid : Prop := Claim7.holds Tryd.pinned (.plain (OpenSpec.ofChange classFitsSpec)) classFitsCard

/-- THE TIED CARD OF 'morainelaw03.ValBack'. -/
def valBackCard : Claim7 := { stood := { row := valBackRow, standIns := [], harness := (true, "4df96ee112e5fdee4d6ca58871f5ac1c3f2f05e993a6e43a4d8f17a1b2af527e"), looks := true }, kinds := [], alts := [], laidByText := true, laidKinds := [.data, .sentinel, .sentinel, .pinned], laidTests := true, laidLooks := .later }
def ValBackCardSaid : Prop := Claim7.holds Tryd.pinned (.plain (OpenSpec.ofChange valBackSpec)) valBackCard

/-- THE TIED CARD OF 'morainelaw03.ValOrder'. -/
def valOrderCard : Claim7 := { stood := { row := valOrderRow, standIns := [], harness := (true, "4df96ee112e5fdee4d6ca58871f5ac1c3f2f05e993a6e43a4d8f17a1b2af527e"), looks := true }, kinds := [], alts := [], laidByText := true, laidKinds := [.data, .sentinel, .sentinel, .pinned], laidTests := true, laidLooks := .later }
def ValOrderCardSaid : Prop := Claim7.holds Tryd.pinned (.plain (OpenSpec.ofChange valOrderSpec)) valOrderCard

/-- THE TIED CARD OF 'morainelaw03.ValCut'. -/
def valCutCard : Claim7 := { stood := { row := valCutRow, standIns := [], harness := (true, "4df96ee112e5fdee4d6ca58871f5ac1c3f2f05e993a6e43a4d8f17a1b2af527e"), looks := true }, kinds := [], alts := [], laidByText := true, laidKinds := [.data, .sentinel, .sentinel, .pinned], laidTests := true, laidLooks := .later }
def ValCutCardSaid : Prop := Claim7.holds Tryd.pinned (.plain (OpenSpec.ofChange valCutSpec)) valCutCard

/-- THE TIED CARD OF 'morainelaw03.ValKinds'. -/
def valKindsCard : Claim7 := { stood := { row := valKindsRow, standIns := [], harness := (true, "4df96ee112e5fdee4d6ca58871f5ac1c3f2f05e993a6e43a4d8f17a1b2af527e"), looks := true }, kinds := [], alts := [], laidByText := true, laidKinds := [.data, .sentinel, .sentinel, .pinned], laidTests := true, laidLooks := .later }
def ValKindsCardSaid : Prop := Claim7.holds Tryd.pinned (.plain (OpenSpec.ofChange valKindsSpec)) valKindsCard

/-- THE TIED CARD OF 'morainelaw03.ValFits'. -/
def valFitsCard : Claim7 := { stood := { row := valFitsRow, standIns := [], harness := (true, "4df96ee112e5fdee4d6ca58871f5ac1c3f2f05e993a6e43a4d8f17a1b2af527e"), looks := true }, kinds := [], alts := [], laidByText := true, laidKinds := [.data, .sentinel, .sentinel, .pinned], laidTests := true, laidLooks := .later }
def ValFitsCardSaid : Prop := Claim7.holds Tryd.pinned (.plain (OpenSpec.ofChange valFitsSpec)) valFitsCard

/-- THE SECOND FORM's CARD OF 'morainelaw04.ClassChecks'. -/
def classChecksUptoCard : Claim7 := { stood := { row := classChecksUptoRow, standIns := [], harness := (true, "4df96ee112e5fdee4d6ca58871f5ac1c3f2f05e993a6e43a4d8f17a1b2af527e"), looks := true }, kinds := [], alts := [], laidByText := true, laidKinds := [.data, .sentinel, .sentinel, .pinned], laidTests := true, laidLooks := .later }
def ClassChecksUptoCardSaid : Prop := Claim7.holds Tryd.pinned (.plain (OpenSpec.upto classChecksSpec)) classChecksUptoCard

/-- THE SECOND FORM's CARD OF 'morainelaw04.ClassBack'. -/
def classBackUptoCard : Claim7 := { stood := { row := classBackUptoRow, standIns := [], harness := (true, "4df96ee112e5fdee4d6ca58871f5ac1c3f2f05e993a6e43a4d8f17a1b2af527e"), looks := true }, kinds := [], alts := [], laidByText := true, laidKinds := [.data, .sentinel, .sentinel, .pinned], laidTests := true, laidLooks := .later }
def ClassBackUptoCardSaid : Prop := Claim7.holds Tryd.pinned (.plain (OpenSpec.upto classBackSpec)) classBackUptoCard

/-- THE SECOND FORM's CARD OF 'morainelaw04.ClassOnce'. -/
def classOnceUptoCard : Claim7 := { stood := { row := classOnceUptoRow, standIns := [], harness := (true, "4df96ee112e5fdee4d6ca58871f5ac1c3f2f05e993a6e43a4d8f17a1b2af527e"), looks := true }, kinds := [], alts := [], laidByText := true, laidKinds := [.data, .sentinel, .sentinel, .pinned], laidTests := true, laidLooks := .later }
def ClassOnceUptoCardSaid : Prop := Claim7.holds Tryd.pinned (.plain (OpenSpec.upto classOnceSpec)) classOnceUptoCard

/-- THE SECOND FORM's CARD OF 'morainelaw04.ClassFits'. -/
def classFitsUptoCard : Claim7 := { stood := { row := classFitsUptoRow, standIns := [], harness := (true, "4df96ee112e5fdee4d6ca58871f5ac1c3f2f05e993a6e43a4d8f17a1b2af527e"), looks := true }, kinds := [], alts := [], laidByText := true, laidKinds := [.data, .sentinel, .sentinel, .pinned], laidTests := true, laidLooks := .later }
def ClassFitsUptoCardSaid : Prop := Claim7.holds Tryd.pinned (.plain (OpenSpec.upto classFitsSpec)) classFitsUptoCard

/-- THE SECOND FORM's CARD OF 'morainelaw03.ValBack'. -/
def valBackUptoCard : Claim7 := { stood := { row := valBackUptoRow, standIns := [], harness := (true, "4df96ee112e5fdee4d6ca58871f5ac1c3f2f05e993a6e43a4d8f17a1b2af527e"), looks := true }, kinds := [], alts := [], laidByText := true, laidKinds := [.data, .sentinel, .sentinel, .pinned], laidTests := true, laidLooks := .later }
def ValBackUptoCardSaid : Prop := Claim7.holds Tryd.pinned (.plain (OpenSpec.upto valBackSpec)) valBackUptoCard

/-- THE SECOND FORM's CARD OF 'morainelaw03.ValOrder'. -/
def valOrderUptoCard : Claim7 := { stood := { row := valOrderUptoRow, standIns := [], harness := (true, "4df96ee112e5fdee4d6ca58871f5ac1c3f2f05e993a6e43a4d8f17a1b2af527e"), looks := true }, kinds := [], alts := [], laidByText := true, laidKinds := [.data, .sentinel, .sentinel, .pinned], laidTests := true, laidLooks := .later }
def ValOrderUptoCardSaid : Prop := Claim7.holds Tryd.pinned (.plain (OpenSpec.upto valOrderSpec)) valOrderUptoCard

/-- THE SECOND FORM's CARD OF 'morainelaw03.ValCut'. -/
def valCutUptoCard : Claim7 := { stood := { row := valCutUptoRow, standIns := [], harness := (true, "4df96ee112e5fdee4d6ca58871f5ac1c3f2f05e993a6e43a4d8f17a1b2af527e"), looks := true }, kinds := [], alts := [], laidByText := true, laidKinds := [.data, .sentinel, .sentinel, .pinned], laidTests := true, laidLooks := .later }
def ValCutUptoCardSaid : Prop := Claim7.holds Tryd.pinned (.plain (OpenSpec.upto valCutSpec)) valCutUptoCard

/-- THE SECOND FORM's CARD OF 'morainelaw03.ValKinds'. -/
def valKindsUptoCard : Claim7 := { stood := { row := valKindsUptoRow, standIns := [], harness := (true, "4df96ee112e5fdee4d6ca58871f5ac1c3f2f05e993a6e43a4d8f17a1b2af527e"), looks := true }, kinds := [], alts := [], laidByText := true, laidKinds := [.data, .sentinel, .sentinel, .pinned], laidTests := true, laidLooks := .later }
def ValKindsUptoCardSaid : Prop := Claim7.holds Tryd.pinned (.plain (OpenSpec.upto valKindsSpec)) valKindsUptoCard

/-- THE SECOND FORM's CARD OF 'morainelaw03.ValFits'. -/
def valFitsUptoCard : Claim7 := { stood := { row := valFitsUptoRow, standIns := [], harness := (true, "4df96ee112e5fdee4d6ca58871f5ac1c3f2f05e993a6e43a4d8f17a1b2af527e"), looks := true }, kinds := [], alts := [], laidByText := true, laidKinds := [.data, .sentinel, .sentinel, .pinned], laidTests := true, laidLooks := .later }
def ValFitsUptoCardSaid : Prop := Claim7.holds Tryd.pinned (.plain (OpenSpec.upto valFitsSpec)) valFitsUptoCard
end Rows
end Go.Proofs.YtdlolkogifigpaaDoor
