/-
  DERIVED. GIVEN WITH THE SEED: THE CARDS: each row of YtmiokadmddjccaaGreatDoorRows.lean that lists a variable, with what it lists TIED to the program's text (the seventh form; the later family's looks); each row that meets fmt, with fmt's text TOLD by the authors' own Lean function (tested against real Go, not proved from fmt's source: count such statements apart). THE CARD IS WHAT COUNTS. Prove the row's statement (the work); the ties are given (YtmiokadmddjccaaGreatDoorTie.lean); close each card by the builder's one call (the guide's Derived/Test/ToyasCard.lean, 'card_holds'). Laid BY PROGRAM, IN A SANDBOX (cutbox-door.mjs). By AI agents, Wed Nov 11 2026. No macro, syntax, notation, axiom, sorry.
-/
import Derived.Test.YtmiokadmddjccaaGreatDoorRows
import GoSem.ClaimSeven
namespace Go.Proofs.YtmiokadmddjccaaGreatDoor
namespace Rows

/-- THE TIED CARD OF 'morainelaw05.ExprBack'. -/
def exprBackCard : Claim7 := { stood := { row := exprBackRow, standIns := [], harness := (true, "1bd778992f293905a21f5d99788e6155a86fac053fcf61f47bb16633f201b667"), looks := true }, kinds := [], alts := [], laidByText := true, laidKinds := [.data, .data, .data, .data, .pinned], laidTests := true, laidLooks := .later }
def ExprBackCardSaid : Prop := Claim7.holds Tryz.pinned (.plain (OpenSpec.ofChange exprBackSpec)) exprBackCard

/-- THE TIED CARD OF 'morainelaw05.ExprAround'. -/
def exprAroundCard : Claim7 := { stood := { row := exprAroundRow, standIns := [], harness := (true, "1bd778992f293905a21f5d99788e6155a86fac053fcf61f47bb16633f201b667"), looks := true }, kinds := [], alts := [], laidByText := true, laidKinds := [.data, .data, .data, .data, .pinned], laidTests := true, laidLooks := .later }
def ExprAroundCardSaid : Prop := Claim7.holds Tryz.pinned (.plain (OpenSpec.ofChange exprAroundSpec)) exprAroundCard

/-- THE TIED CARD OF 'morainelaw04.ClassValues'. -/
def classValuesCard : Claim7 := { stood := { row := classValuesRow, standIns := [], harness := (true, "1bd778992f293905a21f5d99788e6155a86fac053fcf61f47bb16633f201b667"), looks := true }, kinds := [], alts := [], laidByText := true, laidKinds := [.data, .data, .data, .data, .sentinel, .sentinel, .pinned], laidTests := true, laidLooks := .later }
def ClassValuesCardSaid : Prop := Claim7.holds Tryz.pinned (.plain (OpenSpec.ofChange classValuesSpec)) classValuesCard

/-- THE TIED CARD OF 'morainelaw06.EvalFields'. -/
def evalFieldsCard : Claim7 := { stood := { row := evalFieldsRow, standIns := [], harness := (true, "1bd778992f293905a21f5d99788e6155a86fac053fcf61f47bb16633f201b667"), looks := true }, kinds := [], alts := [], laidByText := true, laidKinds := [.data, .data, .data, .data, .sentinel, .sentinel, .pinned], laidTests := true, laidLooks := .later }
def EvalFieldsCardSaid : Prop := Claim7.holds Tryz.pinned (.plain (OpenSpec.ofChange evalFieldsSpec)) evalFieldsCard

/-- THE TIED CARD OF 'morainelaw06.EvalTexts'. -/
def evalTextsCard : Claim7 := { stood := { row := evalTextsRow, standIns := [], harness := (true, "1bd778992f293905a21f5d99788e6155a86fac053fcf61f47bb16633f201b667"), looks := true }, kinds := [], alts := [], laidByText := true, laidKinds := [.data, .data, .data, .data, .sentinel, .sentinel, .pinned], laidTests := true, laidLooks := .later }
def EvalTextsCardSaid : Prop := Claim7.holds Tryz.pinned (.plain (OpenSpec.ofChange evalTextsSpec)) evalTextsCard

/-- THE TIED CARD OF 'morainelaw06.EvalIf'. -/
def evalIfCard : Claim7 := { stood := { row := evalIfRow, standIns := [], harness := (true, "1bd778992f293905a21f5d99788e6155a86fac053fcf61f47bb16633f201b667"), looks := true }, kinds := [], alts := [], laidByText := true, laidKinds := [.data, .data, .data, .data, .sentinel, .sentinel, .pinned], laidTests := true, laidLooks := .later }
def EvalIfCardSaid : Prop := Claim7.holds Tryz.pinned (.plain (OpenSpec.ofChange evalIfSpec)) evalIfCard

/-- THE TIED CARD OF 'morainelaw06.EvalSums'. -/
def evalSumsCard : Claim7 := { stood := { row := evalSumsRow, standIns := [], harness := (true, "1bd778992f293905a21f5d99788e6155a86fac053fcf61f47bb16633f201b667"), looks := true }, kinds := [], alts := [], laidByText := true, laidKinds := [.data, .data, .data, .data, .sentinel, .sentinel, .pinned], laidTests := true, laidLooks := .later }
def EvalSumsCardSaid : Prop := Claim7.holds Tryz.pinned (.plain (OpenSpec.ofChange evalSumsSpec)) evalSumsCard

/-- THE TIED CARD OF 'morainelaw06.EvalJoins'. -/
def evalJoinsCard : Claim7 := { stood := { row := evalJoinsRow, standIns := [], harness := (true, "1bd778992f293905a21f5d99788e6155a86fac053fcf61f47bb16633f201b667"), looks := true }, kinds := [], alts := [], laidByText := true, laidKinds := [.data, .data, .data, .data, .sentinel, .sentinel, .pinned], laidTests := true, laidLooks := .later }
def EvalJoinsCardSaid : Prop := Claim7.holds Tryz.pinned (.plain (OpenSpec.ofChange evalJoinsSpec)) evalJoinsCard

/-- THE TIED CARD OF 'morainelaw06.EvalPut'. -/
def evalPutCard : Claim7 := { stood := { row := evalPutRow, standIns := [], harness := (true, "1bd778992f293905a21f5d99788e6155a86fac053fcf61f47bb16633f201b667"), looks := true }, kinds := [], alts := [], laidByText := true, laidKinds := [.data, .data, .data, .data, .sentinel, .sentinel, .pinned], laidTests := true, laidLooks := .later }
def EvalPutCardSaid : Prop := Claim7.holds Tryz.pinned (.plain (OpenSpec.ofChange evalPutSpec)) evalPutCard

/-- THE TIED CARD OF 'morainelaw06.EvalCut'. -/
def evalCutCard : Claim7 := { stood := { row := evalCutRow, standIns := [], harness := (true, "1bd778992f293905a21f5d99788e6155a86fac053fcf61f47bb16633f201b667"), looks := true }, kinds := [], alts := [], laidByText := true, laidKinds := [.data, .data, .data, .data, .sentinel, .sentinel, .pinned], laidTests := true, laidLooks := .later }
def EvalCutCardSaid : Prop := Claim7.holds Tryz.pinned (.plain (OpenSpec.ofChange evalCutSpec)) evalCutCard

/-- THE TIED CARD OF 'morainelaw06.EvalFits'. -/
def evalFitsCard : Claim7 := { stood := { row := evalFitsRow, standIns := [], harness := (true, "1bd778992f293905a21f5d99788e6155a86fac053fcf61f47bb16633f201b667"), looks := true }, kinds := [], alts := [], laidByText := true, laidKinds := [.data, .data, .data, .data, .sentinel, .sentinel, .pinned], laidTests := true, laidLooks := .later }
def EvalFitsCardSaid : Prop := Claim7.holds Tryz.pinned (.plain (OpenSpec.ofChange evalFitsSpec)) evalFitsCard

/-- THE SECOND FORM's CARD OF 'morainelaw05.ExprBack'. -/
def exprBackUptoCard : Claim7 := { stood := { row := exprBackUptoRow, standIns := [], harness := (true, "1bd778992f293905a21f5d99788e6155a86fac053fcf61f47bb16633f201b667"), looks := true }, kinds := [], alts := [], laidByText := true, laidKinds := [.data, .data, .data, .data, .pinned], laidTests := true, laidLooks := .later }
def ExprBackUptoCardSaid : Prop := Claim7.holds Tryz.pinned (.plain (OpenSpec.upto exprBackSpec)) exprBackUptoCard

/-- THE SECOND FORM's CARD OF 'morainelaw05.ExprAround'. -/
def exprAroundUptoCard : Claim7 := { stood := { row := exprAroundUptoRow, standIns := [], harness := (true, "1bd778992f293905a21f5d99788e6155a86fac053fcf61f47bb16633f201b667"), looks := true }, kinds := [], alts := [], laidByText := true, laidKinds := [.data, .data, .data, .data, .pinned], laidTests := true, laidLooks := .later }
def ExprAroundUptoCardSaid : Prop := Claim7.holds Tryz.pinned (.plain (OpenSpec.upto exprAroundSpec)) exprAroundUptoCard

/-- THE SECOND FORM's CARD OF 'morainelaw04.ClassValues'. -/
def classValuesUptoCard : Claim7 := { stood := { row := classValuesUptoRow, standIns := [], harness := (true, "1bd778992f293905a21f5d99788e6155a86fac053fcf61f47bb16633f201b667"), looks := true }, kinds := [], alts := [], laidByText := true, laidKinds := [.data, .data, .data, .data, .sentinel, .sentinel, .pinned], laidTests := true, laidLooks := .later }
def ClassValuesUptoCardSaid : Prop := Claim7.holds Tryz.pinned (.plain (OpenSpec.upto classValuesSpec)) classValuesUptoCard

/-- THE SECOND FORM's CARD OF 'morainelaw06.EvalFields'. -/
def evalFieldsUptoCard : Claim7 := { stood := { row := evalFieldsUptoRow, standIns := [], harness := (true, "1bd778992f293905a21f5d99788e6155a86fac053fcf61f47bb16633f201b667"), looks := true }, kinds := [], alts := [], laidByText := true, laidKinds := [.data, .data, .data, .data, .sentinel, .sentinel, .pinned], laidTests := true, laidLooks := .later }
def EvalFieldsUptoCardSaid : Prop := Claim7.holds Tryz.pinned (.plain (OpenSpec.upto evalFieldsSpec)) evalFieldsUptoCard

/-- THE SECOND FORM's CARD OF 'morainelaw06.EvalTexts'. -/
def evalTextsUptoCard : Claim7 := { stood := { row := evalTextsUptoRow, standIns := [], harness := (true, "1bd778992f293905a21f5d99788e6155a86fac053fcf61f47bb16633f201b667"), looks := true }, kinds := [], alts := [], laidByText := true, laidKinds := [.data, .data, .data, .data, .sentinel, .sentinel, .pinned], laidTests := true, laidLooks := .later }
def EvalTextsUptoCardSaid : Prop := Claim7.holds Tryz.pinned (.plain (OpenSpec.upto evalTextsSpec)) evalTextsUptoCard

/-- THE SECOND FORM's CARD OF 'morainelaw06.EvalIf'. -/
def evalIfUptoCard : Claim7 := { stood := { row := evalIfUptoRow, standIns := [], harness := (true, "1bd778992f293905a21f5d99788e6155a86fac053fcf61f47bb16633f201b667"), looks := true }, kinds := [], alts := [], laidByText := true, laidKinds := [.data, .data, .data, .data, .sentinel, .sentinel, .pinned], laidTests := true, laidLooks := .later }
def EvalIfUptoCardSaid : Prop := Claim7.holds Tryz.pinned (.plain (OpenSpec.upto evalIfSpec)) evalIfUptoCard

/-- THE SECOND FORM's CARD OF 'morainelaw06.EvalSums'. -/
def evalSumsUptoCard : Claim7 := { stood := { row := evalSumsUptoRow, standIns := [], harness := (true, "1bd778992f293905a21f5d99788e6155a86fac053fcf61f47bb16633f201b667"), looks := true }, kinds := [], alts := [], laidByText := true, laidKinds := [.data, .data, .data, .data, .sentinel, .sentinel, .pinned], laidTests := true, laidLooks := .later }
def EvalSumsUptoCardSaid : Prop := Claim7.holds Tryz.pinned (.plain (OpenSpec.upto evalSumsSpec)) evalSumsUptoCard

/-- THE SECOND FORM's CARD OF 'morainelaw06.EvalJoins'. -/
def evalJoinsUptoCard : Claim7 := { stood := { row := evalJoinsUptoRow, standIns := [], harness := (true, "1bd778992f293905a21f5d99788e6155a86fac053fcf61f47bb16633f201b667"), looks := true }, kinds := [], alts := [], laidByText := true, laidKinds := [.data, .data, .data, .data, .sentinel, .sentinel, .pinned], laidTests := true, laidLooks := .later }
def EvalJoinsUptoCardSaid : Prop := Claim7.holds Tryz.pinned (.plain (OpenSpec.upto evalJoinsSpec)) evalJoinsUptoCard

/-- THE SECOND FORM's CARD OF 'morainelaw06.EvalPut'. -/
def evalPutUptoCard : Claim7 := { stood := { row := evalPutUptoRow, standIns := [], harness := (true, "1bd778992f293905a21f5d99788e6155a86fac053fcf61f47bb16633f201b667"), looks := true }, kinds := [], alts := [], laidByText := true, laidKinds := [.data, .data, .data, .data, .sentinel, .sentinel, .pinned], laidTests := true, laidLooks := .later }
def EvalPutUptoCardSaid : Prop := Claim7.holds Tryz.pinned (.plain (OpenSpec.upto evalPutSpec)) evalPutUptoCard

/-- THE SECOND FORM's CARD OF 'morainelaw06.EvalCut'. -/
def evalCutUptoCard : Claim7 := { stood := { row := evalCutUptoRow, standIns := [], harness := (true, "1bd778992f293905a21f5d99788e6155a86fac053fcf61f47bb16633f201b667"), looks := true }, kinds := [], alts := [], laidByText := true, laidKinds := [.data, .data, .data, .data, .sentinel, .sentinel, .pinned], laidTests := true, laidLooks := .later }
def EvalCutUptoCardSaid : Prop := Claim7.holds Tryz.pinned (.plain (OpenSpec.upto evalCutSpec)) evalCutUptoCard

/-- THE SECOND FORM's CARD OF 'morainelaw06.EvalFits'. -/
def evalFitsUptoCard : Claim7 := { stood := { row := evalFitsUptoRow, standIns := [], harness := (true, "1bd778992f293905a21f5d99788e6155a86fac053fcf61f47bb16633f201b667"), looks := true }, kinds := [], alts := [], laidByText := true, laidKinds := [.data, .data, .data, .data, .sentinel, .sentinel, .pinned], laidTests := true, laidLooks := .later }
def EvalFitsUptoCardSaid : Prop := Claim7.holds Tryz.pinned (.plain (OpenSpec.upto evalFitsSpec)) evalFitsUptoCard
end Rows
end Go.Proofs.YtmiokadmddjccaaGreatDoor
