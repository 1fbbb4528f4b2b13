/-
  DERIVED. GIVEN WITH THE SEED: THE CARDS: each row of YtmiokadmddjccaaDoorRows.lean that lists a variable, with what it lists TIED to the program's text (the seventh form; the later family's looks); each row that meets fmt, with fmt's text TOLD by the authors' own Lean function (tested against real Go, not proved from fmt's source: count such statements apart). THE CARD IS WHAT COUNTS. Prove the row's statement (the work); the ties are given (YtmiokadmddjccaaDoorTie.lean); close each card by the builder's one call (the guide's Derived/Test/ToyasCard.lean, 'card_holds'). Laid BY PROGRAM, IN A SANDBOX (cutbox-door.mjs). By AI agents, Wed Nov 11 2026. No macro, syntax, notation, axiom, sorry.
-/
import Derived.Test.YtmiokadmddjccaaDoorRows
import GoSem.ClaimSeven
namespace Go.Proofs.YtmiokadmddjccaaDoor
namespace Rows

/-- THE TIED CARD OF 'morainelaw04.ClassChecks'. -/
def classChecksCard : Claim7 := { stood := { row := classChecksRow, standIns := [], harness := (true, "354ca6da9939a4c34a4309fdf5978da0f6e4fdb41a410e20eb30cc4d43bdcf4f"), looks := true }, kinds := [], alts := [], laidByText := true, laidKinds := [.data, .sentinel, .sentinel, .pinned], laidTests := true, laidLooks := .later }
def ClassChecksCardSaid : Prop := Claim7.holds Tryd.pinned (.plain (OpenSpec.ofChange classChecksSpec)) classChecksCard

/-- THE TIED CARD OF 'morainelaw05.ExprOrder'. -/
def exprOrderCard : Claim7 := { stood := { row := exprOrderRow, standIns := [], harness := (true, "354ca6da9939a4c34a4309fdf5978da0f6e4fdb41a410e20eb30cc4d43bdcf4f"), looks := true }, kinds := [], alts := [], laidByText := true, laidKinds := [.data, .data, .data, .data, .pinned], laidTests := true, laidLooks := .later }
def ExprOrderCardSaid : Prop := Claim7.holds Tryd.pinned (.plain (OpenSpec.ofChange exprOrderSpec)) exprOrderCard

/-- THE TIED CARD OF 'morainelaw05.ExprCalls'. -/
def exprCallsCard : Claim7 := { stood := { row := exprCallsRow, standIns := [], harness := (true, "354ca6da9939a4c34a4309fdf5978da0f6e4fdb41a410e20eb30cc4d43bdcf4f"), looks := true }, kinds := [], alts := [], laidByText := true, laidKinds := [.data, .data, .data, .data, .pinned], laidTests := true, laidLooks := .later }
def ExprCallsCardSaid : Prop := Claim7.holds Tryd.pinned (.plain (OpenSpec.ofChange exprCallsSpec)) exprCallsCard

/-- THE SECOND FORM's CARD OF 'morainelaw04.ClassChecks'. -/
def classChecksUptoCard : Claim7 := { stood := { row := classChecksUptoRow, standIns := [], harness := (true, "354ca6da9939a4c34a4309fdf5978da0f6e4fdb41a410e20eb30cc4d43bdcf4f"), looks := true }, kinds := [], alts := [], laidByText := true, laidKinds := [.data, .sentinel, .sentinel, .pinned], laidTests := true, laidLooks := .later }
def ClassChecksUptoCardSaid : Prop := Claim7.holds Tryd.pinned (.plain (OpenSpec.upto classChecksSpec)) classChecksUptoCard

/-- THE SECOND FORM's CARD OF 'morainelaw05.ExprOrder'. -/
def exprOrderUptoCard : Claim7 := { stood := { row := exprOrderUptoRow, standIns := [], harness := (true, "354ca6da9939a4c34a4309fdf5978da0f6e4fdb41a410e20eb30cc4d43bdcf4f"), looks := true }, kinds := [], alts := [], laidByText := true, laidKinds := [.data, .data, .data, .data, .pinned], laidTests := true, laidLooks := .later }
def ExprOrderUptoCardSaid : Prop := Claim7.holds Tryd.pinned (.plain (OpenSpec.upto exprOrderSpec)) exprOrderUptoCard

/-- THE SECOND FORM's CARD OF 'morainelaw05.ExprCalls'. -/
def exprCallsUptoCard : Claim7 := { stood := { row := exprCallsUptoRow, standIns := [], harness := (true, "354ca6da9939a4c34a4309fdf5978da0f6e4fdb41a410e20eb30cc4d43bdcf4f"), looks := true }, kinds := [], alts := [], laidByText := true, laidKinds := [.data, .data, .data, .data, .pinned], laidTests := true, laidLooks := .later }
def ExprCallsUptoCardSaid : Prop := Claim7.holds Tryd.pinned (.plain (OpenSpec.upto exprCallsSpec)) exprCallsUptoCard
end Rows
end Go.Proofs.YtmiokadmddjccaaDoor
