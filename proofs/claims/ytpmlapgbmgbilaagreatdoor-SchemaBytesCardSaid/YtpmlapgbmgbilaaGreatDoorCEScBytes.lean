/- SchemaBytes: for all arguments, the law returns true and leaves its arguments as they read. The listed package variables start as the program's text lays them (the tie is given). -/
import Derived.Test.YtpmlapgbmgbilaaGreatDoorR42
set_option linter.unusedSimpArgs false
set_option linter.unusedVariables false
set_option maxRecDepth 100000
set_option maxHeartbeats 8000000
namespace Go.Proofs.YtpmlapgbmgbilaaGreatDoor.SchemaBytes
open Go.ChangeShapes Go.WideShapes Go.ChangeAt Go.RowKit Go.Lib Go.Mor Go.Deep Go.Joins
open Go.ChangeMaps (open_string shut_string)
theorem card : Rows.SchemaBytesCardSaid :=
  Claim7.holds_tied_plain_at .later [] _ _ _ _ ztu (fun _ h => by cases h) (by kernel_rfl) (fun _ h => by cases h) schemaBytes_row_tie rfl ⟨rfl, rfl⟩ (by kernel_rfl) rfl plain (zpZ _ rfl)
end Go.Proofs.YtpmlapgbmgbilaaGreatDoor.SchemaBytes
