/- Merged texts: Sn1. No statement of the program is proved here. -/
import Derived.Test.YthinnldeogflgaaGreatDoorQ17
set_option linter.unusedSimpArgs false
set_option linter.unusedVariables false
set_option maxRecDepth 100000
set_option maxHeartbeats 8000000
section
namespace Go.Proofs.YthinnldeogflgaaGreatDoor
open Go Go.RowKit Go.Mor Go.Sh Go.Sh.Cd1
theorem at_{l:zB}{i:Nat}(h:i<l.length):∃b,l[i]?=some b:=⟨_,gE h⟩
theorem sg{a b:Int}(h:a=b):some (TV.pv (PV.v (Value.int IntKind.i64 a)))=some (TV.pv (PV.v (Value.int IntKind.i64 b))):=by rw[h]
end Go.Proofs.YthinnldeogflgaaGreatDoor
end
