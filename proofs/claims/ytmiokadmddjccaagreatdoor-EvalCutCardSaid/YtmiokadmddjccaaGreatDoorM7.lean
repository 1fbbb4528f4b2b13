/- Merged texts: Cd2. No statement of the program is proved here. -/
import Derived.Test.YtmiokadmddjccaaGreatDoorM1
import Derived.Test.YtmiokadmddjccaaGreatDoorM2
set_option linter.unusedSimpArgs false
set_option linter.unusedVariables false
section
namespace Go.Sh.Cd2
open Go Go.Sh
set_option maxRecDepth 100000
def funcs : Nat → Option SFunc
 | _ => none
end Go.Sh.Cd2
end
