/-
  What a cursor takes off tokens: sums, comparisons, conditions; and how that lies in cells. No program in sight.
-/
import Derived.Test.YtpncilciembjdaaGreatDoorAAK
import Derived.Test.YtpncilciembjdaaGreatDoorAAL
set_option linter.unusedSectionVars false
set_option linter.unusedSimpArgs false
set_option linter.unusedVariables false
namespace Go.Proofs.YtpncilciembjdaaGreatDoor
open Go.RowKit


end Go.Proofs.YtpncilciembjdaaGreatDoor
