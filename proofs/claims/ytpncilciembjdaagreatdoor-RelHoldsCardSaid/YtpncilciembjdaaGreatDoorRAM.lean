/-
  What a cursor takes off tokens: sums, comparisons, conditions; and how that lies in cells. No program in sight.
-/
import Derived.Test.YtpncilciembjdaaGreatDoorRAK
import Derived.Test.YtpncilciembjdaaGreatDoorRAL
set_option linter.unusedSectionVars false
set_option linter.unusedSimpArgs false
set_option linter.unusedVariables false
namespace Go.Proofs.YtpncilciembjdaaGreatDoor
open Go.RowKit


end Go.Proofs.YtpncilciembjdaaGreatDoor
