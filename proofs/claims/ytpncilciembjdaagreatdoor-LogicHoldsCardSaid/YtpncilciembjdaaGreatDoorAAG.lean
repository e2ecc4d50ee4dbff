/-
  The same, computed strictly. No program in sight.
-/
import Derived.Test.YtpncilciembjdaaGreatDoorAAF
set_option linter.unusedSectionVars false
set_option linter.unusedSimpArgs false
set_option linter.unusedVariables false
namespace Go.Proofs.YtpncilciembjdaaGreatDoor
open Go.RowKit



end Go.Proofs.YtpncilciembjdaaGreatDoor
