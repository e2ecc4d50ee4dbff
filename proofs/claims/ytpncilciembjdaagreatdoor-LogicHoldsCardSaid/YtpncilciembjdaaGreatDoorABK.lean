/-
  A seat of D: tables of functions, and what is told from elsewhere.
-/
import Derived.Test.YtpncilciembjdaaGreatDoorAAO
import Derived.Test.YtpncilciembjdaaGreatDoorABH
import Derived.Test.YtpncilciembjdaaGreatDoorABC
import Derived.Test.YtpncilciembjdaaGreatDoorABJ
set_option linter.unusedSectionVars false
set_option linter.unusedSimpArgs false
set_option linter.unusedVariables false
namespace Go.Proofs.YtpncilciembjdaaGreatDoor
open Go.RowKit
end Go.Proofs.YtpncilciembjdaaGreatDoor
