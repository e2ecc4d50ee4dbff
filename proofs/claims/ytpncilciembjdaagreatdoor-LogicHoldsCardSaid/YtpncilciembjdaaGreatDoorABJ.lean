/-
  Functions of the program as trees: what a call comes to.
-/
import Derived.Test.YtpncilciembjdaaGreatDoorAAX
set_option linter.unusedSectionVars false
set_option linter.unusedSimpArgs false
set_option linter.unusedVariables false
namespace Go.Proofs.YtpncilciembjdaaGreatDoor
open Go.RowKit
end Go.Proofs.YtpncilciembjdaaGreatDoor
