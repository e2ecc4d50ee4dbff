/-
  A closed run: a function run over the empty small heap, on arguments that speak of no block, answers so in every world.
-/
import Derived.Test.YtpncilciembjdaaGreatDoorAAG
set_option linter.unusedSectionVars false
set_option linter.unusedSimpArgs false
set_option linter.unusedVariables false
namespace Go.Proofs.YtpncilciembjdaaGreatDoor
open Go.RowKit
end Go.Proofs.YtpncilciembjdaaGreatDoor
