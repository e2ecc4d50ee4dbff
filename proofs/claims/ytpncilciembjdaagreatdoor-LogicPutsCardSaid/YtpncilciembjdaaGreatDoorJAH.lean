/- A closed run: a function -/
import Derived.Test.YtpncilciembjdaaGreatDoorJAG
set_option linter.all false
namespace Go.Proofs.YtpncilciembjdaaGreatDoor
open Go.RowKit
