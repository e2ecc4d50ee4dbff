/- A closed run: a function -/
import Derived.Test.YtpncilciembjdaaGreatDoorHAG
set_option linter.all false
namespace Go.Proofs.YtpncilciembjdaaGreatDoor
open Go.RowKit
