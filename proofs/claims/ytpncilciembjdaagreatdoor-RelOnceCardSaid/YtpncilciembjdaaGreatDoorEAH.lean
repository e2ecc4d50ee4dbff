/- A closed run: a function -/
import Derived.Test.YtpncilciembjdaaGreatDoorEAG
set_option linter.all false
namespace Go.Proofs.YtpncilciembjdaaGreatDoor
open Go.RowKit
