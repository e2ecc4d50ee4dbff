/- A closed run: a function -/
import Derived.Test.YtpncilciembjdaaGreatDoorGAG
set_option linter.all false
namespace Go.Proofs.YtpncilciembjdaaGreatDoor
open Go.RowKit
