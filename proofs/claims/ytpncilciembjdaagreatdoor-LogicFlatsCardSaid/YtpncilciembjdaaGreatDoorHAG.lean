/- The same, computed stric -/
import Derived.Test.YtpncilciembjdaaGreatDoorHAF
set_option linter.all false
namespace Go.Proofs.YtpncilciembjdaaGreatDoor
open Go.RowKit
