/- The same, computed stric -/
import Derived.Test.YtpncilciembjdaaGreatDoorJAF
set_option linter.all false
namespace Go.Proofs.YtpncilciembjdaaGreatDoor
open Go.RowKit
