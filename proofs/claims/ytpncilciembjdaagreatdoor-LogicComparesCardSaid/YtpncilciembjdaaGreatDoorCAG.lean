/- The same, computed stric -/
import Derived.Test.YtpncilciembjdaaGreatDoorCAF
set_option linter.all false
namespace Go.Proofs.YtpncilciembjdaaGreatDoor
open Go.RowKit
