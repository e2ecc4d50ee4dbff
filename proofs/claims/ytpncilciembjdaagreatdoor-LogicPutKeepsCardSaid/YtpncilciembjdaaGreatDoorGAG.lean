/- The same, computed stric -/
import Derived.Test.YtpncilciembjdaaGreatDoorGAF
set_option linter.all false
namespace Go.Proofs.YtpncilciembjdaaGreatDoor
open Go.RowKit
