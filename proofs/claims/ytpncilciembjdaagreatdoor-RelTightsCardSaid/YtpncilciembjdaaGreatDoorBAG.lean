/- The same, computed stric -/
import Derived.Test.YtpncilciembjdaaGreatDoorBAF
set_option linter.all false
namespace Go.Proofs.YtpncilciembjdaaGreatDoor
open Go.RowKit
end Go.Proofs.YtpncilciembjdaaGreatDoor
