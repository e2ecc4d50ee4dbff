/- What a cursor takes off -/
import Derived.Test.YtpncilciembjdaaGreatDoorBAK
import Derived.Test.YtpncilciembjdaaGreatDoorBAL
set_option linter.all false
namespace Go.Proofs.YtpncilciembjdaaGreatDoor
open Go.RowKit
end Go.Proofs.YtpncilciembjdaaGreatDoor
