/- A closed run: a function -/
import Derived.Test.YtpncilciembjdaaGreatDoorBAG
set_option linter.all false
namespace Go.Proofs.YtpncilciembjdaaGreatDoor
open Go.RowKit
end Go.Proofs.YtpncilciembjdaaGreatDoor
