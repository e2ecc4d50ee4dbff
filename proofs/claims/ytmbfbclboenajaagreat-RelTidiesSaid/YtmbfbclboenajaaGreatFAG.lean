/- The same, computed stric -/
import Derived.Test.YtmbfbclboenajaaGreatFAF
set_option linter.all false
namespace Go.Proofs.YtmbfbclboenajaaGreat
open Go.RowKit
