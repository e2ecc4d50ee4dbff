/- A closed run: a function -/
import Derived.Test.YtmbfbclboenajaaGreatFAG
set_option linter.all false
namespace Go.Proofs.YtmbfbclboenajaaGreat
open Go.RowKit
