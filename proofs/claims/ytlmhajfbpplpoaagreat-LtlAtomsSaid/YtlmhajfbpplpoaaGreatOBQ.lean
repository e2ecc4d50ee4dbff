/- A seat of D: tables of functions, and what is told -/
import Derived.Test.YtlmhajfbpplpoaaGreatOAW
import Derived.Test.YtlmhajfbpplpoaaGreatOBP
set_option linter.all false
namespace Go.Proofs.YtlmhajfbpplpoaaGreat
open Go.RowKit
end Go.Proofs.YtlmhajfbpplpoaaGreat
