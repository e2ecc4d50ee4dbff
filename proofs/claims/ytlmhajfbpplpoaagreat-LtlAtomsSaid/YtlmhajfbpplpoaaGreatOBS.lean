/- A seat of D: tables of f -/
import Derived.Test.YtlmhajfbpplpoaaGreatOAY
import Derived.Test.YtlmhajfbpplpoaaGreatOBR
set_option linter.all false
namespace Go.Proofs.YtlmhajfbpplpoaaGreat
open Go.RowKit
end Go.Proofs.YtlmhajfbpplpoaaGreat
