/- A seat of D: tables of f -/
import Derived.Test.YtlmhajfbpplpoaaGreatPAY
import Derived.Test.YtlmhajfbpplpoaaGreatPBQ
set_option linter.all false
namespace Go.Proofs.YtlmhajfbpplpoaaGreat
open Go.RowKit
end Go.Proofs.YtlmhajfbpplpoaaGreat
