/- A seat of D: tables of f -/
import Derived.Test.YtlmhajfbpplpoaaGreatPBT
import Derived.Test.YtlmhajfbpplpoaaGreatPBE
set_option linter.all false
namespace Go.Proofs.YtlmhajfbpplpoaaGreat
open Go.RowKit

end Go.Proofs.YtlmhajfbpplpoaaGreat
