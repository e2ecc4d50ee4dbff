/- The same, computed stric -/
import Derived.Test.YtlmhajfbpplpoaaGreatOAJ
set_option linter.all false
namespace Go.Proofs.YtlmhajfbpplpoaaGreat
open Go.RowKit
end Go.Proofs.YtlmhajfbpplpoaaGreat
