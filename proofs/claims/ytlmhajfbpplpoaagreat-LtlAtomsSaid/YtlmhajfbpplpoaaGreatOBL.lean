/- Facts of the tokens of a -/
import Derived.Test.YtlmhajfbpplpoaaGreatOAU
set_option linter.all false
namespace Go.Proofs.YtlmhajfbpplpoaaGreat
open Go.RowKit
end Go.Proofs.YtlmhajfbpplpoaaGreat
