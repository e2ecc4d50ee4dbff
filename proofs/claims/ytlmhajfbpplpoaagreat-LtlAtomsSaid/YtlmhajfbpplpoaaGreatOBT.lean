/- The tokens with fuel: to -/
import Derived.Test.YtlmhajfbpplpoaaGreatOBL
set_option linter.all false
namespace Go.Proofs.YtlmhajfbpplpoaaGreat
end Go.Proofs.YtlmhajfbpplpoaaGreat
