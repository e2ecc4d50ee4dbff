/- The tokens with fuel: to be computed. -/
import Derived.Test.YtlmhajfbpplpoaaGreatOBJ
set_option linter.all false
namespace Go.Proofs.YtlmhajfbpplpoaaGreat
end Go.Proofs.YtlmhajfbpplpoaaGreat
