/- Tokens laid out again, w -/
import Derived.Test.YtlmhajfbpplpoaaGreatOBN
import Derived.Lib.Join
set_option linter.all false
namespace Go.Proofs.YtlmhajfbpplpoaaGreat
end Go.Proofs.YtlmhajfbpplpoaaGreat
