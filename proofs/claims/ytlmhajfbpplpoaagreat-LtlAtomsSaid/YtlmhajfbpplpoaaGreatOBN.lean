/- Tokens laid out again, with whatever may stand bet -/
import Derived.Test.YtlmhajfbpplpoaaGreatOBL
import Derived.Lib.Join
set_option linter.all false
namespace Go.Proofs.YtlmhajfbpplpoaaGreat
end Go.Proofs.YtlmhajfbpplpoaaGreat
