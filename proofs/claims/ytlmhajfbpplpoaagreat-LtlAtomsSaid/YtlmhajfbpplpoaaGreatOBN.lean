/- Plain laws of a text's t -/
import Derived.Test.YtlmhajfbpplpoaaGreatOAP
set_option linter.all false
namespace Go.Proofs.YtlmhajfbpplpoaaGreat
end Go.Proofs.YtlmhajfbpplpoaaGreat
