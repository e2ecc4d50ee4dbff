/- A closed run: a function -/
import Derived.Test.YtlmhajfbpplpoaaGreatOAK
set_option linter.all false
namespace Go.Proofs.YtlmhajfbpplpoaaGreat
open Go.RowKit
end Go.Proofs.YtlmhajfbpplpoaaGreat
