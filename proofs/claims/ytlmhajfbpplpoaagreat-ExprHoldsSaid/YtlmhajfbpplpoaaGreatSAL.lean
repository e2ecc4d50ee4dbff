/- A closed run: a function run over the empty small -/
import Derived.Test.YtlmhajfbpplpoaaGreatSAK
set_option linter.unusedSectionVars false
set_option linter.unusedSimpArgs false
set_option linter.unusedVariables false
namespace Go.Proofs.YtlmhajfbpplpoaaGreat
open Go.RowKit
end Go.Proofs.YtlmhajfbpplpoaaGreat
