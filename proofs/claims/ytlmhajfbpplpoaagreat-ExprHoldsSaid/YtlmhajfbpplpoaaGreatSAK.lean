/- The same, computed strictly. No program in sight. -/
import Derived.Test.YtlmhajfbpplpoaaGreatSAJ
set_option linter.unusedSectionVars false
set_option linter.unusedSimpArgs false
set_option linter.unusedVariables false
namespace Go.Proofs.YtlmhajfbpplpoaaGreat
open Go.RowKit
section
variable {α:Type}
end
section
variable (P:Program) (Γ:FuncId->List AV->AM AV)
end
end Go.Proofs.YtlmhajfbpplpoaaGreat
