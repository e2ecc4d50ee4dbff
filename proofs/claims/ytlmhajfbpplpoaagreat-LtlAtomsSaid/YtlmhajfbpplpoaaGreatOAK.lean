/- The same, computed strictly. No program in sight. -/
import Derived.Test.YtlmhajfbpplpoaaGreatOAJ
set_option linter.all false
namespace Go.Proofs.YtlmhajfbpplpoaaGreat
open Go.RowKit
section
variable {α:Type}
end
section
variable (P:Program) (Γ:FuncId->List AV->AM AV)
end
end Go.Proofs.YtlmhajfbpplpoaaGreat
