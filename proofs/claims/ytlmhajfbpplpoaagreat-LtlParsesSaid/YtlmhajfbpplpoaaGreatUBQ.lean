/-
  The contracts that hand-walked texts tell: the reference.
-/
import Derived.Test.YtlmhajfbpplpoaaGreatUBM
import Derived.Test.YtlmhajfbpplpoaaGreatUBO
import Derived.Test.YtlmhajfbpplpoaaGreatUBP
set_option linter.unusedSectionVars false
set_option linter.unusedSimpArgs false
set_option linter.unusedVariables false
namespace Go.Proofs.YtlmhajfbpplpoaaGreat
open Go.RowKit

theorem gRAll:GoodD (SemFn Tryz.prog 50) (extD resAll):=ext_all 169 fun s w hs=>(rall_any s w hs).mono fun e w' h=>by
 unfold RAllRet at h
 unfold AllSays
 exact h
theorem gRName:GoodD (SemFn Tryz.prog 77) (extD resName):=ext_name fun s w hs=>(rname_any s w hs).mono fun e w' h=>⟨h.1,h.2▸Below.refl _ _⟩
end Go.Proofs.YtlmhajfbpplpoaaGreat
