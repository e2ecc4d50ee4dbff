/-
  The contracts that hand-walked texts tell.
  Closed runs of layer 14, as contracts.
-/
import Derived.Test.YtlmhajfbpplpoaaGreatUAS
import Derived.Test.YtlmhajfbpplpoaaGreatUAX
import Derived.Test.YtlmhajfbpplpoaaGreatUBL
import Derived.Test.YtlmhajfbpplpoaaGreatUBA
import Derived.Test.YtlmhajfbpplpoaaGreatUAZ
set_option linter.unusedSectionVars false
set_option linter.unusedSimpArgs false
set_option linter.unusedVariables false
namespace Go.Proofs.YtlmhajfbpplpoaaGreat
open Go.RowKit

theorem gAll:GoodD (SemFn Tryz.prog 91) (extD resAll):=ext_all 164 fun s w hs=>(all_any s w hs).mono fun e w' h=>by
 unfold AllRet at h
 unfold AllSays
 exact h
theorem gName:GoodD (SemFn Tryz.prog 109) (extD resName):=ext_name fun s w hs=>name_any s w hs
theorem gNumber:GoodD (SemFn Tryz.prog 108) (extD resNumber):=ext_number fun s w hs=>number_any s w hs
theorem gSumText:GoodD (SemFn Tryz.prog 22) (extD resSumText):=ext_sumText gName gNumber
end Go.Proofs.YtlmhajfbpplpoaaGreat
namespace Go.Proofs.YtlmhajfbpplpoaaGreat
open Go.RowKit

theorem gAm(f:Nat):GoodD (SemFn Tryz.prog f) ((Dn realA seatAm 60).ask (.fn f)):=(dn_good (seatAm_ok gName gNumber gSumText clone_nat clone_part grow_part) 60).1 f
end Go.Proofs.YtlmhajfbpplpoaaGreat
