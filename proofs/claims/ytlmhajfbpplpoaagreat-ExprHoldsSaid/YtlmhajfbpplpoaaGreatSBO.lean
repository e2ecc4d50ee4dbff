/- Plain laws of a text's tokens. No program in sight -/
import Derived.Test.YtlmhajfbpplpoaaGreatSAP
set_option linter.unusedSectionVars false
set_option linter.unusedSimpArgs false
set_option linter.unusedVariables false
namespace Go.Proofs.YtlmhajfbpplpoaaGreat
def AkT(n m:Nat):Nat:=if n=45/\m=62 then 2 else if n=58/\m=61 then 2 else if n=33/\m=61 then 2 else if n=60/\m=61 then 2 else if n=62/\m=61 then 2 else if n=46/\m=46 then 2
 else if [40,41,44,59,58,46,43,42,38,124,33,64,61,60,62,47,45].contains n then 1 else 0
def Ahy(c d:UInt8):Bool:=decide (AkT c.toNat d.toNat=2)
end Go.Proofs.YtlmhajfbpplpoaaGreat
