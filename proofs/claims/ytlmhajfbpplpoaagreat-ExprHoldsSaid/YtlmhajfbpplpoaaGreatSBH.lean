/- Layer 11's alive: its parts, computed. -/
import Derived.Test.YtlmhajfbpplpoaaGreatSBE
import Derived.Test.YtlmhajfbpplpoaaGreatSBF
import Derived.Test.YtlmhajfbpplpoaaGreatSBG
set_option linter.unusedSectionVars false
set_option linter.unusedSimpArgs false
set_option linter.unusedVariables false
namespace Go.Proofs.YtlmhajfbpplpoaaGreat
open Go.RowKit
def m2(neg:Bool)(num var:List UInt8):Mo:=⟨neg,AE num,AE var⟩
def OY(k:Int)(ks:List Tr):Tr:=.mk k [] [] 0 (AE []) (AE []) ks
def To:Tr:=.mk 2 [m2 false [] [120],m2 false [50] []] [m2 false [51] [121]] 3 (AE []) (AE []) []
def AhU:Tr:=.mk 2 [m2 false [] [97]] [m2 false [49] []] 0 (AE []) (AE []) []
def t1:Tr:=OY 4 [To,OY 3 [OY 5 [AhU,OY 0 []]]]
def Vo:List Mo:=[m2 true [50] [120],m2 false [49] []]
def s1:List UInt8:=[120,32,43,32,50,32,60,61,32,51,42,121,32,38,32,33,40,97,32,61,32,49,32,124,32,116,114,117,101,41]
def s2:List UInt8:=[120,32,60]
def s3:List UInt8:=[45,50,42,120,32,43,32,49]
def s4:List UInt8:=[120,32,43,32,50,32,60,61,32,51,42,121]
set_option maxRecDepth 1000000
end Go.Proofs.YtlmhajfbpplpoaaGreat
