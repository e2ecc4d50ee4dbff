/- Whole texts as sums and -/
import Derived.Test.YtlmhajfbpplpoaaGreatOBK
import Derived.Test.YtlmhajfbpplpoaaGreatOBL
set_option linter.all false
namespace Go.Proofs.YtlmhajfbpplpoaaGreat
open Go.RowKit
section
variable {D:Orc}
structure LexF (D:Orc):Prop where
 ok:∀(s:ByteArray) (ts:List Tk),s.size<=9223372036854775807->GJ s.data.toList=.ok ts->AllF D s ts 0 0 0
 err:∀(s:ByteArray) (c ln co:Nat),s.size<=9223372036854775807->GJ s.data.toList=.err c ln co->AllF D s [] ln co c
structure LexA (D:Orc):Prop where
 ok:∀(s:ByteArray) (ts:List Tk),s.size<=9223372036854775807->GJ s.data.toList=.ok ts->D.ask (.fn 91) [sv s] []=some (.tup [.ls (ts.map eTk),.agg [iv 0,iv 0],iv 0],[])
 err:∀(s:ByteArray) (c ln co:Nat),s.size<=9223372036854775807->GJ s.data.toList=.err c ln co->D.ask (.fn 91) [sv s] []=some (.tup [.ls [],.agg [iv (ln:Int),iv (co:Int)],iv (c:Int)],[])
set_option linter.unusedSectionVars false
variable   (L:NameF D)
variable  (R:RNameF D)  (A:LexF D)
include R A
end
end Go.Proofs.YtlmhajfbpplpoaaGreat
