/- Whole texts as sums and as conditions: the program -/
import Derived.Test.YtlmhajfbpplpoaaGreatOBI
import Derived.Test.YtlmhajfbpplpoaaGreatOBJ
set_option linter.all false
namespace Go.Proofs.YtlmhajfbpplpoaaGreat
open Go.RowKit
section
variable {D:Orc}
structure LexF (D:Orc):Prop where
 ok:∀(s:ByteArray) (ts:List Tk),s.size<=9223372036854775807->GO s.data.toList=.ok ts->AllF D s ts 0 0 0
 err:∀(s:ByteArray) (c ln co:Nat),s.size<=9223372036854775807->GO s.data.toList=.err c ln co->AllF D s [] ln co c
structure LexA (D:Orc):Prop where
 ok:∀(s:ByteArray) (ts:List Tk),s.size<=9223372036854775807->GO s.data.toList=.ok ts->D.ask (.fn 91) [sv s] []=some (.tup [.ls (ts.map eTk),.agg [iv 0,iv 0],iv 0],[])
 err:∀(s:ByteArray) (c ln co:Nat),s.size<=9223372036854775807->GO s.data.toList=.err c ln co->D.ask (.fn 91) [sv s] []=some (.tup [.ls [],.agg [iv (ln:Int),iv (co:Int)],iv (c:Int)],[])
set_option linter.unusedSectionVars false
variable (K:Knows Al Qj D) (Kb:Knows Al WX D) (L:NameF D) (Kw:Knows Al Ait D) (Kx:Knows Al AmI D)
section
variable (A:LexA D)
include K Kb L Kw Kx A
end
variable (Kr:Knows Al WY D) (R:RNameF D) (Ky:Knows Al AmF D) (A:LexF D)
include Kr R Ky A
end
end Go.Proofs.YtlmhajfbpplpoaaGreat
