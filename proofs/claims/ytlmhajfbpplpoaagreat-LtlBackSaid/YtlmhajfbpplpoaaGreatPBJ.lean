/- Whole texts as sums and -/
import Derived.Test.YtlmhajfbpplpoaaGreatPBH
import Derived.Test.YtlmhajfbpplpoaaGreatPBI
set_option linter.all false
namespace Go.Proofs.YtlmhajfbpplpoaaGreat
open Go.RowKit
theorem Wb{l:List UInt8}{ts:List Tk}(h:Cl l=.ok ts):l.length<=16384:=by
 unfold Cl at h;split at h
 .cases h
 .omega
section
variable {D:Orc}
structure LexF (D:Orc):Prop where
 ok:∀(s:ByteArray) (ts:List Tk),s.size<=9223372036854775807->Cl s.data.toList=.ok ts->AllF D s ts 0 0 0
 err:∀(s:ByteArray) (c ln co:Nat),s.size<=9223372036854775807->Cl s.data.toList=.err c ln co->AllF D s [] ln co c
structure LexA (D:Orc):Prop where
 ok:∀(s:ByteArray) (ts:List Tk),s.size<=9223372036854775807->Cl s.data.toList=.ok ts->D.ask (.fn 91) [sv s] []=some (.tup [.ls (ts.map MF),.agg [iv 0,iv 0],iv 0],[])
 err:∀(s:ByteArray) (c ln co:Nat),s.size<=9223372036854775807->Cl s.data.toList=.err c ln co->D.ask (.fn 91) [sv s] []=some (.tup [.ls [],.agg [iv (ln:Int),iv (co:Int)],iv (c:Int)],[])
set_option linter.unusedSectionVars false
variable (K:Knows Ag CR D) (Kb:Knows Ag Hh D) (L:NameF D) (Kw:Knows Ag Ny D)
variable  (R:RNameF D)  (A:LexF D)
include R A
end
end Go.Proofs.YtlmhajfbpplpoaaGreat
