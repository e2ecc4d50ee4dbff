/- Signs ahead and brackets -/
import Derived.Test.YtlmhajfbpplpoaaGreatOBM
import Derived.Test.YtlmhajfbpplpoaaGreatOBN
set_option linter.all false
namespace Go.Proofs.YtlmhajfbpplpoaaGreat
open Go.RowKit
section
open Go.RowKit
variable (A:Ar) (D:Orc)
end

def Akp(l r:List Mo)(op:Int):List UInt8:=LD l++[32]++AoZ.getD op.toNat []++[32]++LD r
def AmO(k:Int)(ts:List (List UInt8)):List UInt8:=if k=3 then [33]++ts.getD 0 [] else if k=4 then ts.getD 0 []++[32,38,32]++ts.getD 1 [] else if k=5 then ts.getD 0 []++[32,124,32]++ts.getD 1 [] else [116,114,117,101]
mutual
def txt:Tr->List UInt8
 |.mk k l r op p q ks=>if k=1 then [102,97,108,115,101] else if k=2 then(if Nm (.mk k l r op p q ks) then Akp l r op else []) else AmO k (AaY k 0 ks)
def AaY(k:Int):Nat->List Tr->List (List UInt8)
 |_,[]=>[]
 |i,x::r=>(if brk k i x.kind then [40]++txt x++[41] else txt x)::AaY k (i+1) r
end
end Go.Proofs.YtlmhajfbpplpoaaGreat
