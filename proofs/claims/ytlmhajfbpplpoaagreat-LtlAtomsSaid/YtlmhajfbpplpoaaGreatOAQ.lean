/- What a cursor takes off tokens: sums, comparisons, -/
import Derived.Test.YtlmhajfbpplpoaaGreatOAO
import Derived.Test.YtlmhajfbpplpoaaGreatOAP
set_option linter.all false
namespace Go.Proofs.YtlmhajfbpplpoaaGreat
open Go.RowKit
def eS(s:ByteArray):List AV:=[sv s]
def eTk(t:Tk):List AV:=[iv t.kind,sv (AI t.text),iv t.ln,iv t.co]
structure Mo where
 neg:Bool
 num:ByteArray
 var:ByteArray
def Ix(m:Mo):List AV:=[bv m.neg,sv m.num,sv m.var]
inductive Tr where
 |mk (kind:Int) (l r:List Mo) (op:Int) (proc loc:ByteArray) (kids:List Tr)
mutual
def Ck:Tr->List AV
 |.mk k l r op p q ks=>[iv k,.ls (l.map Ix),.ls (r.map Ix),iv op,sv p,sv q,.ls (XB ks)]
def XB:List Tr->List (List AV)
 |[]=>[]
 |x::r=>Ck x::XB r
end
theorem B3:∀ l,XB l=l.map Ck
 |[]=>rfl
 |x::r=>by simp[XB,B3 r]
def T0:Tr:=.mk 0 [] [] 0 (AI []) (AI []) []
section
variable (ts:List Tk) (vars:List ByteArray) (kn:Bool)
end
end Go.Proofs.YtlmhajfbpplpoaaGreat
