/- What a cursor takes off -/
import Derived.Test.YtlmhajfbpplpoaaGreatOAO
import Derived.Test.YtlmhajfbpplpoaaGreatOAP
set_option linter.all false
namespace Go.Proofs.YtlmhajfbpplpoaaGreat
open Go.RowKit
def eS(s:ByteArray):List AV:=[sv s]
def eTk(t:Tk):List AV:=[iv t.kind,sv (Ax t.text),iv t.ln,iv t.co]
structure Mo where
 neg:Bool
 num:ByteArray
 var:ByteArray
def IQ(m:Mo):List AV:=[bv m.neg,sv m.num,sv m.var]
inductive Tr where
 |mk (kind:Int) (l r:List Mo) (op:Int) (proc loc:ByteArray) (kids:List Tr)
mutual
def B7:Tr->List AV
 |.mk k l r op p q ks=>[iv k,.ls (l.map IQ),.ls (r.map IQ),iv op,sv p,sv q,.ls (XA ks)]
def XA:List Tr->List (List AV)
 |[]=>[]
 |x::r=>B7 x::XA r
end
theorem BQ:∀ l,XA l=l.map B7
 |[]=>rfl
 |x::r=>by simp[XA,BQ r]
def T0:Tr:=.mk 0 [] [] 0 (Ax []) (Ax []) []
def nx(ts:List Tk)(i:Nat):Tk:=match ts[i]? with
 |some t=>t
 |none=>ts.getLastD ⟨5,[],0,0⟩
section
variable (ts:List Tk) (vars:List ByteArray) (kn:Bool)
def AoZ:List (List UInt8):=[[61],[33,61],[60],[60,61],[62],[62,61]]
end
end Go.Proofs.YtlmhajfbpplpoaaGreat
