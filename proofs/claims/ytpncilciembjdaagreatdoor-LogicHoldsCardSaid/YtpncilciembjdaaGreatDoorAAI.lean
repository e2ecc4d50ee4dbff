/-
  Code with all types' sizes resolved, run over a small heap of its own. No program in sight.
  A call over a small heap of its own: what the arguments reach is renamed to 0, 1, .., handed over, and written back. No program in sight.
  Code with its types' sizes resolved, out of a program's code. No program in sight.
  An operation with its types' sizes resolved does what the operation does. No program in sight.
  The operations one by one: what the resolved operation computes, the operation computes. No program in sight.
  A region with its types' sizes resolved does what the region does. No program in sight.
  Resolved code touches no more than it tells; freezing and adopting change nothing in the world. No program in sight.
  Freezing a row and adopting an empty one are steps that the world does not see. No program in sight.
-/
import Derived.Test.YtpncilciembjdaaGreatDoorAAH
set_option linter.unusedSectionVars false
set_option linter.unusedSimpArgs false
set_option linter.unusedVariables false
namespace Go.Proofs.YtpncilciembjdaaGreatDoor
open Go.RowKit

structure Ar0 where
 add:IntKind->Int->Int->Int
 sub:IntKind->Int->Int->Int
 mul:IntKind->Int->Int->Int
 quo:IntKind->Int->Int->Int
 rem:IntKind->Int->Int->Int
 bits:BinOp->IntKind->Int->Int->Int
 shl:IntKind->Int->Int->Int
 shr:IntKind->Int->Int->Int
 conv:IntKind->Int->Int
 lt:Int->Int->Bool
 le:Int->Int->Bool
 eq:Int->Int->Bool
 max:Int->Int->Int
 min:Int->Int->Int
 beq:Bool->Bool->Bool
 band:Bool->Bool->Bool
 seq:ByteArray->ByteArray->Bool
 slt:ByteArray->ByteArray->Bool
 slen:ByteArray->Nat
 cat:ByteArray->ByteArray->ByteArray
 sat:ByteArray->Nat->Int
 ssub:ByteArray->Nat->Nat->ByteArray
inductive Ar where
 |mk (r:Ar0)
 |no
def Ar.add(A:Ar)(x0:IntKind)(x1:Int)(x2:Int):Int:=match A with
 |.mk r=>r.add x0 x1 x2
 |.no=>0
def Ar.sub(A:Ar)(x0:IntKind)(x1:Int)(x2:Int):Int:=match A with
 |.mk r=>r.sub x0 x1 x2
 |.no=>0
def Ar.mul(A:Ar)(x0:IntKind)(x1:Int)(x2:Int):Int:=match A with
 |.mk r=>r.mul x0 x1 x2
 |.no=>0
def Ar.quo(A:Ar)(x0:IntKind)(x1:Int)(x2:Int):Int:=match A with
 |.mk r=>r.quo x0 x1 x2
 |.no=>0
def Ar.rem(A:Ar)(x0:IntKind)(x1:Int)(x2:Int):Int:=match A with
 |.mk r=>r.rem x0 x1 x2
 |.no=>0
def Ar.bits(A:Ar)(x0:BinOp)(x1:IntKind)(x2:Int)(x3:Int):Int:=match A with
 |.mk r=>r.bits x0 x1 x2 x3
 |.no=>0
def Ar.shl(A:Ar)(x0:IntKind)(x1:Int)(x2:Int):Int:=match A with
 |.mk r=>r.shl x0 x1 x2
 |.no=>0
def Ar.shr(A:Ar)(x0:IntKind)(x1:Int)(x2:Int):Int:=match A with
 |.mk r=>r.shr x0 x1 x2
 |.no=>0
def Ar.conv(A:Ar)(x0:IntKind)(x1:Int):Int:=match A with
 |.mk r=>r.conv x0 x1
 |.no=>0
def Ar.lt(A:Ar)(x0:Int)(x1:Int):Bool:=match A with
 |.mk r=>r.lt x0 x1
 |.no=>false
def Ar.le(A:Ar)(x0:Int)(x1:Int):Bool:=match A with
 |.mk r=>r.le x0 x1
 |.no=>false
def Ar.eq(A:Ar)(x0:Int)(x1:Int):Bool:=match A with
 |.mk r=>r.eq x0 x1
 |.no=>false
def Ar.max(A:Ar)(x0:Int)(x1:Int):Int:=match A with
 |.mk r=>r.max x0 x1
 |.no=>0
def Ar.min(A:Ar)(x0:Int)(x1:Int):Int:=match A with
 |.mk r=>r.min x0 x1
 |.no=>0
def Ar.not(_:Ar)(b:Bool):Bool:=!b
def Ar.beq(A:Ar)(x0:Bool)(x1:Bool):Bool:=match A with
 |.mk r=>r.beq x0 x1
 |.no=>false
def Ar.band(A:Ar)(x0:Bool)(x1:Bool):Bool:=match A with
 |.mk r=>r.band x0 x1
 |.no=>false
def Ar.seq(A:Ar)(x0:ByteArray)(x1:ByteArray):Bool:=match A with
 |.mk r=>r.seq x0 x1
 |.no=>false
def Ar.slt(A:Ar)(x0:ByteArray)(x1:ByteArray):Bool:=match A with
 |.mk r=>r.slt x0 x1
 |.no=>false
def Ar.slen(A:Ar)(x0:ByteArray):Nat:=match A with
 |.mk r=>r.slen x0
 |.no=>0
def Ar.cat(A:Ar)(x0:ByteArray)(x1:ByteArray):ByteArray:=match A with
 |.mk r=>r.cat x0 x1
 |.no=>ByteArray.empty
def Ar.sat(A:Ar)(x0:ByteArray)(x1:Nat):Int:=match A with
 |.mk r=>r.sat x0 x1
 |.no=>0
def Ar.ssub(A:Ar)(x0:ByteArray)(x1:Nat)(x2:Nat):ByteArray:=match A with
 |.mk r=>r.ssub x0 x1 x2
 |.no=>ByteArray.empty
def bitsV(b:BinOp)(k:IntKind)(x y:Int):Int:=match b with
 |.and=>k.wrap (BitVec.ofInt k.bits x &&& BitVec.ofInt k.bits y).toNat
 |.or=>k.wrap (BitVec.ofInt k.bits x ||| BitVec.ofInt k.bits y).toNat
 |.xor=>k.wrap (BitVec.ofInt k.bits x ^^^ BitVec.ofInt k.bits y).toNat
 |_=>k.wrap (BitVec.ofInt k.bits x &&& ~~~BitVec.ofInt k.bits y).toNat
def realA0:Ar0 where
 add k x y:=k.wrap (x+y)
 sub k x y:=k.wrap (x-y)
 mul k x y:=k.wrap (x*y)
 quo k x y:=k.wrap (x.tdiv y)
 rem _ x y:=x.tmod y
 bits b k x y:=bitsV b k x y
 shl k x y:=k.wrap (x*2 ^ (Nat.min y.toNat k.bits))
 shr k x y:=x.fdiv (2 ^ (Nat.min y.toNat k.bits))
 conv k x:=k.wrap x
 lt x y:=decide (x<y)
 le x y:=decide (x<=y)
 eq x y:=x == y
 max x y:=if x<y then y else x
 min x y:=if y<x then y else x
 beq a b:=a == b
 band a b:=a&&b
 seq a b:=a.toList == b.toList
 slt a b:=Op.bytesLess a.toList b.toList
 slen a:=a.size
 cat a b:=a++b
 sat a i:=match a[i]? with
  |some c=>Int.ofNat c.toNat
  |none=>0
 ssub a l h:=a.extract l h
def realA:Ar:=.mk realA0
inductive MO where
 |mv (x:Operand)
 |pick (c a b:Operand)
 |alloc (z:List Value)
 |box (x:Operand)
 |buildS (z:List Value) (pl:List (Nat × Nat)) (ps:List (Nat × Operand))
 |buildR (z:List Value) (e:Nat) (ps:List (Nat × Operand))
 |buildSl (z:List Value) (e n:Nat) (ps:List (Nat × Operand))
 |ld (row:Bool) (n:Nat) (a:Operand)
 |st (n:Nat) (a x:Operand)
 |nilck (x:Operand)
 |bin (ek:Nat) (b:BinOp) (x y:Operand)
 |eqs (neg:Bool) (ks:List Nat) (x y:Operand)
 |not (x:Operand)
 |neg (x:Operand)
 |mkfn (f:Fn) (a c:List Operand)
 |slice (e:Nat) (x:Operand) (lo hi:Option Operand)
 |faddr (off:Nat) (a:Operand)
 |field (row:Bool) (off n:Nat) (x:Operand)
 |iaddr (e:Nat) (x i:Operand)
 |aaddr (n e:Nat) (x i:Operand)
 |index (n e:Nat) (row:Bool) (sz:Nat) (x i:Operand)
 |ext (x:Operand) (i:Nat)
 |mksl (z:List Value) (e bytes:Nat) (l c:Operand)
 |app (e bytes:Nat) (s x:Operand)
 |cpy (e:Nat) (d x:Operand)
 |clr (z:List Value) (e:Nat) (x:Operand)
 |len (sl:Bool) (x:Operand)
 |sidx (x i:Operand)
 |sslice (x:Operand) (lo hi:Option Operand)
 |iconv (k:IntKind) (x:Operand)
 |str (x:Operand)
 |mx (x y:Operand)
 |mn (x y:Operand)
 |callF (f:FuncId) (args:List Operand)
 |callV (ents:Nat) (x:Operand) (args:List Operand)
 |bad

structure MOp where
 dst:Option Nat
 op:MO
 g:Option (Nat × Bool)
structure LpH where
 n:Nat
 live:List Bool
 ad:List (Nat × Nat)
 fz:List Nat
 outs:List (Nat × (List Bool × (List Nat × List Nat)))
inductive MC where
 |skip
 |reg (ops:List MOp) (bf:Option (List Nat))
 |seq (a b:MC)
 |cond (c:Operand) (a b:MC)
 |block (id:Nat) (c:MC)
 |loop (i:Nat) (h:LpH)
 |exit (id:Nat)
 |ret
 |bad

section
variable (A:Ar)
def loadM(row:Bool)(n:Nat)(a:AV):AM AV:=match row with
 |true=>(rdAt a n).bind fun cs=>AM.ret (.agg cs)
 |false=>(rdAt a 1).bind fun cs=>AM.opt (one? cs)
def storeM(n:Nat)(a x:AV):AM AV:=match a with
 |.ptr b o=>
  if x.cells.length=n/\x.cells.all AV.one=true then
   (AM.getB b).bind fun k=>if k.st=true/\o+n<=k.cells.length/\(!k.ex||noidL x.cells)=true then(AM.setB b { k with cells:=splice k.cells o x.cells }).bind fun _=>AM.ret AV.undef else AM.fail
  else AM.fail
 |_=>AM.fail
def partM(row:Bool)(off n:Nat)(cs:List AV):Option AV:=match row with
 |true=>some (.agg ((cs.drop off).take n))
 |false=>cs[off]?
def fieldM(row:Bool)(off n:Nat)(x:AV):Option AV:=match x with
 |.agg cs=>partM row off n cs
 |_=>none
def buildM(place:Nat->Option (Nat × Nat))(z:List Value)(ps:List (Nat × AV)):Option AV:=
 if ps.any (fun p=>isTup p.2) then none else(fillA place (z.map .v) ps).map .agg
def buildSlM(z:List Value)(e n:Nat)(ps:List (Nat × AV)):AM AV:=
 if n*e<=16777216/\n<=maxLen/\ps.any (fun p=>isTup p.2)=false then
  match fillA (fun i=>some (i*e,e)) (zeros (z.map .v) (n*e)) ps with
  |some cs=>if noidL cs=true then(AM.newB ⟨cs,true,true⟩).bind fun b=>AM.ret (.sl b 0 n e) else(AM.newB ⟨cs,true,false⟩).bind fun b=>AM.ret (.sl b 0 n e)
  |none=>AM.fail
 else AM.fail
def nthR:List (List AV)->Nat->Option (List AV)
 |[],_=>none
 |x::_,0=>some x
 |_::r,n+1=>nthR r n
theorem nthR_eq:∀(xs:List (List AV)) (n:Nat),nthR xs n=xs[n]?
 |[],_=>by simp[nthR]
 |x::r,0=>by simp[nthR]
 |x::r,n+1=>by simp[nthR,nthR_eq r n]
def iaddrM(e:Nat)(x ix:AV):Option AV:=match ix.idx with
 |some i=>(match x with
  |.sl b o n e'=>(match Nat.blt i n with
   |true=>if e'=e then some (.ptr b (o+i*e)) else none
   |false=>none)
  |.ls xs=>(match nthR xs i with
   |some cs=>(match Nat.beq cs.length e with
    |true=>some (.lp cs)
    |false=>none)
   |none=>none)
  |_=>none)
 |none=>none
def aaddrM(n e:Nat)(x ix:AV):Option AV:=match ix.idx with
 |some i=>(match Nat.blt i n with
  |true=>moved x (i*e)
  |false=>none)
 |none=>none
def indexM(n e:Nat)(row:Bool)(sz:Nat)(x ix:AV):Option AV:=match x,ix.idx with
 |.agg cs,some i=>(match Nat.blt i n with
  |true=>partM row (i*e) sz cs
  |false=>none)
 |_,_=>none
def takeR:List (List AV)->Nat->List (List AV)
 |[],_=>[]
 |_::_,0=>[]
 |x::r,n+1=>x::takeR r n
def dropR:List (List AV)->Nat->List (List AV)
 |[],_=>[]
 |x::r,0=>x::r
 |_::r,n+1=>dropR r n
def lenR:List (List AV)->Nat
 |[]=>0
 |_::r=>lenR r+1
def wideR(e:Nat):List (List AV)->Bool
 |[]=>true
 |x::r=>Nat.beq x.length e&&wideR e r
def optM(n:Nat):Option AV->Option Nat
 |some x=>x.idx
 |none=>some n
def sliceM(e:Nat)(x:AV)(lo hi:Option AV):Option AV:=match x with
 |.sl b o n e'=>(match optM 0 lo,optM n hi with
  |some l,some h=>(match Nat.ble l h,Nat.ble h n,Nat.beq e' e with
   |true,true,true=>some (.sl b (o+l*e) (h-l) e)
   |_,_,_=>none)
  |_,_=>none)
 |.ls xs=>(match optM 0 lo,optM (lenR xs) hi with
  |some l,some h=>(match Nat.ble l h,Nat.ble h (lenR xs),wideR e xs with
   |true,true,true=>some (.ls (dropR (takeR xs h) l))
   |_,_,_=>none)
  |_,_=>none)
 |_=>none
def lenM(sl:Bool)(x:AV):Option AV:=match sl with
 |true=>(match x with
  |.sl _ _ n _=>some (.v (.int .i64 (Int.ofNat n)))
  |.ls xs=>some (.v (.int .i64 (Int.ofNat (lenR xs))))
  |.v (.slice none 0 0)=>some (.v (.int .i64 (Int.ofNat 0)))
  |_=>none)
 |false=>(match x with
  |.v (.string s)=>some (.v (.int .i64 (Int.ofNat (A.slen s))))
  |_=>none)
def eqL:List Nat->List AV->List AV->Option Bool
 |[],[],[]=>some true
 |1::ks,.v (.bool a)::r,.v (.bool b)::q=>(match eqL ks r q with
  |some t=>some (A.band (A.beq a b) t)
  |none=>none)
 |0::ks,.v (.int k a)::r,.v (.int k' b)::q=>if k=k' then(match eqL ks r q with
  |some t=>some (A.band (A.eq a b) t)
  |none=>none) else none
 |2::ks,.v (.string a)::r,.v (.string b)::q=>(match eqL ks r q with
  |some t=>some (A.band (A.seq a b) t)
  |none=>none)
 |_,_,_=>none
def eqsM(neg:Bool)(ks:List Nat)(x y:AV):Option AV:=match x,y with
 |.agg xs,.agg ys=>(match eqL A ks xs ys with
  |some t=>(match neg with
   |true=>some (.v (.bool (A.not t)))
   |false=>some (.v (.bool t)))
  |none=>none)
 |_,_=>none
def eqM(ek:Nat)(x y:AV):Option Bool:=match ek,x,y with
 |4,.v (.bool a),.v (.bool b)=>some (A.beq a b)
 |1,.ptr ..,.v (.pointer none)=>some false
 |1,.lp ..,.v (.pointer none)=>some false
 |1,.v (.pointer none),.v (.pointer none)=>some true
 |2,.sl _ _ (_+1) _,.v (.slice none 0 0)=>some false
 |2,.v (.slice none 0 0),.v (.slice none 0 0)=>some true
 |3,.fn ..,.v .nilFunc=>some false
 |3,.v .nilFunc,.v .nilFunc=>some true
 |_,_,_=>none
def binM(b:BinOp)(x y:AV):Option AV:=match x,y with
 |.v (.int k a),.v (.int k' c)=>(match b with
  |.shl=>(match A.lt c 0 with
   |true=>none
   |false=>some (.v (.int k (A.shl k a c))))
  |.shr=>(match A.lt c 0 with
   |true=>none
   |false=>some (.v (.int k (A.shr k a c))))
  |b=>if k=k' then(match b with
   |.and=>some (.v (.int k (A.bits .and k a c)))
   |.or=>some (.v (.int k (A.bits .or k a c)))
   |.xor=>some (.v (.int k (A.bits .xor k a c)))
   |.andNot=>some (.v (.int k (A.bits .andNot k a c)))
   |.quo=>(match A.eq c 0 with
    |true=>none
    |false=>some (.v (.int k (A.quo k a c))))
   |.rem=>(match A.eq c 0 with
    |true=>none
    |false=>some (.v (.int k (A.rem k a c))))
   |.add=>some (.v (.int k (A.add k a c)))
   |.sub=>some (.v (.int k (A.sub k a c)))
   |.mul=>some (.v (.int k (A.mul k a c)))
   |.eql=>some (.v (.bool (A.eq a c)))
   |.neq=>some (.v (.bool (A.not (A.eq a c))))
   |.lss=>some (.v (.bool (A.lt a c)))
   |.leq=>some (.v (.bool (A.le a c)))
   |.gtr=>some (.v (.bool (A.lt c a)))
   |.geq=>some (.v (.bool (A.le c a)))
   |_=>none) else none)
 |.v (.string a),.v (.string c)=>(match b with
   |.add=>(match Nat.ble (A.slen a+A.slen c) 9223372036854775807 with
    |true=>some (.v (.string (A.cat a c)))
    |false=>none)
   |.eql=>some (.v (.bool (A.seq a c)))
   |.neq=>some (.v (.bool (A.not (A.seq a c))))
   |.lss=>some (.v (.bool (A.slt a c)))
   |.geq=>some (.v (.bool (A.not (A.slt a c))))
   |_=>none)
 |_,_=>none
def cmpM(ek:Nat)(b:BinOp)(x y:AV):Option AV:=match ek,b with
 |0,_=>binM A b x y
 |_,.eql=>(eqM A ek x y).map fun t=>.v (.bool t)
 |_,.neq=>(eqM A ek x y).map fun t=>.v (.bool (A.not t))
 |_,_=>none
def bigM(f:Int->Int->Int)(x y:AV):Option AV:=match x,y with
 |.v (.int k a),.v (.int k' c)=>if k=k' then some (.v (.int k (f a c))) else none
 |_,_=>none
def sidxM(x i:AV):Option AV:=match x,i.idx with
 |.v (.string s),some i=>(match Nat.blt i (A.slen s) with
  |true=>some (.v (.int .u8 (A.sat s i)))
  |false=>none)
 |_,_=>none
def ssliceM(x:AV)(lo hi:Option AV):Option AV:=match x with
 |.v (.string s)=>(match optM 0 lo,optM (A.slen s) hi with
  |some l,some h=>(match Nat.ble l h,Nat.ble h (A.slen s) with
   |true,true=>some (.v (.string (A.ssub s l h)))
   |_,_=>none)
  |_,_=>none)
 |_=>none
def convM(k:IntKind)(x:AV):Option AV:=match x with
 |.v (.int _ n)=>some (.v (.int k (A.conv k n)))
 |_=>none
def notM(x:AV):Option AV:=match x with
 |.v (.bool b)=>some (.v (.bool (A.not b)))
 |_=>none
def negM(x:AV):Option AV:=match x with
 |.v (.int k n)=>some (.v (.int k (A.sub k 0 n)))
 |_=>none
def catR:List (List AV)->List AV
 |[]=>[]
 |x::r=>x++catR r
def newsM(e:Nat)(x:AV):AM (Nat × List AV):=match x with
 |.sl b o n e'=>if e'=e then(AM.getB b).bind fun k=>match Nat.ble (o+n*e) k.cells.length,(k.ex||noidL ((k.cells.drop o).take (n*e))) with
   |true,true=>AM.ret (n,(k.cells.drop o).take (n*e))
   |_,_=>AM.fail
   else AM.fail
 |.ls xs=>(match wideR e xs with
  |true=>AM.ret (lenR xs,catR xs)
  |false=>AM.fail)
 |.v (.slice none 0 0)=>AM.ret (0,[])
 |_=>AM.fail
def oneL:List AV->Bool
 |[]=>true
 |x::r=>x.one&&oneL r
def appM(e bytes:Nat)(s x:AV):AM AV:=(newsM e x).bind fun r=>
 match Nat.beq r.1 0 with
 |true=>if isSl s=true then AM.ret s else AM.fail
 |false=>match oneL r.2 with
  |false=>AM.fail
  |true=>(match s with
   |.v (.slice none 0 0)=>(match Nat.ble (r.1*bytes) 140737488355328,Nat.ble r.1 maxLen with
    |true,true=>(AM.newB ⟨r.2,true,true⟩).bind fun b=>AM.ret (.sl b 0 r.1 e)
    |_,_=>AM.fail)
   |.sl b o n e'=>(match Nat.beq e' e,Nat.ble ((n+r.1)*bytes) 140737488355328,Nat.ble (n+r.1) maxLen with
    |true,true,true=>(AM.getB b).bind fun k=>match k.ex,k.st,Nat.beq (o+n*e) k.cells.length with
     |true,true,true=>(AM.delB b).bind fun _=>(AM.newB ⟨(k.cells.take (o+n*e)).drop o++r.2,true,true⟩).bind fun b'=>AM.ret (.sl b' 0 (n+r.1) e)
     |true,false,true=>(AM.setB b { k with ex:=false }).bind fun _=>(AM.newB ⟨(k.cells.take (o+n*e)).drop o++r.2,false,true⟩).bind fun b'=>AM.ret (.sl b' 0 (n+r.1) e)
     |true,true,false=>(match Nat.ble (o+n*e) k.cells.length with
      |true=>(AM.delB b).bind fun _=>(AM.newB ⟨(k.cells.take (o+n*e)).drop o++r.2,true,true⟩).bind fun b'=>AM.ret (.sl b' 0 (n+r.1) e)
      |false=>AM.fail)
     |_,_,_=>AM.fail
    |_,_,_=>AM.fail)
   |_=>AM.fail)
def mkslM(z:List Value)(e bytes:Nat)(l c:AV):AM AV:=match l.idx,c.idx with
 |some n,some m=>(match Nat.ble n m,Nat.ble (m*bytes) 140737488355328,Nat.ble m maxLen with
  |true,true,true=>(AM.newB ⟨zeros (z.map .v) (n*e),true,true⟩).bind fun b=>AM.ret (.sl b 0 n e)
  |_,_,_=>AM.fail)
 |_,_=>AM.fail
def cpyM(e:Nat)(d x:AV):AM AV:=match d with
 |.sl b o n e'=>(match Nat.beq e' e with
  |true=>(newsM e x).bind fun r=>match oneL (r.2.take (Nat.min r.1 n*e)) with
   |true=>(AM.getB b).bind fun k=>match k.st,Nat.ble (o+n*e) k.cells.length with
    |true,true=>(AM.setB b { k with cells:=splice k.cells o (r.2.take (Nat.min r.1 n*e)) }).bind fun _=>AM.ret (.v (.int .i64 (Int.ofNat (Nat.min r.1 n))))
    |_,_=>AM.fail
   |false=>AM.fail
  |false=>AM.fail)
 |_=>AM.fail
def clrM(z:List Value)(e:Nat)(x:AV):AM AV:=match x with
 |.sl b o n e'=>(match Nat.beq e' e with
  |true=>(AM.getB b).bind fun k=>match k.st,Nat.ble (o+n*e) k.cells.length with
   |true,true=>(AM.setB b { k with cells:=splice k.cells o (zeros (z.map .v) (n*e)) }).bind fun _=>AM.ret (.tup [])
   |_,_=>AM.fail
  |false=>AM.fail)
 |_=>AM.fail
def strM(x:AV):AM AV:=match isSl x with
 |true=>(newsM 1 x).bind fun r=>AM.opt ((bytesOf r.2).map fun l=>.v (.string ⟨l.toArray⟩))
 |false=>AM.fail
def pairM(T:List AV):List (Nat × Operand)->List (Nat × AV)
 |[]=>[]
 |(i,x)::r=>(i,opdA T x)::pairM T r
def opsM(T:List AV):List Operand->List AV
 |[]=>[]
 |x::r=>opdA T x::opsM T r
def mop(Γ:FuncId->List AV->AM AV)(o:MO)(T:List AV):AM AV:=match o with
 |.mv x=>AM.ret (opdA T x)
 |.pick c a b=>(match opdA T c with
  |.v (.bool t)=>(match t with
   |true=>AM.ret (opdA T a)
   |false=>AM.ret (opdA T b))
  |_=>AM.fail)
 |.alloc z=>(AM.newB ⟨z.map .v,true,false⟩).bind fun b=>AM.ret (.ptr b 0)
 |.box x=>boxA (opdA T x)
 |.buildS z pl ps=>AM.opt (buildM (pl[·]?) z (pairM T ps))
 |.buildR z e ps=>AM.opt (buildM (fun i=>some (i*e,e)) z (pairM T ps))
 |.buildSl z e n ps=>buildSlM z e n (pairM T ps)
 |.ld row n a=>loadM row n (opdA T a)
 |.st n a x=>storeM n (opdA T a) (opdA T x)
 |.nilck x=>(match opdA T x with
  |.ptr b o=>AM.ret (.ptr b o)
  |.lp cs=>AM.ret (.lp cs)
  |.fn (.func f) a c=>AM.ret (.fn (.func f) a c)
  |_=>AM.fail)
 |.bin ek b x y=>AM.opt (cmpM A ek b (opdA T x) (opdA T y))
 |.eqs neg ks x y=>AM.opt (eqsM A neg ks (opdA T x) (opdA T y))
 |.not x=>AM.opt (notM A (opdA T x))
 |.neg x=>AM.opt (negM A (opdA T x))
 |.mkfn f a c=>AM.ret (.fn f (opsM T a) (opsM T c))
 |.slice e x lo hi=>AM.opt (sliceM e (opdA T x) (lo.map (opdA T)) (hi.map (opdA T)))
 |.faddr off a=>AM.opt (moved (opdA T a) off)
 |.field row off n x=>AM.opt (fieldM row off n (opdA T x))
 |.iaddr e x i=>AM.opt (iaddrM e (opdA T x) (opdA T i))
 |.aaddr n e x i=>AM.opt (aaddrM n e (opdA T x) (opdA T i))
 |.index n e row sz x i=>AM.opt (indexM n e row sz (opdA T x) (opdA T i))
 |.ext x i=>AM.opt (extractA (opdA T x) i)
 |.mksl z e bytes l c=>mkslM z e bytes (opdA T l) (opdA T c)
 |.app e bytes s x=>appM e bytes (opdA T s) (opdA T x)
 |.cpy e d x=>cpyM e (opdA T d) (opdA T x)
 |.clr z e x=>clrM z e (opdA T x)
 |.len sl x=>AM.opt (lenM A sl (opdA T x))
 |.sidx x i=>AM.opt (sidxM A (opdA T x) (opdA T i))
 |.sslice x lo hi=>AM.opt (ssliceM A (opdA T x) (lo.map (opdA T)) (hi.map (opdA T)))
 |.iconv k x=>AM.opt (convM A k (opdA T x))
 |.str x=>strM (opdA T x)
 |.mx x y=>AM.opt (bigM (A.max) (opdA T x) (opdA T y))
 |.mn x y=>AM.opt (bigM (A.min) (opdA T x) (opdA T y))
 |.callF f args=>Γ f (opsM T args)
 |.callV ents x args=>(match opdA T x with
  |.fn (.func g) a cs=>(match ents.testBit g with
   |true=>Γ g (a++opsM T args++cs)
   |false=>AM.fail)
  |_=>AM.fail)
 |.bad=>AM.fail
def wantM(T:List AV)(g:Option (Nat × Bool)):Option Bool:=match g with
 |none=>some true
 |some (d,want)=>match T[d]? with
  |some (.v (.bool b))=>(match want with
   |true=>some b
   |false=>some (A.not b))
  |some (.v (.tuple _))=>some false
  |_=>none
def coreM(Γ:FuncId->List AV->AM AV)(o:MOp)(T:List AV):AM AV:=match wantM A T o.g with
 |some t=>(match t with
  |true=>mop A Γ o.op T
  |false=>AM.ret AV.undef)
 |none=>AM.fail
def runM(Γ:FuncId->List AV->AM AV):List MOp->List AV->AH->Option (List AV × AH × List Foot)
 |[],T,H=>some (T,H,[])
 |o::r,T,H=>match coreM A Γ o T H with
  |none=>none
  |some (v,H1,f)=>match runM Γ r (dstSet T o.dst v) H1 with
   |none=>none
   |some (T2,H2,fs)=>some (T2,H2,f::fs)
def regM(Γ:FuncId->List AV->AM AV)(ops:List MOp)(bf:Option (List Nat))(T:List AV):AM (AX × List AV):=fun H=>match runM A Γ ops T H with
 |none=>none
 |some (T',H',fs)=>match bf with
  |none=>some ((.normal,T'),H',⟨fs.flatMap (·.rd),fs.flatMap (·.wr)⟩)
  |some bf=>(match heapOk bf fs with
   |true=>some ((.normal,T'),H',⟨fs.flatMap (·.rd),fs.flatMap (·.wr)⟩)
   |false=>none)
def pickB{α:Type}:List Bool->List α->List α
 |true::l,x::r=>x::pickB l r
 |false::l,_::r=>pickB l r
 |_,_=>[]
def spreadB:List Bool->Nat->List AV->List AV
 |_,0,_=>[]
 |true::l,n+1,x::xs=>x::spreadB l n xs
 |true::l,n+1,[]=>.any::spreadB l n []
 |false::l,n+1,xs=>.any::spreadB l n xs
 |[],n+1,_=>.any::spreadB [] n []
def axN:AX->Nat
 |.exit i=>i+1
 |_=>0
def keyB:List (Nat × (List Bool × (List Nat × List Nat)))->Nat->List Bool × (List Nat × List Nat)
 |[],_=>([],([],[]))
 |(k,m)::r,n=>match Nat.beq k n with
  |true=>m
  |false=>keyB r n
def LpH.out(h:LpH)(x:AX):List Bool:=(keyB h.outs (axN x)).1
def LpH.fzo(h:LpH)(x:AX):List Nat:=(keyB h.outs (axN x)).2.1
def LpH.dlo(h:LpH)(x:AX):List Nat:=(keyB h.outs (axN x)).2.2
def nilAt(T:List AV)(t:Nat):Bool:=match T[t]? with
 |some (.v z)=>isNilV z
 |_=>false
theorem nilAt_eq{T:List AV}{t:Nat}(h:nilAt T t=true):T[t]? = some (.v (.slice none 0 0)):=by
 unfold nilAt at h
 split at h
 .rename_i z e
  rw[e,isNilV_eq h]
 .cases h
def nilCell(cs:List AV)(i:Nat):Bool:=match cs[i]? with
 |some (.v z)=>isNilV z
 |_=>false
def adoptB1(b i e:Nat):AM Unit:=(AM.getB b).bind fun k=>match k.ex,nilCell k.cells i with
 |false,true=>(AM.newB ⟨[],true,true⟩).bind fun c=>(AM.getB b).bind fun k2=>(match k2.ex,nilCell k2.cells i with
  |false,true=>AM.setB b { k2 with cells:=k2.cells.set i (.sl c 0 0 e) }
  |_,_=>AM.fail)
 |_,_=>AM.ret ()
def nilB(b i:Nat):AM Unit:=(AM.getB b).bind fun k=>match k.ex,nilCell k.cells i with
 |false,true=>AM.setB b { k with cells:=k.cells.set i (.ls []) }
 |_,_=>AM.ret ()
def adoptB(b i e:Nat):AM Unit:=match Nat.beq e 0 with
 |true=>nilB b i
 |false=>adoptB1 b i e
def boxAt(T:List AV)(t:Nat):Option (Nat × Nat):=match Nat.ble 1000000 t with
 |true=>(match T[t % 1000000]? with
  |some (.ptr b o)=>some (b,o+(t / 1000000-1))
  |_=>none)
 |false=>none
def adoptM:List (Nat × Nat)->List AV->AM (List AV)
 |[],T=>AM.ret T
 |(t,e)::r,T=>match nilAt T t with
  |true=>(AM.newB ⟨[],true,true⟩).bind fun b=>adoptM r (T.set t (.sl b 0 0 e))
  |false=>(match boxAt T t with
   |some q=>(adoptB q.1 q.2 e).bind fun _=>adoptM r T
   |none=>adoptM r T)
def chunk:Nat->Nat->List AV->List (List AV)
 |0,_,_=>[]
 |n+1,e,l=>l.take e::chunk n e (l.drop e)
def nilA(z:Value):AV:=match isNilV z with
 |true=>.ls []
 |false=>.v z
def frz0(x:AV):AM AV:=match x with
 |.v z=>AM.ret (nilA z)
 |.sl ..=>AM.fail
 |.agg _=>AM.fail
 |.tup _=>AM.fail
 |x=>AM.ret x
mutual
def frz:Nat->AV->AM AV
 |0,x=>frz0 x
 |n+1,x=>match x with
  |.v z=>AM.ret (nilA z)
  |.sl b o m e=>(AM.getB b).bind fun k=>match Nat.ble (o+m*e) k.cells.length with
   |false=>AM.fail
   |true=>(match k.st with
    |true=>AM.setB b { k with st:=false }
    |false=>AM.ret ()).bind fun _=>match (k.ex||noidL ((k.cells.drop o).take (m*e))) with
     |true=>AM.ret (.ls (chunk m e ((k.cells.drop o).take (m*e))))
     |false=>(frzL n ((k.cells.drop o).take (m*e))).bind fun cs=>match noidL cs with
      |true=>AM.ret (.ls (chunk m e cs))
      |false=>AM.fail
  |.agg cs=>(frzL n cs).bind fun cs=>AM.ret (.agg cs)
  |.tup cs=>(frzL n cs).bind fun cs=>AM.ret (.tup cs)
  |x=>AM.ret x
def frzL:Nat->List AV->AM (List AV)
 |_,[]=>AM.ret []
 |0,_::_=>AM.fail
 |n+1,x::r=>(frz n x).bind fun x=>(frzL n r).bind fun r=>AM.ret (x::r)
end
def frzB(b:Nat):AM Unit:=(AM.getB b).bind fun k=>match k.ex,k.st with
 |false,true=>(frzL 1000 k.cells).bind fun cs=>(AM.getB b).bind fun k2=>(match k2.ex,Nat.beq cs.length k2.cells.length with
  |false,true=>AM.setB b { k2 with cells:=cs }
  |_,_=>AM.fail)
 |_,_=>AM.ret ()
def frzT:List Nat->List AV->AM (List AV)
 |[],T=>AM.ret T
 |t::r,T=>match T[t]? with
  |some (.ptr b _)=>(frzB b).bind fun _=>frzT r T
  |some x=>(frz 1000 x).bind fun y=>frzT r (T.set t y)
  |none=>frzT r T
def evC(Γ:FuncId->List AV->AM AV)(Λ:Nat->List AV->AM (AX × List AV)):MC->List AV->AM (AX × List AV)
 |.skip,T=>AM.ret (.normal,T)
 |.reg ops bf,T=>regM A Γ ops bf T
 |.seq a b,T=>(evC Γ Λ a T).bind fun r=>match r.1 with
  |.normal=>evC Γ Λ b r.2
  |ax=>AM.ret (ax,r.2)
 |.cond c a b,T=>(match opdA T c with
  |.v (.bool t)=>(match t with
   |true=>evC Γ Λ a T
   |false=>evC Γ Λ b T)
  |_=>AM.fail)
 |.block id c,T=>(evC Γ Λ c T).bind fun r=>match r.1 with
  |.exit i=>if i=id then AM.ret (.normal,r.2) else AM.ret (.exit i,r.2)
  |ax=>AM.ret (ax,r.2)
 |.loop i h,T=>(adoptM h.ad T).bind fun T=>(frzT h.fz T).bind fun T=>match Nat.beq T.length h.n with
  |true=>(Λ i (pickB h.live T)).bind fun r=>AM.ret (r.1,spreadB (h.out r.1) h.n r.2)
  |false=>AM.fail
 |.exit id,T=>AM.ret (.exit id,T)
 |.ret,T=>AM.ret (.ret,T)
 |.bad,_=>AM.fail
end
end Go.Proofs.YtpncilciembjdaaGreatDoor
namespace Go.Proofs.YtpncilciembjdaaGreatDoor
open Go.RowKit

mutual
def AV.ids:AV->List Nat
 |.v _=>[]
 |.ptr b _=>[b]
 |.sl b _ _ _=>[b]
 |.ls _=>[]
 |.lp _=>[]
 |.agg cs=>idsL cs
 |.tup cs=>idsL cs
 |.fn _ a c=>idsL a++idsL c
 |.any=>[]
def idsL:List AV->List Nat
 |[]=>[]
 |x::r=>x.ids++idsL r
end
mutual
def AV.ren(τ:Nat->Nat):AV->AV
 |.v x=>.v x
 |.ptr b o=>.ptr (τ b) o
 |.sl b o n e=>.sl (τ b) o n e
 |.ls xs=>.ls xs
 |.lp cs=>.lp cs
 |.agg cs=>.agg (renL τ cs)
 |.tup cs=>.tup (renL τ cs)
 |.fn f a c=>.fn f (renL τ a) (renL τ c)
 |.any=>.any
def renL(τ:Nat->Nat):List AV->List AV
 |[]=>[]
 |x::r=>x.ren τ::renL τ r
end
def ABlk.ren(τ:Nat->Nat)(k:ABlk):ABlk:=match k.ex with
 |true=>k
 |false=>{ k with cells:=renL τ k.cells }
def ABlk.ids(k:ABlk):List Nat:=match k.ex with
 |true=>[]
 |false=>idsL k.cells
inductive BO where
 |keep
 |del
 |set (k:ABlk)
def BO.ids:BO->List Nat
 |.set k=>k.ids
 |_=>[]
def BO.ren(τ:Nat->Nat):BO->BO
 |.keep=>.keep
 |.del=>.del
 |.set k=>.set (k.ren τ)
abbrev DF:=List AV->List ABlk->Option (AV × List BO)
inductive Key where
 |fn (f:Nat)
 |lp (f i:Nat)
inductive Orc where
 |mk (f:Key->List AV->List ABlk->Option (AV × List BO))
 |no
def Orc.ask(D:Orc)(k:Key)(args:List AV)(bs:List ABlk):Option (AV × List BO):=match D with
 |.mk f=>f k args bs
 |.no=>none

def hasN(b:Nat):List Nat->Bool
 |[]=>false
 |c::r=>match Nat.beq b c with
  |true=>true
  |false=>hasN b r
def idx(b:Nat):List Nat->Nat
 |[]=>0
 |c::r=>match Nat.beq b c with
  |true=>0
  |false=>idx b r+1
def trav:Nat->List Nat->List Nat->AM (List Nat)
 |_,[],acc=>AM.ret acc
 |0,_::_,_=>AM.fail
 |n+1,b::r,acc=>match hasN b acc with
  |true=>trav n r acc
  |false=>(AM.getB b).bind fun k=>trav n (r++k.ids) (acc++[b])
def readAll:List Nat->AM (List ABlk)
 |[]=>AM.ret []
 |b::r=>(AM.getB b).bind fun k=>(readAll r).bind fun l=>AM.ret (k::l)
def nextB:AM Nat:=fun H=>some (H.next,H,⟨[],[]⟩)
def writeAll(σ:Nat->Nat):List Nat->List BO->AM (List BO)
 |[],out=>AM.ret out
 |_::_,[]=>AM.fail
 |b::r,o::out=>(match o with
  |.keep=>AM.ret ()
  |.del=>AM.delB b
  |.set k=>AM.setB b (k.ren σ)).bind fun _=>writeAll σ r out
def newAll(σ:Nat->Nat):List BO->AM Unit
 |[]=>AM.ret ()
 |.set k::out=>(AM.newB (k.ren σ)).bind fun _=>newAll σ out
 |_::_=>AM.fail
def nthN:List Nat->Nat->Option Nat
 |[],_=>none
 |x::_,0=>some x
 |_::r,n+1=>nthN r n
def backN(L:List Nat)(n c:Nat):Nat:=match nthN L c with
 |some b=>b
 |none=>n+(c-L.length)
def bndN(n:Nat):List Nat->Bool
 |[]=>true
 |c::r=>match Nat.blt c n with
  |true=>bndN n r
  |false=>false
def bndO(n:Nat):List BO->Bool
 |[]=>true
 |o::r=>match bndN n o.ids with
  |true=>bndO n r
  |false=>false
def callD(D:DF)(args:List AV):AM AV:=
 (trav 4096 (idsL args) []).bind fun L=>(readAll L).bind fun bs=>
  (AM.opt (D (renL (fun b=>idx b L) args) (bs.map (ABlk.ren fun b=>idx b L)))).bind fun r=>
   match bndN r.2.length r.1.ids,bndO r.2.length r.2 with
   |true,true=>nextB.bind fun n=>(writeAll (backN L n) L r.2).bind fun out=>(newAll (backN L n) out).bind fun _=>AM.ret (r.1.ren (backN L n))
   |_,_=>AM.fail

def enumB:Nat->List ABlk->List (Nat × ABlk)
 |_,[]=>[]
 |n,k::r=>(n,k)::enumB (n+1) r
def outK(H:AH)(wr:List Nat)(b:Nat):BO:=match hasN b wr with
 |false=>.keep
 |true=>(match H.get b with
  |some k=>.set k
  |none=>.del)
def outN(H:AH)(b:Nat):BO:=match H.get b with
 |some k=>.set k
 |none=>.del
def rangeN:Nat->Nat->List Nat
 |_,0=>[]
 |a,n+1=>a::rangeN (a+1) n
def runD(m:List AV->AM AV):DF:=fun args bs=>match m args ⟨enumB 0 bs,bs.length,none⟩ with
 |some (r,H',ft)=>some (r,(rangeN 0 bs.length).map (outK H' ft.wr)++(rangeN bs.length (H'.next-bs.length)).map (outN H'))
 |none=>none
def nthO:List BO->Nat->Option BO
 |[],_=>none
 |x::_,0=>some x
 |_::r,n+1=>nthO r n
def gcTrav(k:Nat)(out:List BO):Nat->List Nat->List Nat->Option (List Nat)
 |_,[],acc=>some acc
 |0,_::_,_=>none
 |n+1,b::r,acc=>match Nat.blt b k with
  |true=>gcTrav k out n r acc
  |false=>match hasN b acc with
   |true=>gcTrav k out n r acc
   |false=>match nthO out b with
    |some (.set kb)=>gcTrav k out n (r++kb.ids) (acc++[b])
    |_=>none
def gcN(k:Nat)(acc:List Nat)(b:Nat):Nat:=match Nat.blt b k with
 |true=>b
 |false=>k+idx b acc
def takeO:List BO->Nat->List BO
 |[],_=>[]
 |_::_,0=>[]
 |x::r,n+1=>x::takeO r n
def idsO:List BO->List Nat
 |[]=>[]
 |o::r=>o.ids++idsO r
def pickO(τ:Nat->Nat)(out:List BO):List Nat->List BO
 |[]=>[]
 |b::r=>(match nthO out b with
  |some o=>o.ren τ
  |none=>.del)::pickO τ out r
def renO(τ:Nat->Nat):List BO->List BO
 |[]=>[]
 |o::r=>o.ren τ::renO τ r
def gcD(D:DF):DF:=fun args bs=>match D args bs with
 |none=>none
 |some (r,out)=>match gcTrav bs.length out 4096 (r.ids++idsO (takeO out bs.length)) []with
  |none=>none
  |some acc=>some (r.ren (gcN bs.length acc),renO (gcN bs.length acc) (takeO out bs.length)++pickO (gcN bs.length acc) out acc)

def ownB(own:List (Nat × Nat))(f i:Nat):Bool:=match own with
 |[]=>false
 |(g,j)::r=>match Nat.beq f g,Nat.beq i j with
  |true,true=>true
  |_,_=>ownB r f i
def frzA(own:List (Nat × Nat))(f:Nat):Nat->List AV->AM (List AV)
 |_,[]=>AM.ret []
 |i,x::r=>match ownB own f i with
  |true=>(frzA own f (i+1) r).bind fun r=>AM.ret (x::r)
  |false=>(frz 1000 x).bind fun x=>(frzA own f (i+1) r).bind fun r=>AM.ret (x::r)

def touchS(x:AV):AM AV:=match x with
 |.sl b o n e=>(AM.getB b).bind fun k=>match k.ex with
  |true=>(AM.delB b).bind fun _=>(AM.newB k).bind fun c=>AM.ret (.sl c o n e)
  |false=>AM.ret (.sl b o n e)
 |x=>AM.ret x
def touchL:List AV->AM (List AV)
 |[]=>AM.ret []
 |x::r=>(touchS x).bind fun x=>(touchL r).bind fun r=>AM.ret (x::r)
def touchB(b:Nat):AM Unit:=(AM.getB b).bind fun k=>match k.ex,k.st with
 |false,true=>(touchL k.cells).bind fun cs=>(AM.getB b).bind fun k2=>(match k2.ex,Nat.beq cs.length k2.cells.length with
  |false,true=>AM.setB b { k2 with cells:=cs }
  |_,_=>AM.fail)
 |true,true=>AM.setB b k
 |_,_=>AM.ret ()
def touchI:List Nat->AM Unit
 |[]=>AM.ret ()
 |b::r=>(touchB b).bind fun _=>touchI r
def touchV(x:AV):AM AV:=match x with
 |.sl b o n e=>touchS (.sl b o n e)
 |.agg cs=>(touchL cs).bind fun cs=>(touchI (idsL cs)).bind fun _=>AM.ret (.agg cs)
 |x=>(touchI x.ids).bind fun _=>AM.ret x
def touchA:List Bool->List AV->AM (List AV)
 |_,[]=>AM.ret []
 |true::m,x::r=>(touchI x.ids).bind fun _=>(touchA m r).bind fun r=>AM.ret (x::r)
 |false::m,x::r=>(touchV x).bind fun x=>(touchA m r).bind fun r=>AM.ret (x::r)
 |[],x::r=>(touchV x).bind fun x=>(touchA [] r).bind fun r=>AM.ret (x::r)
def LpH.nt(h:LpH)(x:AX):List Bool:=pickB (h.out x) ((rangeN 0 h.n).map fun t=>hasN (1000000+t) (h.dlo x))

def delC(b i:Nat):AM Unit:=(AM.getB b).bind fun k=>match k.cells[i]? with
 |some (.sl c _ _ _)=>AM.delB c
 |_=>AM.ret ()
def delT:List Nat->List AV->AM Unit
 |[],_=>AM.ret ()
 |t::r,T=>match T[t]? with
  |some (.sl b _ _ _)=>(AM.delB b).bind fun _=>delT r T
  |some (.ptr b _)=>(AM.delB b).bind fun _=>delT r T
  |_=>(match boxAt T t with
   |some q=>(delC q.1 q.2).bind fun _=>delT r T
   |none=>delT r T)

inductive MRes where
 |tmp (t:Nat)
 |cell (t:Nat) (row:Bool) (n:Nat)
structure MFn where
 nt:Nat
 res:List MRes
 body:MC
 loops:List (LpH × MC)
 own:Bool
 tch:Bool
def resM(T:List AV):List MRes->AM (List AV)
 |[]=>AM.ret []
 |.tmp t::r=>(resM T r).bind fun l=>AM.ret ((T[t]?).getD AV.undef::l)
 |.cell x row n::r=>(loadM row n ((T[x]?).getD AV.undef)).bind fun v=>(resM T r).bind fun l=>AM.ret (v::l)
def axA:AX->AV
 |.normal=>.v (.bool false)
 |.ret=>.v (.bool true)
 |.exit i=>.v (.int .i64 (Int.ofNat i))
 |.goto _=>.any
def axOf:AV->Option AX
 |.v (.bool true)=>some .ret
 |.v (.bool false)=>some .normal
 |.v (.int .i64 (.ofNat i))=>some (.exit i)
 |_=>none
section
variable (A:Ar) (D:Orc) (own:List (Nat × Nat))
def callsM(f:FuncId)(args:List AV):AM AV:=(frzA own f 0 args).bind fun l=>callD (D.ask (.fn f)) l
def loopsM(f i:Nat)(xs:List AV):AM (AX × List AV):=(callD (D.ask (.lp f i)) xs).bind fun r=>match r with
 |.tup (x::ys)=>(match axOf x with
  |some ax=>AM.ret (ax,ys)
  |none=>AM.fail)
 |_=>AM.fail
def fnM(f:Nat)(mf:MFn)(args:List AV):AM AV:=(evC A (callsM D own) (loopsM D f) mf.body (frame0 mf.nt args)).bind fun r=>match r.1 with
 |.exit _=>AM.fail
 |.goto _=>AM.fail
 |_=>(resM r.2 mf.res).bind fun l=>(match mf.own with
  |true=>AM.ret (tupA l)
  |false=>frz 1000 (tupA l)).bind fun v=>match mf.tch with
   |true=>(touchI (idsL args)).bind fun _=>AM.ret v
   |false=>AM.ret v
def lpM(f i:Nat)(h:LpH)(c:MC)(xs:List AV):AM AV:=(evC A (callsM D own) (loopsM D f) c (spreadB h.live h.n xs)).bind fun r=>match r.1 with
 |.normal=>(frzT h.fz r.2).bind fun T=>(loopsM D f i (pickB h.live T)).bind fun q=>AM.ret (.tup (axA q.1::q.2))
 |.goto _=>AM.fail
 |ax=>(frzT (h.fzo ax) r.2).bind fun T=>(delT (h.dlo ax) T).bind fun _=>(touchA (h.nt ax) (pickB (h.out ax) T)).bind fun ys=>AM.ret (.tup (axA ax::ys))
end
end Go.Proofs.YtpncilciembjdaaGreatDoor
namespace Go.Proofs.YtpncilciembjdaaGreatDoor
open Go.RowKit

section
variable (P:Program)
def plainT(t:TypeId):Option Nat:=match P.underlying t with
 |some .bool=>some 1
 |some (.int _)=>some 0
 |some .string=>some 2
 |_=>none
def flatS:List Field->Nat->Option (List Nat)
 |[],_=>some []
 |f::r,n=>if(f.offset == n&&f.name != "_"&&(isRowT P f.type == some false))=true then(match plainT P f.type,flatS r (n+1) with
  |some k,some ks=>some (k::ks)
  |_,_=>none) else none
def eqS(t:TypeId):Option (List Nat):=match P.underlying t with
 |some (.struct fs)=>if(!P.stoodInHeld t&&!P.eqGuardType P.depth t)=true then flatS P fs.toList 0 else none
 |_=>none
def kindT(t:TypeId):Nat:=match P.underlying t with
 |some (.pointer _)=>1
 |some (.slice _)=>2
 |some (.func ..)=>3
 |some .bool=>4
 |some (.int _)=>0
 |some .string=>0
 |_=>9
def elemI(t:TypeId):Option (Nat × List Value × Nat):=match elemT P t with
 |some et=>(match P.info? et,zeroT P et with
  |some i,some z=>if z.cells.size=i.size/\0<i.size then some (i.size,z.cells.toList,i.bytes) else none
  |_,_=>none)
 |none=>none
def compOp(ents:Nat)(o:Op):MO:=match o with
 |.move x=>.mv x
 |.assign x=>.mv x
 |.pick c a b=>.pick c a b
 |.alloc t=>(match zeroT P t with
  |some z=>.alloc z.cells.toList
  |none=>.bad)
 |.box _ x=>.box x
 |.build t ps=>(match zeroT P t,fieldsT P t with
  |some z,some fs=>(match placesT P fs.toList with
   |some pl=>.buildS z.cells.toList pl ps.toList
   |none=>.bad)
  |some z,none=>(match arrET P t with
   |some et=>(match szT P et with
    |some e=>.buildR z.cells.toList e ps.toList
    |none=>.bad)
   |none=>.bad)
  |_,_=>.bad)
 |.buildSlice t n ps=>(match elemT P t with
  |some et=>(match szT P et,zeroT P et with
   |some e,some z=>.buildSl z.cells.toList e n ps.toList
   |_,_=>.bad)
  |none=>.bad)
 |.load t a=>(match isRowT P t,szT P t with
  |some true,some n=>.ld true n a
  |some false,_=>.ld false 0 a
  |_,_=>.bad)
 |.store t a x=>(match szT P t with
  |some n=>.st n a x
  |none=>.bad)
 |.nilCheck x=>.nilck x
 |.binOp b t x y _=>(match eqS P t with
  |some ks=>(match b with
   |.eql=>.eqs false ks x y
   |.neq=>.eqs true ks x y
   |_=>.bad)
  |none=>(match kindT P t with
   |9=>.bad
   |k=>.bin k b x y))
 |.unOp .not _ x=>.not x
 |.unOp .neg _ x=>.neg x
 |.makeFunc f a c=>.mkfn f a.toList c.toList
 |.slice t x lo hi none=>(match elemT P t with
  |some et=>(match szT P et with
   |some e=>.slice e x lo hi
   |none=>.bad)
  |none=>if isStringT P t then .sslice x lo hi else .bad)
 |.fieldAddr t a f=>(match fieldsT P t with
  |some fs=>(match fs[f]? with
   |some fd=>(match szT P fd.type with
    |some (_+1)=>.faddr fd.offset a
    |_=>.bad)
   |none=>.bad)
  |none=>.bad)
 |.field t x f=>(match fieldsT P t with
  |some fs=>(match fs[f]? with
   |some fd=>(match isRowT P fd.type,szT P fd.type with
    |some true,some n=>.field true fd.offset n x
    |some false,_=>.field false fd.offset 0 x
    |_,_=>.bad)
   |none=>.bad)
  |none=>.bad)
 |.indexAddr t x i=>(match elemT P t,arrT P t with
  |some et,_=>(match szT P et with
   |some e=>.iaddr e x i
   |none=>.bad)
  |none,some (n,et)=>(match szT P et with
   |some e=>.aaddr n e x i
   |none=>.bad)
  |_,_=>.bad)
 |.index t x i=>(match arrT P t with
  |some (n,et)=>(match szT P et,isRowT P et with
   |some e,some true=>.index n e true e x i
   |some e,some false=>.index n e false 0 x i
   |_,_=>.bad)
  |none=>if isStringT P t then .sidx x i else .bad)
 |.convert s d x=>(match P.underlying s,P.underlying d with
  |some (.int _),some (.int k)=>.iconv k x
  |_,_=>(match isBytesT P s,isStringT P d with
   |true,true=>.str x
   |_,_=>.bad))
 |.extract x i=>.ext x i
 |.makeSlice t l c=>(match elemI P t with
  |some (e,z,by')=>.mksl z e by' l c
  |none=>.bad)
 |.call c=>(match c.callee with
  |.builtin .append=>(match c.args.toList,c.argTypes.toList with
   |[s,x],[t,u]=>(match elemI P t,isSliceT P u with
    |some (e,_,by'),true=>.app e by' s x
    |_,_=>.bad)
   |_,_=>.bad)
  |.builtin .copy=>(match c.args.toList,c.argTypes.toList with
   |[d,x],[t,u]=>(match elemT P t,isSliceT P u with
    |some et,true=>(match szT P et with
     |some e=>.cpy e d x
     |none=>.bad)
    |_,_=>.bad)
   |_,_=>.bad)
  |.builtin .clear=>(match c.args.toList,c.argTypes.toList with
   |[x],[t]=>(match elemT P t with
    |some et=>(match szT P et,zeroT P et with
     |some e,some z=>if z.cells.size=e/\0<e/\(z.cells.toList.map AV.v).all AV.one=true then .clr z.cells.toList e x else .bad
     |_,_=>.bad)
    |none=>.bad)
   |_,_=>.bad)
  |.builtin .len=>(match c.args.toList,c.argTypes.toList with
   |[x],[t]=>if isSliceT P t then .len true x else if isStringT P t then .len false x else .bad
   |_,_=>.bad)
  |.builtin .max=>(match c.args.toList with
   |[x,y]=>.mx x y
   |_=>.bad)
  |.builtin .min=>(match c.args.toList with
   |[x,y]=>.mn x y
   |_=>.bad)
  |.builtin _=>.bad
  |.value f=>(match f with
   |.func g=>if enterable P g then .callF g c.args.toList else .bad
   |_=>.callV ents f c.args.toList)
  |.invoke ..=>.bad)
 |_=>.bad
def compG(ops:Array Oper)(g:Option (Nat × Bool)):Option (Option (Nat × Bool)):=match g with
 |none=>some none
 |some (j,want)=>match (ops[j]?).bind (·.dst) with
  |some d=>some (some (d,want))
  |none=>none
def compO(ents:Nat)(ops:Array Oper)(o:Oper):MOp:=match compG ops o.guard with
 |some g=>⟨o.dst,compOp P ents o.op,g⟩
 |none=>⟨o.dst,.bad,none⟩
abbrev Hints:=List LpH
def compC(ents:Nat)(hs:Hints):Code->Nat->MC × List (LpH × MC)
 |.skip,_=>(.skip,[])
 |.region _ ops d,_=>(.reg (ops.toList.map (compO P ents ops)) (if d then some (bef ops) else none),[])
 |.seq a b,n=>match compC ents hs a n with
  |(ma,la)=>match compC ents hs b (n+la.length) with
   |(mb,lb)=>(.seq ma mb,la++lb)
 |.cond c a b,n=>match compC ents hs a n with
  |(ma,la)=>match compC ents hs b (n+la.length) with
   |(mb,lb)=>(.cond c ma mb,la++lb)
 |.block id c,n=>match compC ents hs c n with
  |(mc,lc)=>(.block id mc,lc)
 |.loop c,n=>match compC ents hs c (n+1),hs[n]? with
  |(mc,lc),some h=>(.loop n h,(h,mc)::lc)
  |(mc,lc),none=>(.bad,(⟨0,[],[],[],[]⟩,mc)::lc)
 |.exit id,_=>(.exit id,[])
 |.ret,_=>(.ret,[])
 |_,_=>(.bad,[])
def compR(rs:List ResultVar):List MRes:=rs.map fun r=>match r with
 |.tmp t=>.tmp t
 |.cell t ty=>match isRowT P ty,szT P ty with
  |some true,some n=>.cell t true n
  |some false,_=>.cell t false 0
  |_,_=>.tmp 1000000
end
end Go.Proofs.YtpncilciembjdaaGreatDoor
namespace Go.Proofs.YtpncilciembjdaaGreatDoor
open Go.RowKit

section
variable {P:Program}
@[simp] theorem pureRun_pure{α:Type}(a:α):pureRun P (pure a:Sem α)=some a:=rfl
@[simp] theorem pureRun_pure'{α:Type}(a:α):pureRun P (Sem.pure a:Sem α)=some a:=rfl
theorem pureRun_bind'{α β:Type}(k:α->Sem β):∀(s:Sem α),pureRun P (s.bind k)=(pureRun P s).bind fun a=>pureRun P (k a)
 |.pure a=>rfl
 |.program f=>by simp only[Sem.bind,pureRun];exact pureRun_bind' k (f P)
 |.load ..=>rfl
 |.store ..=>rfl
 |.new ..=>rfl
 |.shape ..=>rfl
 |.freeze ..=>rfl
 |.frozen ..=>rfl
 |.getObj ..=>rfl
 |.setObj ..=>rfl
 |.choose ..=>rfl
 |.sys ..=>rfl
 |.mark ..=>rfl
 |.halt ..=>rfl
@[simp] theorem pureRun_bind{α β:Type}(s:Sem α)(k:α->Sem β):pureRun P (s >>= k)=(pureRun P s).bind fun a=>pureRun P (k a):=pureRun_bind' k s
@[simp] theorem pureRun_program:pureRun P program=some P:=rfl
theorem pureRun_underlying{t:TypeId}{d:TypeDesc}(h:P.underlying t=some d):pureRun P (underlying t)=some d:=by
 unfold underlying
 simp[h]
theorem kind_ptr{t:TypeId}(h:kindT P t=1):∃ e,P.underlying t=some (.pointer e):=by
 unfold kindT at h
 split at h<;>first|exact⟨_,‹_›⟩|cases h
theorem kind_sl{t:TypeId}(h:kindT P t=2):∃ e,P.underlying t=some (.slice e):=by
 unfold kindT at h
 split at h<;>first|exact⟨_,‹_›⟩|cases h
theorem kind_fn{t:TypeId}(h:kindT P t=3):∃ a b c,P.underlying t=some (.func a b c):=by
 unfold kindT at h
 split at h<;>first|exact⟨_,_,_,‹_›⟩|cases h
theorem kind_bool{t:TypeId}(h:kindT P t=4):P.underlying t=some .bool:=by
 unfold kindT at h
 split at h<;>first|assumption|cases h
theorem genA_bin'{o:Oper}{b:BinOp}{t yt:TypeId}{x y:Operand}(ho:o.op=.binOp b t x y yt){ρ:Operand->AV}{u v z:Value}(hx:(ρ x).toVal=some u)(hy:(ρ y).toVal=some v)
  (h:pureRun P (do eqGuard b t x y u v;binOp b t u v)=some z):genA P o ρ=some (ofVal z):=by
 have e1:valOf ρ x=u:=by unfold valOf;rw[hx];rfl
 have e2:valOf ρ y=v:=by unfold valOf;rw[hy];rfl
 have c:(notSelect o.op&&o.op.operands.toList.all fun x=>(ρ x).toVal.isSome)=true:=by
  rw[ho]
  simp[notSelect,Op.operands,hx,hy]
 unfold genA
 rw[if_pos c]
 have:pureRun P (execOp (valOf ρ) o)=some (.value z):=by
  unfold execOp
  rw[ho]
  simp only[e1,e2]
  rw[pureRun_bind,h]
  rfl
 rw[this]
 rfl
theorem genA_bin{o:Oper}{b:BinOp}{t yt:TypeId}{x y:Operand}(ho:o.op=.binOp b t x y yt){ρ:Operand->AV}{u v z:Value}(hx:ρ x=.v u)(hy:ρ y=.v v)
  (h:pureRun P (do eqGuard b t x y u v;binOp b t u v)=some z):genA P o ρ=some (ofVal z):=genA_bin' ho (by rw[hx];rfl) (by rw[hy];rfl) h
theorem genA_not{o:Oper}{t:TypeId}{x:Operand}(ho:o.op=.unOp .not t x){ρ:Operand->AV}{c:Bool}(hx:ρ x=.v (.bool c)):genA P o ρ=some (.v (.bool !c)):=by
 have e1:valOf ρ x=.bool c:=by unfold valOf;rw[hx];rfl
 have cc:(notSelect o.op&&o.op.operands.toList.all fun x=>(ρ x).toVal.isSome)=true:=by
  rw[ho]
  simp[notSelect,Op.operands,hx,AV.toVal]
 unfold genA
 rw[if_pos cc]
 have:pureRun P (execOp (valOf ρ) o)=some (.value (.bool !c)):=by
  unfold execOp
  rw[ho]
  simp only[e1]
  rw[pureRun_bind]
  rfl
 rw[this]
 rfl
theorem genA_neg{o:Oper}{t:TypeId}{x:Operand}(ho:o.op=.unOp .neg t x){ρ:Operand->AV}{k:IntKind}{n:Int}(hx:ρ x=.v (.int k n)):genA P o ρ=some (.v (.int k (realA.sub k 0 n))):=by
 have e1:valOf ρ x=.int k n:=by unfold valOf;rw[hx];rfl
 have cc:(notSelect o.op&&o.op.operands.toList.all fun x=>(ρ x).toVal.isSome)=true:=by
  rw[ho]
  simp[notSelect,Op.operands,hx,AV.toVal]
 unfold genA
 rw[if_pos cc]
 have:pureRun P (execOp (valOf ρ) o)=some (.value (.int k (realA.sub k 0 n))):=by
  unfold execOp
  rw[ho]
  simp only[e1]
  rw[pureRun_bind]
  rfl
 rw[this]
 rfl
theorem guard_int{b:BinOp}{t:TypeId}{x y:Operand}{k k':IntKind}{a c:Int}:pureRun P (eqGuard b t x y (.int k a) (.int k' c))=some ():=by
 unfold eqGuard
 cases b<;>simp
theorem guard_str{b:BinOp}{t:TypeId}{x y:Operand}{a c:ByteArray}:pureRun P (eqGuard b t x y (.string a) (.string c))=some ():=by
 unfold eqGuard
 cases b<;>simp
theorem bin_int{o:Oper}{b:BinOp}{t yt:TypeId}{x y:Operand}(ho:o.op=.binOp b t x y yt){ρ:Operand->AV}{k k':IntKind}{a c:Int}(hx:ρ x=.v (.int k a))(hy:ρ y=.v (.int k' c)){z:Value}(hz:pureRun P (binOp b t (.int k a) (.int k' c))=some z):genA P o ρ=some (ofVal z):=
 genA_bin ho hx hy (by rw[pureRun_bind,guard_int];exact hz)
theorem bin_sound{o:Oper}{b:BinOp}{t yt:TypeId}{x y:Operand}(ho:o.op=.binOp b t x y yt){ρ:Operand->AV}{r:AV}(h:binM realA b (ρ x) (ρ y)=some r):genA P o ρ=some r/\nilNe P t (ρ x) (ρ y)=false:=by
 unfold binM at h
 split at h
 .rename_i k a k' c hx hy
  refine⟨?_,by rw[hx,hy];rfl⟩
  have key:∀ z,pureRun P (binOp b t (.int k a) (.int k' c))=some z->genA P o ρ=some (ofVal z):=fun z hz=>bin_int ho hx hy hz
  have shf:∀{op:BinOp} {v:Value},¬ c<0->(∀ n,n=Nat.min c.toNat k.bits->pureRun P (match op with
    |.shl=>(pure (.int k (k.wrap (a*2 ^ n))):Sem Value)
    |.shr=>pure (.int k (a.fdiv (2 ^ n)))
    |_=>stuck "shift: << >> expected")=some v)->pureRun P (Op.shift op k a k' c)=some v:=fun {op v} hc hv=>by
   unfold Op.shift
   rw[if_neg hc]
   exact hv _ rfl
  have div:∀{op:BinOp} {v:Value},¬ c=0->pureRun P (match op with
    |.quo=>(pure (.int k (k.wrap (a.tdiv c))):Sem Value)
    |.rem=>pure (.int k (a.tmod c))
    |_=>stuck "intDiv: / % expected")=some v->pureRun P (Op.intDiv op k a c)=some v:=fun {op v} hc hv=>by
   unfold Op.intDiv
   rw[if_neg hc]
   exact hv
  cases b with
  |shl=>
   simp only at h
   cases e:realA.lt c 0 with
   |true=>rw[e]at h;cases h
   |false=>
    rw[e]at h
    simp only[Option.some.injEq]at h
    subst h
    have hc:¬ c<0:=of_decide_eq_false e
    exact key (.int k (realA.shl k a c)) (by
     show pureRun P (Op.shift .shl k a k' c)=_
     exact shf hc fun n hn=>by rw[hn];rfl)
  |shr=>
   simp only at h
   cases e:realA.lt c 0 with
   |true=>rw[e]at h;cases h
   |false=>
    rw[e]at h
    simp only[Option.some.injEq]at h
    subst h
    have hc:¬ c<0:=of_decide_eq_false e
    exact key (.int k (realA.shr k a c)) (by
     show pureRun P (Op.shift .shr k a k' c)=_
     exact shf hc fun n hn=>by rw[hn];rfl)
  |_=>
   simp only at h
   split at h
   .rename_i hk
    subst hk
    try simp only[Option.some.injEq,reduceCtorEq]at h
    first
     | (subst h
        first
         |exact key (.int k (k.wrap (a+c))) (by simp[binOp,Op.intArith])
         |exact key (.int k (k.wrap (a-c))) (by simp[binOp,Op.intArith])
         |exact key (.int k (k.wrap (a*c))) (by simp[binOp,Op.intArith])
         |exact key (.int k (realA.bits .and k a c)) (by simp[binOp,Op.intBits,realA,realA0,Ar.bits,bitsV])
         |exact key (.int k (realA.bits .or k a c)) (by simp[binOp,Op.intBits,realA,realA0,Ar.bits,bitsV])
         |exact key (.int k (realA.bits .xor k a c)) (by simp[binOp,Op.intBits,realA,realA0,Ar.bits,bitsV])
         |exact key (.int k (realA.bits .andNot k a c)) (by simp[binOp,Op.intBits,realA,realA0,Ar.bits,bitsV])
         |exact key (.bool (a == c)) (by simp[binOp,Op.intCmp])
         |exact key (.bool (a != c)) (by simp[binOp,Op.intCmp])
         |exact key (.bool (decide (a<c))) (by simp[binOp,Op.intCmp])
         |exact key (.bool (decide (a<=c))) (by simp[binOp,Op.intCmp])
         |exact key (.bool (decide (c<a))) (by simp[binOp,Op.intCmp])
         |exact key (.bool (decide (c<=a))) (by simp[binOp,Op.intCmp]))
     | (cases e:realA.eq c 0 with
        |true=>rw[e]at h;cases h
        |false=>
         rw[e]at h
         simp only[Option.some.injEq]at h
         subst h
         have hc:¬ c=0:=fun e0=>by subst e0;exact absurd e (by simp[realA,realA0,Ar.eq])
         first
          |exact key (.int k (realA.quo k a c)) (by
            have:binOp .quo t (.int k a) (.int k c)=Op.intDiv .quo k a c:=by simp[binOp]
            rw[this];exact div hc rfl)
          |exact key (.int k (realA.rem k a c)) (by
            have:binOp .rem t (.int k a) (.int k c)=Op.intDiv .rem k a c:=by simp[binOp]
            rw[this];exact div hc rfl))
   .cases h
 .rename_i a c hx hy
  refine⟨?_,by rw[hx,hy];rfl⟩
  have key:∀ z,pureRun P (binOp b t (.string a) (.string c))=some z->genA P o ρ=some (ofVal z):=fun z hz=>genA_bin ho hx hy (by rw[pureRun_bind,guard_str];exact hz)
  cases b with
  |add=>
   simp only at h
   cases e:Nat.ble (realA.slen a+realA.slen c) 9223372036854775807 with
   |false=>rw[e]at h;cases h
   |true=>
    rw[e]at h
    simp only[Option.some.injEq]at h
    subst h
    have e1:a.size+c.size<=9223372036854775807:=Nat.le_of_ble_eq_true e
    refine key (.string (a++c)) ?_
    simp only[binOp,Op.stringOp]
    rw[if_neg (by
     have:IntKind.i64.max=9223372036854775807:=by decide
     rw[this];omega)]
    rfl
  |eql=>simp only[Option.some.injEq]at h;subst h;exact key (.bool (a.toList == c.toList)) (by simp[binOp,Op.stringOp])
  |neq=>simp only[Option.some.injEq]at h;subst h;exact key (.bool !(a.toList == c.toList)) (by simp[binOp,Op.stringOp])
  |lss=>simp only[Option.some.injEq]at h;subst h;exact key (.bool (Op.bytesLess a.toList c.toList)) (by simp[binOp,Op.stringOp])
  |geq=>simp only[Option.some.injEq]at h;subst h;exact key (.bool !(Op.bytesLess a.toList c.toList)) (by simp[binOp,Op.stringOp])
  |_=>cases h
 .cases h
def binA(P:Program)(o:Oper)(b:BinOp)(t:TypeId)(x y:Operand)(ρ:Operand->AV):AM AV:=if nilNe P t (ρ x) (ρ y)=true then(match b with
   |.eql=>AM.ret (.v (.bool false))
   |.neq=>AM.ret (.v (.bool true))
   |_=>AM.fail) else AM.opt (genA P o ρ)
theorem eq_none{t:TypeId}{x y:Operand}{u v:Value}(hu:∀ us vs,¬ (u=.agg us/\v=.agg vs))(hn:u≠.nilIface){b:BinOp}:pureRun P (eqGuard b t x y u v)=some ():=by
 have key:pureRun P (match u,v with
  |.nilIface,.nilIface=>do
   if(x matches .const _)||(y matches .const _) then return
   if ←Op.eqGuardIn Op.maxDepth t u v then unsupported (.noEntry "binop/eql: two nil values of an interface type with methods, neither of them the literal nil")
  |.agg _,.agg _=>do
   if !(←program).eqGuardType (←program).depth t then return
   if ←Op.eqGuardIn Op.maxDepth t u v then unsupported (.noEntry "binop/eql: two nil values of an interface type with methods, in a part of a struct or an array")
  |_,_=>pure ())=some ():=by
  split
  .exact absurd rfl hn
  .exact absurd ⟨rfl,rfl⟩ (hu _ _)
  .rfl
 unfold eqGuard
 cases b<;>first
  |rfl
  |exact key
theorem eq_gen{o:Oper}{b:BinOp}{t yt:TypeId}{x y:Operand}(ho:o.op=.binOp b t x y yt){ρ:Operand->AV}{u v:Value}{c:Bool}(hx:ρ x=.v u)(hy:ρ y=.v v)
  (hu:∀ us vs,¬ (u=.agg us/\v=.agg vs)) (hn:u≠.nilIface) (hi:∀ k a k' c,¬ (u=.int k a/\v=.int k' c)) (hfl:∀ k a,u≠.float k a) (hc:∀ k a c,u≠.complex k a c) (hs:∀ a,u≠.string a)
  (h:pureRun P (Op.equal t u v)=some c) (hb:b=.eql\/b=.neq):genA P o ρ=some (.v (.bool (if b=.eql then c else !c))):=by
 have:genA P o ρ=some (ofVal (.bool (if b=.eql then c else !c))):=by
  refine genA_bin ho hx hy ?_
  rw[pureRun_bind,eq_none hu hn]
  rcases hb with rfl|rfl
  .cases u<;>first
    |(exfalso;first|exact hfl _ _ rfl|exact hc _ _ _ rfl|exact hs _ rfl)
    |(cases v<;>first
      |(exfalso;exact hi _ _ _ _ ⟨rfl,rfl⟩)
      |(simp only[Option.bind_some,Go.binOp,pureRun_bind,h,pureRun_pure];rfl))
  .cases u<;>first
    |(exfalso;first|exact hfl _ _ rfl|exact hc _ _ _ rfl|exact hs _ rfl)
    |(cases v<;>first
      |(exfalso;exact hi _ _ _ _ ⟨rfl,rfl⟩)
      |(simp only[Option.bind_some,Go.binOp,pureRun_bind,h,pureRun_pure];rfl))
 exact this
theorem eqIn_bool{t:TypeId}(hu:P.underlying t=some .bool)(d:Nat)(a c:Bool):pureRun P (Op.equalIn (d+1) t (.bool a) (.bool c))=some (a == c):=by
 unfold Op.equalIn
 rw[pureRun_bind,pureRun_underlying hu]
 rfl
theorem eqIn_ptr{t e:TypeId}(hu:P.underlying t=some (.pointer e))(d:Nat):pureRun P (Op.equalIn (d+1) t (.pointer none) (.pointer none))=some true:=by
 unfold Op.equalIn
 rw[pureRun_bind,pureRun_underlying hu]
 rfl
theorem eqIn_sl{t e:TypeId}(hu:P.underlying t=some (.slice e))(d:Nat):pureRun P (Op.equalIn (d+1) t (.slice none 0 0) (.slice none 0 0))=some true:=by
 unfold Op.equalIn
 rw[pureRun_bind,pureRun_underlying hu]
 rfl
theorem eqIn_fn{t:TypeId}{a b:Array TypeId}{c:Bool}(hu:P.underlying t=some (.func a b c))(d:Nat):pureRun P (Op.equalIn (d+1) t .nilFunc .nilFunc)=some true:=by
 unfold Op.equalIn
 rw[pureRun_bind,pureRun_underlying hu]
 rfl
theorem eq_sound{o:Oper}{b:BinOp}{t yt:TypeId}{x y:Operand}(ho:o.op=.binOp b t x y yt){ρ:Operand->AV}{ek:Nat}(hk:kindT P t=ek){c:Bool}(h:eqM realA ek (ρ x) (ρ y)=some c)(hb:b=.eql\/b=.neq) :
  binA P o b t x y ρ=AM.ret (.v (.bool (if b=.eql then c else !c))):=by
 unfold eqM at h
 unfold binA
 split at h<;>simp only[Option.some.injEq,reduceCtorEq]at h<;>try subst h
 .-- bool
  rename_i a c hx hy
  have hu:=kind_bool hk
  rw[if_neg (by rw[hx,hy];simp[nilNe])]
  have:pureRun P (Op.equal t (.bool a) (.bool c))=some (a == c):=eqIn_bool hu 9999 a c
  rw[eq_gen ho hx hy (by simp) (by simp) (by simp) (by simp) (by simp) (by simp) this hb]
  rfl
 .rename_i hx hy
  obtain⟨e,hu⟩:=kind_ptr hk
  rw[if_pos (by rw[hx,hy];simp[nilNe,hu])]
  rcases hb with rfl|rfl<;>rfl
 .rename_i hx hy
  obtain⟨e,hu⟩:=kind_ptr hk
  rw[if_pos (by rw[hx,hy];simp[nilNe,hu])]
  rcases hb with rfl|rfl<;>rfl
 .rename_i hx hy
  obtain⟨e,hu⟩:=kind_ptr hk
  rw[if_neg (by rw[hx,hy];simp[nilNe])]
  have:pureRun P (Op.equal t (.pointer none) (.pointer none))=some true:=eqIn_ptr hu 9999
  rw[eq_gen ho hx hy (by simp) (by simp) (by simp) (by simp) (by simp) (by simp) this hb]
  rfl
 .rename_i hx hy
  obtain⟨e,hu⟩:=kind_sl hk
  rw[if_pos (by rw[hx,hy];simp[nilNe,hu])]
  rcases hb with rfl|rfl<;>rfl
 .rename_i hx hy
  obtain⟨e,hu⟩:=kind_sl hk
  rw[if_neg (by rw[hx,hy];simp[nilNe])]
  have:pureRun P (Op.equal t (.slice none 0 0) (.slice none 0 0))=some true:=eqIn_sl hu 9999
  rw[eq_gen ho hx hy (by simp) (by simp) (by simp) (by simp) (by simp) (by simp) this hb]
  rfl
 .rename_i hx hy
  obtain⟨e,e2,e3,hu⟩:=kind_fn hk
  rw[if_pos (by rw[hx,hy];simp[nilNe,hu])]
  rcases hb with rfl|rfl<;>rfl
 .rename_i hx hy
  obtain⟨e,e2,e3,hu⟩:=kind_fn hk
  rw[if_neg (by rw[hx,hy];simp[nilNe])]
  have:pureRun P (Op.equal t .nilFunc .nilFunc)=some true:=eqIn_fn hu 9999
  rw[eq_gen ho hx hy (by simp) (by simp) (by simp) (by simp) (by simp) (by simp) this hb]
  rfl
def cellEq:Nat->Value->Value->Option Bool
 |1,.bool a,.bool b=>some (a == b)
 |0,.int k a,.int k' b=>if k=k' then some (a == b) else none
 |2,.string a,.string b=>some (a == b)
 |_,_,_=>none
def cellsEq:List Nat->List Value->List Value->Option Bool
 |[],[],[]=>some true
 |k::ks,u::us,v::vs=>(match cellEq k u v,cellsEq ks us vs with
  |some a,some b=>some (a&&b)
  |_,_=>none)
 |_,_,_=>none
theorem bytes_beq(a b:ByteArray):(a == b)=(a.data == b.data):=by
 cases a;cases b;rfl
theorem bytes_eq(a b:ByteArray):(a.toList == b.toList)=(a == b):=by
 rw[Go.ByteArray.toList_eq,Go.ByteArray.toList_eq,bytes_beq]
 simp
theorem eqL_some:∀{ks:List Nat} {xs ys:List AV} {c:Bool},eqL realA ks xs ys=some c->∃ us vs,vals xs=some us/\vals ys=some vs/\cellsEq ks us vs=some c
 |[],[],[],c,h=>by simp only[eqL,Option.some.injEq]at h;subst h;exact⟨[],[],rfl,rfl,rfl⟩
 |ks,xs,ys,c,h=>by
  unfold eqL at h
  split at h
  .simp only[Option.some.injEq]at h;subst h;exact⟨[],[],rfl,rfl,rfl⟩
  .rename_i ks a r b q
   cases e:eqL realA ks r q with
   |none=>rw[e]at h;cases h
   |some t=>
    rw[e]at h
    simp only[Option.some.injEq]at h
    subst h
    obtain⟨us,vs,h1,h2,h3⟩:=eqL_some e
    exact⟨.bool a::us,.bool b::vs,by simp only[vals,h1],by simp only[vals,h2],by simp only[cellsEq,cellEq,h3];rfl⟩
  .rename_i ks k a r k' b q
   split at h
   .rename_i hk
    cases e:eqL realA ks r q with
    |none=>rw[e]at h;cases h
    |some t=>
     rw[e]at h
     simp only[Option.some.injEq]at h
     subst h
     obtain⟨us,vs,h1,h2,h3⟩:=eqL_some e
     exact⟨.int k a::us,.int k' b::vs,by simp only[vals,h1],by simp only[vals,h2],by simp only[cellsEq,cellEq,h3,if_pos hk];rfl⟩
   .cases h
  .rename_i ks a r b q
   cases e:eqL realA ks r q with
   |none=>rw[e]at h;cases h
   |some t=>
    rw[e]at h
    simp only[Option.some.injEq]at h
    subst h
    obtain⟨us,vs,h1,h2,h3⟩:=eqL_some e
    refine⟨.string a::us,.string b::vs,by simp only[vals,h1],by simp only[vals,h2],?_⟩
    simp only[cellsEq,cellEq,h3]
    show some ((a == b)&&t)=some ((a.toList == b.toList)&&t)
    rw[bytes_eq]
  .cases h
theorem eqIn_cell{t:TypeId}{k:Nat}(hk:plainT P t=some k){u v:Value}{c:Bool}(h:cellEq k u v=some c)(d:Nat):pureRun P (Op.equalIn (d+1) t u v)=some c:=by
 unfold cellEq at h
 unfold plainT at hk
 split at h
 .simp only[Option.some.injEq]at h
  subst h
  split at hk<;>simp only[Option.some.injEq,reduceCtorEq]at hk<;>try (exact absurd hk (by decide))
  rename_i hu
  unfold Op.equalIn
  rw[pureRun_bind,pureRun_underlying hu]
  rfl
 .split at h
  .rename_i ek
   simp only[Option.some.injEq]at h
   subst h
   split at hk<;>simp only[Option.some.injEq,reduceCtorEq]at hk<;>try (exact absurd hk (by decide))
   rename_i hu
   unfold Op.equalIn
   rw[pureRun_bind,pureRun_underlying hu]
   simp only[Option.bind_some,ek,if_true]
   rfl
  .cases h
 .simp only[Option.some.injEq]at h
  subst h
  split at hk<;>simp only[Option.some.injEq,reduceCtorEq]at hk<;>try (exact absurd hk (by decide))
  rename_i hu
  unfold Op.equalIn
  rw[pureRun_bind,pureRun_underlying hu]
  rfl
 .cases h
theorem part_cell{t:TypeId}(h:isRowT P t=some false){cs:Array Value}{n:Nat}{u:Value}(hu:cs[n]? = some u):pureRun P (part t cs n)=some u:=by
 unfold part
 have:pureRun P (isAgg t)=some false:=by
  unfold isAgg
  unfold isRowT at h
  cases e:P.underlying t with
  |none=>rw[e]at h;cases h
  |some d=>
   rw[e]at h
   simp only[Option.map_some,Option.some.injEq]at h
   rw[pureRun_bind,pureRun_underlying e]
   cases d<;>first | (simp[isRow]at h;done) | rfl
 rw[pureRun_bind,this]
 simp[hu]
theorem genA_exec{o:Oper}{ρ:Operand->AV}{z:Value}(hn:notSelect o.op=true)(ha:(o.op.operands.toList.all fun x=>(ρ x).toVal.isSome)=true)(h:pureRun P (execOp (valOf ρ) o)=some (.value z)):genA P o ρ=some (ofVal z):=by
 unfold genA
 rw[if_pos (by rw[hn,ha];rfl),h]
 rfl
theorem valOf_v{ρ:Operand->AV}{x:Operand}{u:Value}(h:ρ x=.v u):valOf ρ x=u:=by unfold valOf;rw[h];rfl
theorem eqFields_run{xs ys:Array Value}(d:Nat):∀(fs:List Field) (n:Nat) {ks:List Nat} {us vs:List Value} {c:Bool},flatS P fs n=some ks->cellsEq ks us vs=some c->(∀(i:Nat) u,us[i]? = some u->xs[n+i]? = some u)->(∀(i:Nat) u,vs[i]? = some u->ys[n+i]? = some u)->pureRun P (Op.eqFields (d+1) xs ys fs)=some c
 |[],n,ks,us,vs,c,hf,hc,hx,hy=>by
  simp only[flatS,Option.some.injEq]at hf
  subst hf
  cases us<;>cases vs<;>simp only[cellsEq,Option.some.injEq,reduceCtorEq]at hc
  subst hc
  rfl
 |f::r,n,ks,us,vs,c,hf,hc,hx,hy=>by
  simp only[flatS]at hf
  split at hf
  .rename_i h1
   simp only[Bool.and_eq_true,beq_iff_eq,bne_iff_ne]at h1
   obtain⟨⟨h1,h2⟩,h3⟩:=h1
   cases e1:plainT P f.type with
   |none=>rw[e1]at hf;cases hf
   |some k=>
    cases e2:flatS P r (n+1) with
    |none=>rw[e1,e2]at hf;cases hf
    |some ks'=>
     rw[e1,e2]at hf
     simp only[Option.some.injEq]at hf
     subst hf
     cases us with
     |nil=>simp[cellsEq]at hc
     |cons u us=>
      cases vs with
      |nil=>simp[cellsEq]at hc
      |cons v vs=>
       simp only[cellsEq]at hc
       cases e3:cellEq k u v with
       |none=>rw[e3]at hc;cases hc
       |some a=>
        cases e4:cellsEq ks' us vs with
        |none=>rw[e3,e4]at hc;cases hc
        |some b=>
         rw[e3,e4]at hc
         simp only[Option.some.injEq]at hc
         subst hc
         have ih:=eqFields_run d r (n+1) e2 e4 (fun i u hi=>by have:=hx (i+1) u (by simpa using hi);rwa [show n+1+i=n+(i+1) by omega]) (fun i u hi=>by have:=hy (i+1) u (by simpa using hi);rwa [show n+1+i=n+(i+1) by omega])
         unfold Op.eqFields
         rw[if_pos h2,h1,pureRun_bind,part_cell h3 (show xs[n]? = some u from hx 0 u rfl)]
         simp only[Option.bind_some]
         rw[pureRun_bind,part_cell h3 (show ys[n]? = some v from hy 0 v rfl)]
         simp only[Option.bind_some]
         rw[pureRun_bind,eqIn_cell e1 e3 d]
         simp only[Option.bind_some]
         cases a with
         |true=>simpa using ih
         |false=>simp
  .cases hf
theorem eqIn_struct{t:TypeId}{fs:Array Field}(ht:P.underlying t=some (.struct fs))(hp:P.stoodInHeld t=false)(d:Nat)(xs ys:Array Value):pureRun P (Op.equalIn (d+1) t (.agg xs) (.agg ys))=pureRun P (Op.eqFields d xs ys fs.toList):=by
 unfold Op.equalIn
 rw[pureRun_bind,pureRun_underlying ht]
 simp only[Option.bind_some,pureRun_bind,pureRun_program,hp,Bool.false_eq_true,if_false]
 rw[←Array.forIn_toList]
 generalize fs.toList=l
 clear ht
 induction l with
 |nil=>simp[Op.eqFields]
 |cons f fs ih=>
  simp only[List.forIn_cons,Op.eqFields]
  split
  .simp only[pureRun_bind]
   cases pureRun P (part f.type xs f.offset) with
   |none=>rfl
   |some a=>
    simp only[Option.bind_some,pureRun_bind]
    cases pureRun P (part f.type ys f.offset) with
    |none=>rfl
    |some b=>
     simp only[Option.bind_some,pureRun_bind]
     cases pureRun P (Op.equalIn d f.type a b) with
     |none=>rfl
     |some r=>
      cases r
      .simp
      .simpa using ih
  .simpa using ih
theorem eqs_sound{o:Oper}{b:BinOp}{t yt:TypeId}{x y:Operand}(ho:o.op=.binOp b t x y yt){ρ:Operand->AV}{ks:List Nat}(hk:eqS P t=some ks){r:AV}{neg:Bool}(hb:b=if neg then .neq else .eql)(h:eqsM realA neg ks (ρ x) (ρ y)=some r):binA P o b t x y ρ=AM.ret r:=by
 unfold eqsM at h
 split at h
 .rename_i xs ys ex ey
  cases e:eqL realA ks xs ys with
  |none=>rw[e]at h;cases h
  |some c=>
   rw[e]at h
   obtain⟨us,vs,h1,h2,h3⟩:=eqL_some e
   unfold eqS at hk
   split at hk
   .rename_i fs hu
    split at hk
    .rename_i hc
     simp only[Bool.and_eq_true,Bool.not_eq_true']at hc
     have key:pureRun P (Op.equalIn 10000 t (.agg us.toArray) (.agg vs.toArray))=some c:=by
      rw[eqIn_struct hu hc.1 9999]
      exact eqFields_run 9998 fs.toList 0 hk h3 (fun i u hi=>by rw[Nat.zero_add];simpa using hi) (fun i u hi=>by rw[Nat.zero_add];simpa using hi)
     have g:genA P o ρ=some (ofVal (.bool (if neg then !c else c))):=by
      refine genA_bin' ho (u:=.agg us.toArray) (v:=.agg vs.toArray) (by rw[ex];simp only[AV.toVal,h1]) (by rw[ey];simp only[AV.toVal,h2]) ?_
      have g1:pureRun P (eqGuard b t x y (.agg us.toArray) (.agg vs.toArray))=some ():=by
       unfold eqGuard
       rw[hb]
       cases neg<;>simp[hc.2]
      rw[pureRun_bind,g1]
      simp only[Option.bind_some]
      rw[hb]
      cases neg
      .show pureRun P (binOp .eql t (.agg us.toArray) (.agg vs.toArray))=_
       have:binOp .eql t (.agg us.toArray) (.agg vs.toArray)=(do let r ←Op.equalIn 10000 t (.agg us.toArray) (.agg vs.toArray);pure (.bool r)):=rfl
       rw[this,pureRun_bind,key];rfl
      .show pureRun P (binOp .neq t (.agg us.toArray) (.agg vs.toArray))=_
       have:binOp .neq t (.agg us.toArray) (.agg vs.toArray)=(do let r ←Op.equalIn 10000 t (.agg us.toArray) (.agg vs.toArray);pure (.bool !r)):=rfl
       rw[this,pureRun_bind,key];rfl
     unfold binA
     rw[if_neg (by rw[ex,ey];simp[nilNe]),g]
     cases neg<;>(simp only[Option.some.injEq]at h;rw[←h];rfl)
    .cases hk
   .cases hk
 .cases h
theorem cmp_sound{o:Oper}{b:BinOp}{t yt:TypeId}{x y:Operand}(ho:o.op=.binOp b t x y yt){ρ:Operand->AV}{r:AV}(h:cmpM realA (kindT P t) b (ρ x) (ρ y)=some r):binA P o b t x y ρ=AM.ret r:=by
 unfold cmpM at h
 split at h
 .obtain⟨h1,h2⟩:=bin_sound (P:=P) ho h
  unfold binA
  rw[if_neg (by rw[h2];simp),h1]
  rfl
 .rename_i hk
  cases e:eqM realA (kindT P t) (ρ x) (ρ y) with
  |none=>rw[e]at h;cases h
  |some c=>
   rw[e]at h
   simp only[Option.map_some,Option.some.injEq]at h
   subst h
   rw[eq_sound ho rfl e (.inl rfl)]
   rfl
 .cases e:eqM realA (kindT P t) (ρ x) (ρ y) with
  |none=>rw[e]at h;cases h
  |some c=>
   rw[e]at h
   simp only[Option.map_some,Option.some.injEq]at h
   subst h
   rw[eq_sound ho rfl e (.inr rfl)]
   rfl
 .cases h
end
end Go.Proofs.YtpncilciembjdaaGreatDoor
namespace Go.Proofs.YtpncilciembjdaaGreatDoor
open Go.RowKit

def Le{α:Type}(m m':AM α):Prop:=∀ H r,m H=some r->m' H=some r
section
variable {α β:Type}
theorem Le.refl(m:AM α):Le m m:=fun _ _ h=>h
theorem Le.fail(m:AM α):Le AM.fail m:=fun _ _ h=>by cases h
theorem Le.bind{m m':AM α}{f f':α->AM β}(h:Le m m')(k:∀ a,Le (f a) (f' a)):Le (m.bind f) (m'.bind f'):=fun H r e=>by
 unfold AM.bind at e ⊢
 rcases e1:m H with _|⟨a,H1,f1⟩<;>rw[e1]at e
 .cases e
 simp only at e
 rcases e2:f a H1 with _|⟨b,H2,f2⟩<;>rw[e2]at e
 .cases e
 simp only at e
 rw[h H _ e1]
 simp only
 rw[k a H1 _ e2]
 exact e
theorem Le.opt{o o':Option α}(h:∀ a,o=some a->o'=some a):Le (AM.opt o) (AM.opt o'):=fun H r e=>by
 cases o with
 |none=>cases e
 |some a=>rw[h a rfl];exact e
theorem Le.ret{o:Option α}{m:AM α}(h:∀ a,o=some a->m=AM.ret a):Le (AM.opt o) m:=fun H r e=>by
 cases o with
 |none=>cases e
 |some a=>rw[h a rfl];exact e
theorem Le.trans{m m1 m2:AM α}(h:Le m m1)(k:Le m1 m2):Le m m2:=fun H r e=>k H r (h H r e)
end
section
variable {P:Program}
theorem lenR_eq:∀ xs,lenR xs=xs.length
 |[]=>rfl
 |x::r=>by simp[lenR,lenR_eq r]
theorem takeR_eq:∀ xs n,takeR xs n=xs.take n
 |[],_=>by simp[takeR]
 |x::r,0=>by simp[takeR]
 |x::r,n+1=>by simp[takeR,takeR_eq r n]
theorem dropR_eq:∀ xs n,dropR xs n=xs.drop n
 |[],_=>by simp[dropR]
 |x::r,0=>by simp[dropR]
 |x::r,n+1=>by simp[dropR,dropR_eq r n]
theorem catR_eq:∀ xs,catR xs=xs.flatten
 |[]=>rfl
 |x::r=>by simp[catR,catR_eq r]
theorem oneL_eq:∀ xs,oneL xs=xs.all AV.one
 |[]=>rfl
 |x::r=>by simp[oneL,oneL_eq r]
theorem beqN(a b:Nat):Nat.beq a b=(a == b):=Bool.eq_iff_iff.2 (by simp)
theorem wideR_eq(e:Nat):∀ xs,wideR e xs=xs.all fun cs=>cs.length == e
 |[]=>rfl
 |x::r=>by simp[wideR,wideR_eq e r,beqN]
theorem opsM_eq(T:List AV):∀ l,opsM T l=l.map (opdA T)
 |[]=>rfl
 |x::r=>by simp[opsM,opsM_eq T r]
theorem pairM_eq(T:List AV):∀ l,pairM T l=l.map fun p=>(p.1,opdA T p.2)
 |[]=>rfl
 |(i,x)::r=>by simp[pairM,pairM_eq T r]
theorem le_load{t:TypeId}{row:Bool}{n:Nat}(h1:isRowT P t=some row)(h2:row=true->szT P t=some n)(a:AV):Le (loadM row n a) (loadA P t a):=by
 unfold loadM loadA
 rw[h1]
 cases row with
 |true=>rw[h2 rfl];exact Le.refl _
 |false=>exact Le.refl _
theorem le_store{t:TypeId}{n:Nat}(h:szT P t=some n)(a x:AV):Le (storeM n a x) (storeA P t a x):=by
 unfold storeM storeA
 rw[h]
 cases a<;>exact Le.refl _
theorem part_eq{t:TypeId}{row:Bool}{n:Nat}(h1:isRowT P t=some row)(h2:row=true->szT P t=some n)(cs:List AV)(off:Nat):partM row off n cs=partA P t cs off:=by
 unfold partM partA
 rw[h1]
 cases row with
 |true=>rw[h2 rfl]
 |false=>rfl
theorem iaddr_le{t et:TypeId}{e:Nat}(h1:elemT P t=some et)(h2:szT P et=some e){x ix r:AV}(h:iaddrM e x ix=some r):indexAddrA P t x ix=some r:=by
 unfold iaddrM at h
 unfold indexAddrA
 rw[h1]
 cases e1:ix.idx with
 |none=>rw[e1]at h;cases h
 |some i=>
  rw[e1]at h
  simp only at h
  cases x<;>try (cases h)
  .rename_i b o n e'
   simp only at h ⊢
   split at h
   .rename_i hlt
    split at h
    .rename_i he
     subst he
     have:i+1<=n:=by simpa[Nat.blt]using hlt
     have:i<n:=by omega
     rw[if_pos ⟨this,h2⟩];exact h
    .cases h
   .cases h
  .rename_i xs
   simp only[nthR_eq]at h ⊢
   cases e2:xs[i]? with
   |none=>rw[e2]at h;cases h
   |some cs=>
    rw[e2]at h
    simp only at h ⊢
    split at h
    .rename_i hb
     have:cs.length=e:=by simpa using hb
     rw[if_pos (by rw[h2,this])];exact h
    .cases h
theorem slice_le{t et:TypeId}{e:Nat}(h1:elemT P t=some et)(h2:szT P et=some e){x r:AV}{lo hi:Option AV}(h:sliceM e x lo hi=some r):sliceA P t x lo hi=some r:=by
 have om:∀ n o,optM n o=optIdx n o:=fun n o=>by cases o<;>rfl
 unfold sliceM at h
 unfold sliceA
 rw[h1]
 simp only[om,lenR_eq,takeR_eq,dropR_eq,wideR_eq]at h
 cases x<;>try (cases h)
 .rename_i b o n e'
  simp only at h ⊢
  split at h
  .rename_i l hh e1 e2
   rw[e1,e2]
   simp only
   split at h
   .rename_i c1 c2 c3
    have c3':e'=e:=by simpa using c3
    subst c3'
    rw[if_pos ⟨by simpa using c1,by simpa using c2,h2⟩]
    exact h
   .cases h
  .cases h
 .rename_i xs
  simp only at h ⊢
  split at h
  .rename_i l hh e1 e2
   rw[e1,e2]
   simp only
   split at h
   .rename_i c1 c2 c3
    have c4:(xs.all fun cs=>szT P et == some cs.length)=true:=List.all_eq_true.2 fun cs hcs=>by
     have:=List.all_eq_true.1 c3 cs hcs
     rw[h2]
     simp at this ⊢
     exact this.symm
    rw[if_pos ⟨by simpa using c1,by simpa using c2,by rw[h2];rfl,c4⟩]
    exact h
   .cases h
  .cases h
theorem le_news(e:Nat)(x:AV):Le (newsM e x) (newsA e x):=by
 unfold newsM newsA
 split
 .dsimp only
  split
  .refine Le.bind (Le.refl _) fun k=>?_
   split
   .rename_i c1 c2
    rw[if_pos ⟨by simpa using c1,c2⟩]
    exact Le.refl _
   .exact Le.fail _
  .exact Le.fail _
 .simp only[lenR_eq,catR_eq,wideR_eq]
  split
  .rename_i c
   rw[if_pos c]
   exact Le.refl _
  .exact Le.fail _
 .exact Le.refl _
 .exact Le.fail _
theorem elemI_spec{t:TypeId}{e b:Nat}{z:List Value}(h:elemI P t=some (e,z,b)):∃ et i zz,elemT P t=some et/\P.info? et=some i/\zeroT P et=some zz/\i.zero=some zz/\zz.cells.size=i.size/\0<i.size/\e=i.size/\z=zz.cells.toList/\b=i.bytes:=by
 unfold elemI at h
 split at h
 .rename_i et h1
  split at h
  .rename_i i zz h2 h3
   split at h
   .rename_i h4
    simp only[Option.some.injEq,Prod.mk.injEq]at h
    refine⟨et,i,zz,h1,h2,h3,?_,h4.1,h4.2,h.1.symm,h.2.1.symm,h.2.2.symm⟩
    unfold zeroT at h3
    rw[h2]at h3
    simp only at h3
    split at h3
    .split at h3
     .rename_i e5 _;rw[e5];exact h3
     .cases h3
    .cases h3
   .cases h
  .cases h
 .cases h
theorem le_append{t u:TypeId}{e b:Nat}{z:List Value}(h:elemI P t=some (e,z,b))(hu:isSliceT P u=true)(s x:AV):Le (appM e b s x) (appendA P [t,u] s x):=by
 obtain⟨et,i,zz,h1,h2,h3,h4,h5,h6,rfl,_,rfl⟩:=elemI_spec h
 have hn:notInt P u=true:=by
  unfold isSliceT at hu
  unfold notInt
  split at hu
  .rename_i e1;rw[e1]
  .cases hu
 unfold appM appendA
 simp only[h1,hn,h2,h4]
 rw[if_pos (show zz.cells.size=i.size/\0<i.size from ⟨h5,h6⟩)]
 refine Le.bind (le_news _ _) fun r=>?_
 split
 .rename_i c
  rw[if_pos (show r.1=0 by simpa using c)]
  exact Le.refl _
 .rename_i c
  rw[if_neg (show ¬ r.1=0 by intro e;rw[e]at c;simp at c)]
  rw[oneL_eq]
  split
  .exact Le.fail _
  .rename_i c1
   rw[if_pos c1]
   split
   .dsimp only
    split
    .rename_i c2 c3
     rw[if_pos ⟨rfl,by simpa using c2,by simpa using c3⟩]
     exact Le.refl _
    .exact Le.fail _
   .dsimp only
    split
    .rename_i c2 c3 c4
     rw[if_pos ⟨by simpa using c2,by simpa using c3,by simpa using c4⟩]
     have c2':=Nat.eq_of_beq_eq_true c2
     subst c2'
     refine Le.bind (Le.refl _) fun k=>?_
     split
     .rename_i d1 d2 d3
      have d3':=Nat.eq_of_beq_eq_true d3
      rw[if_pos ⟨d1,by omega,.inl d2⟩,if_pos d2,d2]
      exact Le.refl _
     .rename_i d1 d2 d3
      have d3':=Nat.eq_of_beq_eq_true d3
      rw[if_pos ⟨d1,by omega,.inr d3'⟩,if_neg (by rw[d2];simp),d2]
      exact Le.refl _
     .rename_i d1 d2 d3
      split
      .rename_i d4
       rw[if_pos ⟨d1,by simpa using d4,.inl d2⟩,if_pos d2,d2]
       exact Le.refl _
      .exact Le.fail _
     .exact Le.fail _
    .exact Le.fail _
   .exact Le.fail _
theorem le_mksl{t:TypeId}{e b:Nat}{z:List Value}(h:elemI P t=some (e,z,b))(l c:AV):Le (mkslM z e b l c) (makeSliceA P t l c):=by
 obtain⟨et,i,zz,h1,h2,h3,h4,h5,h6,rfl,rfl,rfl⟩:=elemI_spec h
 unfold mkslM makeSliceA
 rw[h1]
 split
 .rename_i n m e1 e2
  rw[e1,e2]
  dsimp only
  rw[h2,h3]
  dsimp only
  split
  .rename_i c1 c2 c3
   rw[if_pos ⟨by simpa using c1,by simpa using c2,by simpa using c3,h5,h6⟩]
   exact Le.refl _
  .exact Le.fail _
 .exact Le.fail _
theorem le_copy{t u et:TypeId}{e:Nat}(h1:elemT P t=some et)(h2:szT P et=some e)(d x:AV):Le (cpyM e d x) (copyA P [t,u] d x):=by
 unfold cpyM copyA
 simp only[h1]
 split
 .split
  .rename_i c
   have c':=Nat.eq_of_beq_eq_true c
   subst c'
   dsimp only
   rw[if_pos h2]
   refine Le.bind (le_news _ _) fun r=>?_
   simp only[oneL_eq]
   split
   .rename_i c1
    rw[if_pos c1]
    refine Le.bind (Le.refl _) fun k=>?_
    split
    .rename_i c2 c3
     rw[if_pos ⟨c2,by simpa using c3⟩]
     exact Le.refl _
    .exact Le.fail _
   .exact Le.fail _
  .exact Le.fail _
 .exact Le.fail _
theorem le_clear{t et:TypeId}{e:Nat}{z:Value}(h1:elemT P t=some et)(h2:szT P et=some e)(h3:zeroT P et=some z)(h4:z.cells.size=e/\0<e/\(z.cells.toList.map AV.v).all AV.one=true)(x:AV):Le (clrM z.cells.toList e x) (clearA P [t] x):=by
 unfold clrM clearA
 simp only[h1]
 cases x with
 |sl b o n e'=>
  simp only[h3]
  split
  .rename_i c
   have c':=Nat.eq_of_beq_eq_true c
   subst c'
   rw[if_pos ⟨h2,h4⟩]
   refine Le.bind (Le.refl _) fun k=>?_
   split
   .rename_i c2 c3
    rw[if_pos ⟨c2,by simpa using c3⟩]
    exact Le.refl _
   .exact Le.fail _
  .exact Le.fail _
 |_=>exact Le.fail _
theorem genA_call1{o:Oper}{c:Call}{b:Builtin}{x:Operand}(ho:o.op=.call c)(hc:c.callee=.builtin b)(ha:c.args.toList=[x]){ρ:Operand->AV}{u z:Value}(hx:ρ x=.v u)
  (h:∀ cs,pureRun P (builtin b c.argTypes o.type cs #[u])=some (.value z)):genA P o ρ=some (ofVal z):=by
 have e1:valOf ρ x=u:=by unfold valOf;rw[hx];rfl
 have ha':c.args=#[x]:=by rw[←Array.toArray_toList (xs:=c.args),ha]
 have cc:(notSelect o.op&&o.op.operands.toList.all fun x=>(ρ x).toVal.isSome)=true:=by
  rw[ho]
  simp[notSelect,Op.operands,Call.operands,hc,ha',hx,AV.toVal]
 unfold genA
 rw[if_pos cc]
 have:pureRun P (execOp (valOf ρ) o)=some (.value z):=by
  unfold execOp
  rw[ho]
  simp only[resolve,hc,ha',pureRun_bind,pureRun_pure,Option.bind_some,invoke]
  have e3:#[x].map (valOf ρ)=#[u]:=by simp[e1]
  rw[e3]
  exact h _
 rw[this]
 rfl
theorem genA_call2{o:Oper}{c:Call}{b:Builtin}{x y:Operand}(ho:o.op=.call c)(hc:c.callee=.builtin b)(ha:c.args.toList=[x,y]){ρ:Operand->AV}{u v z:Value}(hx:ρ x=.v u)(hy:ρ y=.v v)
  (h:∀ cs,pureRun P (builtin b c.argTypes o.type cs #[u,v])=some (.value z)):genA P o ρ=some (ofVal z):=by
 have e1:valOf ρ x=u:=by unfold valOf;rw[hx];rfl
 have e2:valOf ρ y=v:=by unfold valOf;rw[hy];rfl
 have ha':c.args=#[x,y]:=by rw[←Array.toArray_toList (xs:=c.args),ha]
 have cc:(notSelect o.op&&o.op.operands.toList.all fun x=>(ρ x).toVal.isSome)=true:=by
  rw[ho]
  simp[notSelect,Op.operands,Call.operands,hc,ha',hx,hy,AV.toVal]
 unfold genA
 rw[if_pos cc]
 have:pureRun P (execOp (valOf ρ) o)=some (.value z):=by
  unfold execOp
  rw[ho]
  simp only[resolve,hc,ha',pureRun_bind,pureRun_pure,Option.bind_some,invoke]
  have e3:#[x,y].map (valOf ρ)=#[u,v]:=by simp[e1,e2]
  rw[e3]
  exact h _
 rw[this]
 rfl
def EntOk(P:Program)(ents:Nat):Prop:=∀ g,ents.testBit g=true->enterable P g=true
theorem le_build{t:TypeId}{zz:Value}(hz:zeroT P t=some zz)(T:List AV)(ps:List (Nat × Operand)) :
  (∀{fs:Array Field} {pl:List (Nat × Nat)},fieldsT P t=some fs->placesT P fs.toList=some pl->buildM (pl[·]?) zz.cells.toList (pairM T ps)=buildA P t (ps.map fun p=>(p.1,opdA T p.2))) ∧
  (∀{et:TypeId} {e:Nat},fieldsT P t=none->arrET P t=some et->szT P et=some e->buildM (fun i=>some (i*e,e)) zz.cells.toList (pairM T ps)=buildA P t (ps.map fun p=>(p.1,opdA T p.2))):=by
 refine⟨fun h1 h2=>?_,fun h1 h2 h3=>?_⟩
 .unfold buildM buildA
  rw[h1,pairM_eq]
  unfold buildSA
  rw[hz,h1]
  simp only[h2]
 .unfold buildM buildA
  rw[h1,pairM_eq]
  unfold buildRA
  rw[hz,h2]
  simp only[h3]
theorem le_buildSl{t et:TypeId}{e:Nat}{zz:Value}(h1:elemT P t=some et)(h2:szT P et=some e)(h3:zeroT P et=some zz)(n:Nat)(T:List AV)(ps:List (Nat × Operand)) :
  buildSlM zz.cells.toList e n (pairM T ps)=buildSliceA P t n (ps.map fun p=>(p.1,opdA T p.2)):=by
 unfold buildSlM buildSliceA
 rw[h1]
 simp only[h2,h3,pairM_eq]
 rfl
theorem le_len{o:Oper}{c:Call}{x:Operand}{t:TypeId}{sl:Bool}(ho:o.op=.call c)(hc:c.callee=.builtin .len)(ha:c.args.toList=[x])(ht:c.argTypes.toList=[t])
  (hs:if sl=true then isSliceT P t=true else isSliceT P t=false/\isStringT P t=true) (ρ:Operand->AV) :
  Le (AM.opt (lenM realA sl (ρ x))) (if isSliceT P t=true then(match lenA (ρ x) with
     |some r=>AM.ret r
     |none=>AM.opt (genA P o ρ)) else AM.opt (genA P o ρ)):=by
 have ht':c.argTypes=#[t]:=by rw[←Array.toArray_toList (xs:=c.argTypes),ht]
 refine Le.ret fun r h=>?_
 unfold lenM at h
 cases sl with
 |true=>
  rw[if_pos rfl]at hs
  rw[if_pos hs]
  simp only at h
  split at h<;>simp only[Option.some.injEq,reduceCtorEq]at h<;>subst h
  .rename_i e;rw[e];rfl
  .rename_i e;rw[e,lenR_eq];rfl
  .rename_i e
   have hu:∃ et,P.underlying t=some (.slice et):=by
    unfold isSliceT at hs
    split at hs
    .exact⟨_,‹_›⟩
    .cases hs
   obtain⟨et,hu⟩:=hu
   have hg:genA P o ρ=some (ofVal (.int .i64 0)):=genA_call1 ho hc ha e fun cs=>by
    rw[ht']
    simp only[builtin,Builtin.len_,pureRun_bind]
    simp[pureRun_underlying hu,goInt]
   rw[e,hg]
   rfl
 |false=>
  rw[if_neg (by simp)]at hs
  rw[if_neg (by rw[hs.1];simp)]
  simp only at h
  split at h<;>simp only[Option.some.injEq,reduceCtorEq]at h
  subst h
  rename_i s e
  have hu:P.underlying t=some .string:=by
   have:=hs.2
   unfold isStringT at this
   split at this
   .assumption
   .cases this
  have hg:genA P o ρ=some (ofVal (.int .i64 s.size)):=genA_call1 ho hc ha e fun cs=>by
   rw[ht']
   simp only[builtin,Builtin.len_,pureRun_bind]
   simp[pureRun_underlying hu,goInt]
  rw[hg]
  rfl
theorem le_big{o:Oper}{c:Call}{x y:Operand}{b:Builtin}(ho:o.op=.call c)(hc:c.callee=.builtin b)(ha:c.args.toList=[x,y])(ρ:Operand->AV){f:Int->Int->Int}
  (hb:(b=.max/\f=realA.max)\/(b=.min/\f=realA.min)):Le (AM.opt (bigM f (ρ x) (ρ y))) (AM.opt (genA P o ρ)):=by
 refine Le.opt fun r h=>?_
 unfold bigM at h
 split at h
 .rename_i k a k' d hx hy
  split at h
  .rename_i hk
   subst hk
   simp only[Option.some.injEq]at h
   subst h
   rcases hb with⟨rfl,rfl⟩|⟨rfl,rfl⟩
   .exact genA_call2 (z:=.int k (realA.max a d)) ho hc ha hx hy fun cs=>by
     simp[builtin,Builtin.max_,Builtin.max2,realA,realA0,Ar.max]
   .exact genA_call2 (z:=.int k (realA.min a d)) ho hc ha hx hy fun cs=>by
     simp[builtin,Builtin.min_,Builtin.min2,realA,realA0,Ar.min]
  .cases h
 .cases h
end
end Go.Proofs.YtpncilciembjdaaGreatDoor
namespace Go.Proofs.YtpncilciembjdaaGreatDoor
open Go.RowKit

section
variable {P:Program} {Γ:FuncId->List AV->AM AV} {ents:Nat}
theorem idx_v{x:AV}{i:Nat}(h:x.idx=some i):∃ k,x=.v (.int k (.ofNat i)):=by
 unfold AV.idx at h
 split at h
 .simp only[Option.some.injEq]at h
  subst h
  exact⟨_,rfl⟩
 .cases h
theorem pureRun_bound{k:IntKind}{i n:Nat}(h:i<=n)(c:BoundsCode):pureRun P (Instr.sliceBound (.int k (.ofNat i)) n c)=some i:=by
 unfold Instr.sliceBound asIntOf
 rw[pureRun_bind]
 simp only[pureRun_pure,Option.bind_some]
 rw[if_pos ⟨by simp,by simpa using h⟩]
 rfl
theorem sslice_sound{o:Oper}{t:TypeId}{x:Operand}{lo hi:Option Operand}(ho:o.op=.slice t x lo hi none)(ht:P.underlying t=some .string){ρ:Operand->AV}{r:AV}(h:ssliceM realA (ρ x) (lo.map ρ) (hi.map ρ)=some r):genA P o ρ=some r:=by
 unfold ssliceM at h
 split at h
 .rename_i s es
  split at h
  .rename_i l hh e1 e2
   split at h
   .rename_i c1 c2
    simp only[Option.some.injEq]at h
    subst h
    have c1:l<=hh:=by simpa using c1
    have c2:hh<=s.size:=by
     have:Nat.ble hh s.size=true:=c2
     simpa using this
    have hlo:(lo=none/\l=0)\/∃ y k,lo=some y/\ρ y=.v (.int k (.ofNat l)):=by
     cases lo with
     |none=>simp only[Option.map_none,optM,Option.some.injEq]at e1;exact .inl ⟨rfl,e1.symm⟩
     |some y=>
      simp only[Option.map_some,optM]at e1
      obtain⟨k,hk⟩  :=idx_v e1
      exact .inr ⟨y,k,rfl,hk⟩
    have hhi:(hi=none/\hh=s.size)\/∃ y k,hi=some y/\ρ y=.v (.int k (.ofNat hh)):=by
     cases hi with
     |none=>
      simp only[Option.map_none,optM,Option.some.injEq]at e2
      exact .inl ⟨rfl,e2.symm⟩
     |some y=>
      simp only[Option.map_some,optM]at e2
      obtain⟨k,hk⟩  :=idx_v e2
      exact .inr ⟨y,k,rfl,hk⟩
    have hb:pureRun P (Instr.sliceBounds false s.size s.size (lo.map (valOf ρ)) (hi.map (valOf ρ)) none)=some (l,hh,s.size):=by
     rcases hlo with⟨rfl,rfl⟩|⟨y,k,rfl,hy⟩<;>rcases hhi with⟨rfl,rfl⟩|⟨z,k',rfl,hz⟩
     .rfl
     .simp only[Option.map_none,Option.map_some,valOf_v hz,Instr.sliceBounds,pureRun_bind,pureRun_pure,Option.bind_some,pureRun_bound c2]
     .simp only[Option.map_none,Option.map_some,valOf_v hy,Instr.sliceBounds,pureRun_bind,pureRun_pure,Option.bind_some,pureRun_bound c1]
     .simp only[Option.map_some,valOf_v hy,valOf_v hz,Instr.sliceBounds,pureRun_bind,pureRun_pure,Option.bind_some,pureRun_bound c1,pureRun_bound c2]
    refine genA_exec (z:=.string (s.extract l hh)) (by rw[ho];rfl) ?_ ?_
    .rw[ho]
     rcases hlo with⟨rfl,_⟩|⟨y,k,rfl,hy⟩<;>rcases hhi with⟨rfl,_⟩|⟨z,k',rfl,hz⟩<;>simp_all [Op.operands,AV.toVal]
    .unfold execOp
     rw[ho]
     show pureRun P (Instr.sliceAt t (valOf ρ x) (lo.map (valOf ρ)) (hi.map (valOf ρ)) none >>= fun y=>pure (Next.value y))=_
     rw[pureRun_bind,valOf_v es]
     have:pureRun P (Instr.sliceAt t (.string s) (lo.map (valOf ρ)) (hi.map (valOf ρ)) none)=some (.string (s.extract l hh)):=by
      unfold Instr.sliceAt
      rw[pureRun_bind,pureRun_underlying ht]
      simp only[Option.bind_some]
      unfold Instr.slice
      rw[pureRun_bind,pureRun_underlying ht]
      simp only[Option.bind_some,Option.isSome_none,Bool.false_eq_true,if_false]
      rw[pureRun_bind,hb]
      rfl
     rw[this]
     rfl
   .cases h
  .cases h
 .cases h
theorem sidx_sound{o:Oper}{t:TypeId}{x i:Operand}(ho:o.op=.index t x i)(ht:P.underlying t=some .string){ρ:Operand->AV}{r:AV}(h:sidxM realA (ρ x) (ρ i)=some r):genA P o ρ=some r:=by
 unfold sidxM at h
 split at h
 .rename_i s j es ei
  split at h
  .rename_i c1
   simp only[Option.some.injEq]at h
   subst h
   obtain⟨k,hk⟩  :=idx_v ei
   have c1:j<s.size:=by
    have:Nat.blt j s.size=true:=c1
    have:j+1<=s.size:=by simpa[Nat.blt]using this
    omega
   have e1:s[j]? = some (s[j]'c1):=by simp[c1]
   refine genA_exec (z:=.int .u8 (s[j]'c1).toNat) (by rw[ho];rfl) (by rw[ho];simp[Op.operands,es,hk,AV.toVal]) ?_ |>.trans ?_
   .unfold execOp
    rw[ho]
    show pureRun P (Instr.index t (valOf ρ x) (valOf ρ i) >>= fun y=>pure (Next.value y))=_
    rw[pureRun_bind,valOf_v es,valOf_v hk]
    have:pureRun P (Instr.index t (.string s) (.int k (.ofNat j)))=some (.int .u8 (s[j]'c1).toNat):=by
     unfold Instr.index asIntOf
     rw[pureRun_bind]
     simp only[pureRun_pure,Option.bind_some]
     rw[pureRun_bind,pureRun_underlying ht]
     simp only[Option.bind_some]
     have:(if 0<=(Int.ofNat j) then s[(Int.ofNat j).toNat]? else none)=some (s[j]'c1):=by
      rw[if_pos (by simp)]
      exact e1
     rw[this]
     rfl
    rw[this]
    rfl
   .have:realA.sat s j=Int.ofNat (s[j]'c1).toNat:=by
     show (match s[j]? with
      |some c=>Int.ofNat c.toNat
      |none=>0)=_
     rw[e1]
    rw[this]
    rfl
  .cases h
 .cases h
theorem conv_sound{o:Oper}{s d:TypeId}{x:Operand}(ho:o.op=.convert s d x){k k0:IntKind}(hs:P.underlying s=some (.int k0))(hd:P.underlying d=some (.int k)){ρ:Operand->AV}{r:AV}(h:convM realA k (ρ x)=some r):genA P o ρ=some r:=by
 unfold convM at h
 split at h
 .rename_i k1 n e
  simp only[Option.some.injEq]at h
  subst h
  refine genA_exec (z:=.int k (k.wrap n)) (by rw[ho];rfl) (by rw[ho];simp[Op.operands,e,AV.toVal]) ?_
  unfold execOp
  rw[ho]
  show pureRun P (convert s d (valOf ρ x) >>= fun y=>pure (Next.value y))=_
  rw[pureRun_bind,valOf_v e]
  have:pureRun P (convert s d (.int k1 n))=some (.int k (k.wrap n)):=by
   unfold convert
   rw[pureRun_bind,pureRun_underlying hs]
   simp only[Option.bind_some]
   rw[pureRun_bind,pureRun_underlying hd]
   rfl
  rw[this]
  rfl
 .cases h
theorem mop_aop(hE:EntOk P ents)(o:Oper)(T:List AV):Le (mop realA Γ (compOp P ents o.op) T) (aop P Γ o (opdA T)):=by
 unfold aop
 cases ho:o.op<;>simp only[compOp]
 case move x=>exact Le.refl _
 case assign x=>exact Le.refl _
 case pick c a b=>
  simp only[mop]
  split
  .rename_i t e
   rw[e]
   cases t<;>exact Le.refl _
  .exact Le.fail _
 case alloc t=>
  unfold allocA
  cases e:zeroT P t with
  |none=>exact Le.fail _
  |some z=>exact Le.refl _
 case box t x=>exact Le.refl _
 case build t ps=>
  cases e:zeroT P t with
  |none=>exact Le.fail _
  |some z=>
   obtain⟨k1,k2⟩:=le_build e T ps.toList
   cases e1:fieldsT P t with
   |some fs=>
    simp only
    cases e2:placesT P fs.toList with
    |none=>exact Le.fail _
    |some pl=>
     simp only[mop]
     rw[k1 e1 e2]
     exact Le.refl _
   |none=>
    simp only
    cases e2:arrET P t with
    |none=>exact Le.fail _
    |some et=>
     simp only
     cases e3:szT P et with
     |none=>exact Le.fail _
     |some s=>
      simp only[mop]
      rw[k2 e1 e2 e3]
      exact Le.refl _
 case buildSlice t n ps=>
  cases e:elemT P t with
  |none=>exact Le.fail _
  |some et=>
   simp only
   cases e2:szT P et with
   |none=>exact Le.fail _
   |some s=>
    cases e3:zeroT P et with
    |none=>exact Le.fail _
    |some z=>
     simp only[mop]
     rw[le_buildSl e e2 e3]
     exact Le.refl _
 case load t a=>
  cases e:isRowT P t with
  |none=>exact Le.fail _
  |some b=>
   cases b with
   |true=>
    cases e2:szT P t with
    |none=>exact Le.fail _
    |some n=>exact le_load e (fun _=>e2) _
   |false=>exact le_load (n:=0) e (fun h=>by cases h) _
 case store t a x=>
  cases e:szT P t with
  |none=>exact Le.fail _
  |some n=>exact le_store e _ _
 case nilCheck x=>
  simp only[mop]
  split<;>first
   |exact Le.fail _
   |(rename_i e;rw[e];exact Le.refl _)
 case binOp b t x y yt=>
  split
  .rename_i ks hk
   split
   .exact Le.ret fun r h=>eqs_sound ho hk (neg:=false) rfl h
   .exact Le.ret fun r h=>eqs_sound ho hk (neg:=true) rfl h
   .exact Le.fail _
  .split
   .exact Le.fail _
   .rename_i k hk
    exact Le.ret fun r h=>cmp_sound ho h
 case unOp u t x=>
  cases u<;>simp only<;>try exact Le.fail _
  case not=>
   exact Le.opt fun r h=>by
    unfold notM at h
    split at h
    .rename_i c e
     simp only[Option.some.injEq]at h
     subst h
     rw[genA_not ho e]
     rfl
    .cases h
  case neg=>
   exact Le.opt fun r h=>by
    unfold negM at h
    split at h
    .rename_i k n e
     simp only[Option.some.injEq]at h
     subst h
     rw[genA_neg ho e]
    .cases h
 case makeFunc f a c=>
  simp only[mop,opsM_eq]
  exact Le.refl _
 case slice t x lo hi mx=>
  cases mx with
  |some m=>exact Le.fail _
  |none=>
   simp only
   cases e:elemT P t with
   |none=>
    simp only
    split
    .rename_i hst
     refine Le.ret fun r h=>?_
     have ht:P.underlying t=some .string:=by
      unfold isStringT at hst
      split at hst
      .assumption
      .cases hst
     have hn:sliceA P t (opdA T x) (lo.map (opdA T)) (hi.map (opdA T))=none:=by
      unfold sliceA
      rw[e]
      split<;>rename_i q<;>first|cases q|rfl
     rw[hn]
     simp only
     rw[sslice_sound ho ht h]
     rfl
    .exact Le.fail _
   |some et=>
    simp only
    cases e2:szT P et with
    |none=>exact Le.fail _
    |some s=>
     refine Le.ret fun r h=>?_
     rw[slice_le e e2 h]
 case fieldAddr t a f=>
  cases e:fieldsT P t with
  |none=>exact Le.fail _
  |some fs=>
   simp only
   cases e2:fs[f]? with
   |none=>exact Le.fail _
   |some fd=>
    simp only
    split
    .rename_i n e3
     refine Le.opt fun r h=>?_
     unfold fieldAddrA
     rw[e]
     simp only[e2,e3]
     exact h
    .exact Le.fail _
 case field t x f=>
  cases e:fieldsT P t with
  |none=>exact Le.fail _
  |some fs=>
   simp only
   cases e2:fs[f]? with
   |none=>exact Le.fail _
   |some fd=>
    simp only
    have key:∀{row:Bool} {n:Nat},isRowT P fd.type=some row->(row=true->szT P fd.type=some n)->Le (AM.opt (fieldM row fd.offset n (opdA T x))) (AM.opt (fieldA P t (opdA T x) f)):=fun h1 h2=>by
     refine Le.opt fun r h=>?_
     unfold fieldM at h
     unfold fieldA
     rw[e]
     split at h
     .rename_i cs ex
      rw[←h,part_eq h1 h2]
      simp only[ex,e2]
     .cases h
    cases e3:isRowT P fd.type with
    |none=>exact Le.fail _
    |some b=>
     cases b with
     |true=>
      cases e4:szT P fd.type with
      |none=>exact Le.fail _
      |some n=>exact key e3 fun _=>e4
     |false=>exact key e3 fun h=>by cases h
 case indexAddr t x i=>
  cases e:elemT P t with
  |some et=>
   simp only
   cases e2:szT P et with
   |none=>exact Le.fail _
   |some s=>
    refine Le.ret fun r h=>?_
    rw[iaddr_le e e2 h]
  |none=>
   have e0:indexAddrA P t (opdA T x) (opdA T i)=none:=by
    unfold indexAddrA
    rw[e]
    split<;>first|rfl|simp_all
   cases e1:arrT P t with
   |none=>exact Le.fail _
   |some ne=>
    obtain⟨n,et⟩:=ne
    simp only
    cases e2:szT P et with
    |none=>exact Le.fail _
    |some s=>
     simp only[mop]
     rw[e0]
     refine Le.opt fun r h=>?_
     unfold aaddrM at h
     unfold arrAddrA
     rw[e1]
     split at h
     .rename_i j ej
      rw[ej]
      simp only[e2]
      split at h
      .rename_i hlt
       have:j+1<=n:=by simpa[Nat.blt]using hlt
       rw[if_pos (by omega)];exact h
      .cases h
     .cases h
 case index t x i=>
  cases e1:arrT P t with
  |none=>
   simp only
   split
   .rename_i hst
    refine Le.ret fun r h=>?_
    have ht:P.underlying t=some .string:=by
     unfold isStringT at hst
     split at hst
     .assumption
     .cases hst
    have hn:indexA P t (opdA T x) (opdA T i)=none:=by
     unfold indexA
     rw[e1]
     split
     .rename_i q _
      cases q
     .rfl
    rw[hn]
    simp only
    rw[sidx_sound ho ht h]
    rfl
   .exact Le.fail _
  |some ne=>
   obtain⟨n,et⟩:=ne
   show Le (mop realA Γ (match szT P et,isRowT P et with
    |some e,some true=>MO.index n e true e x i
    |some e,some false=>MO.index n e false 0 x i
    |_,_=>MO.bad) T) _
   have key:∀{row:Bool} {s m:Nat},isRowT P et=some row->szT P et=some s->(row=true->m=s)->Le (AM.opt (indexM n s row m (opdA T x) (opdA T i))) (match indexA P t (opdA T x) (opdA T i) with
     |some r=>AM.ret r
     |none=>AM.opt (genA P o (opdA T))):=fun {row s m} h1 h2 h3=>by
    refine Le.ret fun r h=>?_
    have:indexA P t (opdA T x) (opdA T i)=some r:=by
     unfold indexM at h
     unfold indexA
     rw[e1]
     split at h
     .rename_i cs j ej1 ej2
      simp only[ej1,ej2,h2]
      split at h
      .rename_i hlt
       have:j+1<=n:=by simpa[Nat.blt]using hlt
       rw[if_pos (by omega),←part_eq (n:=m) h1 (fun hr=>by rw[h3 hr];exact h2)];exact h
      .cases h
     .cases h
    rw[this]
   cases e2:szT P et with
   |none=>exact Le.fail _
   |some s=>
    cases e3:isRowT P et with
    |none=>exact Le.fail _
    |some b=>
     cases b with
     |true=>exact key e3 e2 fun _=>rfl
     |false=>exact key e3 e2 fun h=>by cases h
 case extract x i=>exact Le.refl _
 case makeSlice t l c=>
  cases e:elemI P t with
  |none=>exact Le.fail _
  |some ezb=>
   obtain⟨s,z,b⟩:=ezb
   exact le_mksl e _ _
 case call c=>
  cases hc:c.callee with
  |invoke=>exact Le.fail _
  |value f=>
   simp only
   cases f with
   |func g=>
    simp only
    split
    .rename_i he
     simp only[mop,opdA,opsM_eq]
     rw[if_pos he]
     simp only[List.nil_append,List.append_nil]
     exact Le.refl _
    .exact Le.fail _
   |tmp t=>
    simp only[mop,opsM_eq]
    split
    .rename_i g a cs e
     rw[e]
     simp only
     split
     .rename_i hb
      rw[if_pos (hE g hb)]
      exact Le.refl _
     .exact Le.fail _
    .exact Le.fail _
   |const v=>
    simp only[mop,opsM_eq]
    split
    .rename_i g a cs e
     rw[e]
     simp only
     split
     .rename_i hb
      rw[if_pos (hE g hb)]
      exact Le.refl _
     .exact Le.fail _
    .exact Le.fail _
   |global v=>
    simp only[mop,opsM_eq]
    split
    .rename_i g a cs e
     rw[e]
     simp only
     split
     .rename_i hb
      rw[if_pos (hE g hb)]
      exact Le.refl _
     .exact Le.fail _
    .exact Le.fail _
  |builtin b=>
   cases b<;>simp only<;>try exact Le.fail _
   .-- append
    split
    .rename_i s x t u ea et
     rw[ea]
     simp only[et]
     split
     .rename_i e b' h1 h2
      exact le_append h1 h2 _ _
     .exact Le.fail _
    .exact Le.fail _
   .-- clear
    split
    .rename_i x t ea et
     rw[ea]
     simp only[et]
     split
     .rename_i ett h1
      split
      .rename_i e z h2 h3
       split
       .rename_i h4
        exact le_clear h1 h2 h3 h4 _
       .exact Le.fail _
      .exact Le.fail _
     .exact Le.fail _
    .exact Le.fail _
   .-- copy
    split
    .rename_i s x t u ea et
     rw[ea]
     simp only[et]
     split
     .rename_i ett h1 h2
      cases e2:szT P ett with
      |none=>exact Le.fail _
      |some s=>exact le_copy h1 e2 _ _
     .exact Le.fail _
    .exact Le.fail _
   .-- len
    split
    .rename_i x t ea et
     rw[ea,et]
     split
     .rename_i h1
      exact le_len ho hc ea et (by rw[if_pos rfl];exact h1) _
     .rename_i h1
      split
      .rename_i h2
       exact le_len ho hc ea et (by rw[if_neg (by simp)];exact⟨by simpa using h1,h2⟩) _
      .exact Le.fail _
    .exact Le.fail _
   .split
    .rename_i x y ea
     exact le_big ho hc ea _ (.inl ⟨rfl,rfl⟩)
    .exact Le.fail _
   .split
    .rename_i x y ea
     exact le_big ho hc ea _ (.inr ⟨rfl,rfl⟩)
    .exact Le.fail _
 case convert s d x=>
  split
  .rename_i k0 k hs hd
   have b1:isBytesT P s=false:=by
    unfold isBytesT elemT
    rw[hs]
   have b2:isStringT P s=false:=by
    unfold isStringT
    rw[hs]
   rw[if_neg (by rw[b1];simp),b2,Bool.false_and]
   refine Le.ret fun r h=>?_
   have:=conv_sound ho hs hd h
   simp only
   rw[this]
   rfl
  .cases b1:isBytesT P s with
   |false=>exact Le.fail _
   |true=>
    cases b2:isStringT P d with
    |false=>exact Le.fail _
    |true=>
     simp only[mop,strM]
     cases b3:isSl (opdA T x) with
     |false=>exact Le.fail _
     |true=>
      rw[if_pos (by first|exact⟨trivial,trivial,rfl⟩|exact⟨trivial,trivial,b3⟩|simp_all)]
      exact Le.bind (le_news _ _) fun _=>Le.refl _
 all_goals exact Le.fail _
end
end Go.Proofs.YtpncilciembjdaaGreatDoor
namespace Go.Proofs.YtpncilciembjdaaGreatDoor
open Go.RowKit

section
variable {A:Ar}
theorem Loc.loadM(row:Bool)(n:Nat)(a:AV):Loc (loadM row n a):=by
 unfold Go.Proofs.YtpncilciembjdaaGreatDoor.loadM
 cases row
 .exact Loc.bind (Loc.rdAt _ _) fun _=>Loc.opt _
 .exact Loc.bind (Loc.rdAt _ _) fun _=>Loc.ret _
theorem Loc.storeM(n:Nat)(a x:AV):Loc (storeM n a x):=by
 unfold Go.Proofs.YtpncilciembjdaaGreatDoor.storeM
 split
 .exact Loc.ite (Loc.bind (Loc.getB _) fun k=>Loc.ite (Loc.bind (Loc.setB _ _) fun _=>Loc.ret _) Loc.fail) Loc.fail
 .exact Loc.fail
theorem Loc.buildSlM(z:List Value)(e n:Nat)(ps:List (Nat × AV)):Loc (buildSlM z e n ps):=by
 unfold Go.Proofs.YtpncilciembjdaaGreatDoor.buildSlM
 repeat' split
 all_goals first
  |exact Loc.fail
  |exact Loc.bind (Loc.newB _) fun _=>Loc.ret _
theorem Loc.newsM(e:Nat)(x:AV):Loc (newsM e x):=by
 unfold Go.Proofs.YtpncilciembjdaaGreatDoor.newsM
 split
 .split
  .refine Loc.bind (Loc.getB _) fun k=>?_
   split
   .exact Loc.ret _
   .exact Loc.fail
  .exact Loc.fail
 .split
  .exact Loc.ret _
  .exact Loc.fail
 .exact Loc.ret _
 .exact Loc.fail
theorem Loc.appM(e b:Nat)(s x:AV):Loc (appM e b s x):=by
 unfold Go.Proofs.YtpncilciembjdaaGreatDoor.appM
 refine Loc.bind (Loc.newsM _ _) fun r=>?_
 repeat' split
 all_goals first
  |exact Loc.fail
  |exact Loc.ret _
  |exact Loc.bind (Loc.newB _) fun _=>Loc.ret _
  |refine Loc.bind (Loc.getB _) fun k=>?_
 repeat' split
 all_goals first
  |exact Loc.fail
  |exact Loc.bind (Loc.delB _) fun _=>Loc.bind (Loc.newB _) fun _=>Loc.ret _
  |exact Loc.bind (Loc.setB _ _) fun _=>Loc.bind (Loc.newB _) fun _=>Loc.ret _
theorem Loc.mkslM(z:List Value)(e b:Nat)(l c:AV):Loc (mkslM z e b l c):=by
 unfold Go.Proofs.YtpncilciembjdaaGreatDoor.mkslM
 repeat' split
 all_goals first
  |exact Loc.fail
  |exact Loc.bind (Loc.newB _) fun _=>Loc.ret _
theorem Loc.cpyM(e:Nat)(d x:AV):Loc (cpyM e d x):=by
 unfold Go.Proofs.YtpncilciembjdaaGreatDoor.cpyM
 split
 .split
  .refine Loc.bind (Loc.newsM _ _) fun r=>?_
   split
   .refine Loc.bind (Loc.getB _) fun k=>?_
    split
    .exact Loc.bind (Loc.setB _ _) fun _=>Loc.ret _
    .exact Loc.fail
   .exact Loc.fail
  .exact Loc.fail
 .exact Loc.fail
theorem Loc.clrM(z:List Value)(e:Nat)(x:AV):Loc (clrM z e x):=by
 unfold Go.Proofs.YtpncilciembjdaaGreatDoor.clrM
 split
 .split
  .refine Loc.bind (Loc.getB _) fun k=>?_
   split
   .exact Loc.bind (Loc.setB _ _) fun _=>Loc.ret _
   .exact Loc.fail
  .exact Loc.fail
 .exact Loc.fail
theorem Loc.strM(x:AV):Loc (strM x):=by
 unfold Go.Proofs.YtpncilciembjdaaGreatDoor.strM
 split
 .exact Loc.bind (Loc.newsM _ _) fun _=>Loc.opt _
 .exact Loc.fail
theorem Loc.mop{Γ:FuncId->List AV->AM AV}(hΓ:∀ f args,Loc (Γ f args))(o:MO)(T:List AV):Loc (mop A Γ o T):=by
 unfold Go.Proofs.YtpncilciembjdaaGreatDoor.mop
 repeat' split
 all_goals first
  |exact Loc.fail
  |exact Loc.ret _
  |exact Loc.opt _
  |exact Loc.boxA _
  |exact Loc.bind (Loc.newB _) fun _=>Loc.ret _
  |exact Loc.buildSlM _ _ _ _
  |exact Loc.loadM _ _ _
  |exact Loc.storeM _ _ _
  |exact Loc.mkslM _ _ _ _ _
  |exact Loc.appM _ _ _ _
  |exact Loc.cpyM _ _ _
  |exact Loc.clrM _ _ _
  |exact Loc.strM _
  |exact hΓ _ _
theorem Loc.coreM{Γ:FuncId->List AV->AM AV}(hΓ:∀ f args,Loc (Γ f args))(o:MOp)(T:List AV):Loc (coreM A Γ o T):=by
 unfold Go.Proofs.YtpncilciembjdaaGreatDoor.coreM
 repeat' split
 all_goals first
  |exact Loc.fail
  |exact Loc.ret _
  |exact Loc.mop hΓ _ _
def chainM(A:Ar)(Γ:FuncId->List AV->AM AV)(l:List MOp)(T:List AV):AM (List AV × List Foot):=fun H=>match runM A Γ l T H with
 |some (T',H',fs)=>some ((T',fs),H',⟨fs.flatMap (·.rd),fs.flatMap (·.wr)⟩)
 |none=>none
theorem chainM_cons(Γ:FuncId->List AV->AM AV)(o:MOp)(r:List MOp)(T:List AV) :
  chainM A Γ (o::r) T=(logged (coreM A Γ o T)).bind fun vf=>(chainM A Γ r (dstSet T o.dst vf.1)).bind fun q=>AM.ret (q.1,vf.2::q.2):=by
 funext H
 simp only[chainM,runM,AM.bind,logged,AM.ret]
 rcases Go.Proofs.YtpncilciembjdaaGreatDoor.coreM A Γ o T H with _|⟨v,H1,f⟩
 .rfl
 simp only
 rcases runM A Γ r (dstSet T o.dst v) H1 with _|⟨T2,H2,fs⟩
 .rfl
 .simp
theorem Loc.chainM{Γ:FuncId->List AV->AM AV}(hΓ:∀ f args,Loc (Γ f args)):∀(l:List MOp) (T:List AV),Loc (chainM A Γ l T)
 |[],T=>by
  have:Go.Proofs.YtpncilciembjdaaGreatDoor.chainM A Γ [] T=AM.ret (T,[]):=by funext H;simp[Go.Proofs.YtpncilciembjdaaGreatDoor.chainM,runM,AM.ret]
  rw[this];exact Loc.ret _
 |o::r,T=>by
  rw[chainM_cons]
  exact Loc.bind (Loc.logged (Loc.coreM hΓ o T)) fun _=>Loc.bind (Loc.chainM hΓ r _) fun _=>Loc.ret _
theorem regM_eq(Γ:FuncId->List AV->AM AV)(ops:List MOp)(bf:Option (List Nat))(T:List AV) :
  regM A Γ ops bf T=(chainM A Γ ops T).bind fun r=>match bf with
   |none=>AM.ret (.normal,r.1)
   |some bf=>(match heapOk bf r.2 with
    |true=>AM.ret (.normal,r.1)
    |false=>AM.fail):=by
 funext H
 unfold Go.Proofs.YtpncilciembjdaaGreatDoor.regM Go.Proofs.YtpncilciembjdaaGreatDoor.chainM AM.bind
 cases e0:runM A Γ ops T H with
 |none=>simp[e0]
 |some r=>
  obtain⟨T',H',fs⟩:=r
  cases bf with
  |none=>simp[AM.ret,e0]
  |some bf=>cases e:heapOk bf fs<;>simp[AM.ret,AM.fail,e,e0]
theorem Loc.regM{Γ:FuncId->List AV->AM AV}(hΓ:∀ f args,Loc (Γ f args))(ops:List MOp)(bf:Option (List Nat))(T:List AV):Loc (regM A Γ ops bf T):=by
 rw[regM_eq]
 refine Loc.bind (Loc.chainM hΓ _ _) fun r=>?_
 cases bf with
 |none=>exact Loc.ret _
 |some bf=>
  simp only
  split
  .exact Loc.ret _
  .exact Loc.fail
theorem Loc.adoptB1(b i e:Nat):Loc (adoptB1 b i e):=by
 unfold Go.Proofs.YtpncilciembjdaaGreatDoor.adoptB1
 refine Loc.bind (Loc.getB _) fun k=>?_
 split
 .refine Loc.bind (Loc.newB _) fun c=>Loc.bind (Loc.getB _) fun k2=>?_
  split
  .exact Loc.setB _ _
  .exact Loc.fail
 .exact Loc.ret _
theorem Loc.nilB(b i:Nat):Loc (nilB b i):=by
 unfold Go.Proofs.YtpncilciembjdaaGreatDoor.nilB
 refine Loc.bind (Loc.getB _) fun k=>?_
 split
 .exact Loc.setB _ _
 .exact Loc.ret _
theorem Loc.adoptB(b i e:Nat):Loc (adoptB b i e):=by
 unfold Go.Proofs.YtpncilciembjdaaGreatDoor.adoptB
 split
 .exact Loc.nilB _ _
 .exact Loc.adoptB1 _ _ _
theorem Loc.adoptM:∀(l:List (Nat × Nat)) (T:List AV),Loc (adoptM l T)
 |[],T=>Loc.ret _
 |(t,e)::r,T=>by
  unfold Go.Proofs.YtpncilciembjdaaGreatDoor.adoptM
  split
  .exact Loc.bind (Loc.newB _) fun b=>Loc.adoptM r _
  .split
   .exact Loc.bind (Loc.adoptB _ _ _) fun _=>Loc.adoptM r T
   .exact Loc.adoptM r T
theorem Loc.frz0(x:AV):Loc (frz0 x):=by
 unfold Go.Proofs.YtpncilciembjdaaGreatDoor.frz0
 split<;>first
  |exact Loc.ret _
  |exact Loc.fail
mutual
theorem Loc.frz:∀(n:Nat) (x:AV),Loc (frz n x)
 |0,x=>by
  unfold Go.Proofs.YtpncilciembjdaaGreatDoor.frz
  exact Loc.frz0 x
 |n+1,x=>by
  unfold Go.Proofs.YtpncilciembjdaaGreatDoor.frz
  split
  .exact Loc.ret _
  .refine Loc.bind (Loc.getB _) fun k=>?_
   split
   .exact Loc.fail
   .refine Loc.bind ?_ fun _=>?_
    .split
     .exact Loc.setB _ _
     .exact Loc.ret _
    .split
     .exact Loc.ret _
     .refine Loc.bind (Loc.frzL n _) fun cs=>?_
      split
      .exact Loc.ret _
      .exact Loc.fail
  .exact Loc.bind (Loc.frzL n _) fun _=>Loc.ret _
  .exact Loc.bind (Loc.frzL n _) fun _=>Loc.ret _
  .exact Loc.ret _
theorem Loc.frzL:∀(n:Nat) (l:List AV),Loc (frzL n l)
 |n,[]=>by
  unfold Go.Proofs.YtpncilciembjdaaGreatDoor.frzL
  exact Loc.ret _
 |0,_::_=>by
  unfold Go.Proofs.YtpncilciembjdaaGreatDoor.frzL
  exact Loc.fail
 |n+1,x::r=>by
  unfold Go.Proofs.YtpncilciembjdaaGreatDoor.frzL
  exact Loc.bind (Loc.frz n x) fun _=>Loc.bind (Loc.frzL n r) fun _=>Loc.ret _
end
theorem Loc.frzB(b:Nat):Loc (frzB b):=by
 unfold Go.Proofs.YtpncilciembjdaaGreatDoor.frzB
 refine Loc.bind (Loc.getB _) fun k=>?_
 split
 .refine Loc.bind (Loc.frzL _ _) fun _=>Loc.bind (Loc.getB _) fun _=>?_
  split
  .exact Loc.setB _ _
  .exact Loc.fail
 .exact Loc.ret _
theorem Loc.frzT:∀(l:List Nat) (T:List AV),Loc (frzT l T)
 |[],T=>Loc.ret _
 |t::r,T=>by
  unfold Go.Proofs.YtpncilciembjdaaGreatDoor.frzT
  split
  .exact Loc.bind (Loc.frzB _) fun _=>Loc.frzT r T
  .exact Loc.bind (Loc.frz _ _) fun _=>Loc.frzT r _
  .exact Loc.frzT r T
theorem Loc.evC{Γ:FuncId->List AV->AM AV}{Λ:Nat->List AV->AM (AX × List AV)}(hΓ:∀ f args,Loc (Γ f args))(hΛ:∀ i T,Loc (Λ i T)):∀(c:MC) (T:List AV),Loc (evC A Γ Λ c T)
 |.skip,T=>Loc.ret _
 |.reg ops bf,T=>Loc.regM hΓ _ _ _
 |.seq a b,T=>by
  unfold Go.Proofs.YtpncilciembjdaaGreatDoor.evC
  refine Loc.bind (Loc.evC hΓ hΛ a T) fun r=>?_
  split
  .exact Loc.evC hΓ hΛ b _
  .exact Loc.ret _
 |.cond c a b,T=>by
  unfold Go.Proofs.YtpncilciembjdaaGreatDoor.evC
  split
  .split
   .exact Loc.evC hΓ hΛ a T
   .exact Loc.evC hΓ hΛ b T
  .exact Loc.fail
 |.block id c,T=>by
  unfold Go.Proofs.YtpncilciembjdaaGreatDoor.evC
  refine Loc.bind (Loc.evC hΓ hΛ c T) fun r=>?_
  split
  .exact Loc.ite (Loc.ret _) (Loc.ret _)
  .exact Loc.ret _
 |.loop i h,T=>by
  unfold Go.Proofs.YtpncilciembjdaaGreatDoor.evC
  refine Loc.bind (Loc.adoptM _ _) fun _=>Loc.bind (Loc.frzT _ _) fun _=>?_
  split
  .exact Loc.bind (hΛ _ _) fun _=>Loc.ret _
  .exact Loc.fail
 |.exit id,T=>Loc.ret _
 |.ret,T=>Loc.ret _
 |.bad,_=>Loc.fail
theorem Loc.delC(b i:Nat):Loc (delC b i):=by
 unfold Go.Proofs.YtpncilciembjdaaGreatDoor.delC
 refine Loc.bind (Loc.getB _) fun k=>?_
 split
 .exact Loc.delB _
 .exact Loc.ret _
theorem Loc.delT:∀(l:List Nat) (T:List AV),Loc (delT l T)
 |[],T=>Loc.ret _
 |t::r,T=>by
  unfold Go.Proofs.YtpncilciembjdaaGreatDoor.delT
  split
  .exact Loc.bind (Loc.delB _) fun _=>Loc.delT r T
  .exact Loc.bind (Loc.delB _) fun _=>Loc.delT r T
  .split
   .exact Loc.bind (Loc.delC _ _) fun _=>Loc.delT r T
   .exact Loc.delT r T
theorem Loc.touchS(x:AV):Loc (touchS x):=by
 unfold Go.Proofs.YtpncilciembjdaaGreatDoor.touchS
 split
 .refine Loc.bind (Loc.getB _) fun k=>?_
  split
  .exact Loc.bind (Loc.delB _) fun _=>Loc.bind (Loc.newB _) fun _=>Loc.ret _
  .exact Loc.ret _
 .exact Loc.ret _
theorem Loc.touchL:∀ l:List AV,Loc (touchL l)
 |[]=>Loc.ret _
 |x::r=>by
  unfold Go.Proofs.YtpncilciembjdaaGreatDoor.touchL
  exact Loc.bind (Loc.touchS x) fun _=>Loc.bind (Loc.touchL r) fun _=>Loc.ret _
theorem Loc.touchB(b:Nat):Loc (touchB b):=by
 unfold Go.Proofs.YtpncilciembjdaaGreatDoor.touchB
 refine Loc.bind (Loc.getB _) fun k=>?_
 split
 .refine Loc.bind (Loc.touchL _) fun _=>Loc.bind (Loc.getB _) fun _=>?_
  split
  .exact Loc.setB _ _
  .exact Loc.fail
 .exact Loc.setB _ _
 .exact Loc.ret _
theorem Loc.touchI:∀ l:List Nat,Loc (touchI l)
 |[]=>Loc.ret _
 |b::r=>by
  unfold Go.Proofs.YtpncilciembjdaaGreatDoor.touchI
  exact Loc.bind (Loc.touchB b) fun _=>Loc.touchI r
theorem Loc.touchV(x:AV):Loc (touchV x):=by
 unfold Go.Proofs.YtpncilciembjdaaGreatDoor.touchV
 split
 .exact Loc.touchS _
 .exact Loc.bind (Loc.touchL _) fun _=>Loc.bind (Loc.touchI _) fun _=>Loc.ret _
 .exact Loc.bind (Loc.touchI _) fun _=>Loc.ret _
theorem Loc.touchA:∀(m:List Bool) (l:List AV),Loc (touchA m l)
 |m,[]=>by cases m with
  |nil=>exact Loc.ret _
  |cons b m=>cases b<;>exact Loc.ret _
 |true::m,x::r=>by
  unfold Go.Proofs.YtpncilciembjdaaGreatDoor.touchA
  exact Loc.bind (Loc.touchI _) fun _=>Loc.bind (Loc.touchA m r) fun _=>Loc.ret _
 |false::m,x::r=>by
  unfold Go.Proofs.YtpncilciembjdaaGreatDoor.touchA
  exact Loc.bind (Loc.touchV x) fun _=>Loc.bind (Loc.touchA m r) fun _=>Loc.ret _
 |[],x::r=>by
  unfold Go.Proofs.YtpncilciembjdaaGreatDoor.touchA
  exact Loc.bind (Loc.touchV x) fun _=>Loc.bind (Loc.touchA [] r) fun _=>Loc.ret _
end
end Go.Proofs.YtpncilciembjdaaGreatDoor
namespace Go.Proofs.YtpncilciembjdaaGreatDoor
open Go.RowKit

def Gh(μ:Mu)(F:Prot)(w:World)(H H':AH)(Q:Mu->Prot->Prop):Prop:=
 ∃ μ' F',Later μ μ' F F' w w/\HRep μ' F' w H'.get/\(∀ b,(b<H.next\/H'.next<=b)->μ' b=μ b)/\Q μ' F'
section
variable {μ:Mu} {F:Prot} {w:World} {H H1 H2:AH}
theorem Gh.same{Q:Mu->Prot->Prop}(hH:HRep μ F w H.get)(h:Q μ F):Gh μ F w H H Q:=⟨μ,F,Later.refl _ _ _,hH,fun _ _=>rfl,h⟩
theorem Gh.trans{Q:Mu->Prot->Prop}(hn1:H.next<=H1.next)(hn2:H1.next<=H2.next){Q1:Mu->Prot->Prop}(h:Gh μ F w H H1 Q1)(k:∀ μ' F',Later μ μ' F F' w w->HRep μ' F' w H1.get->(∀ b,(b<H.next\/H1.next<=b)->μ' b=μ b)->Q1 μ' F'->Gh μ' F' w H1 H2 Q):Gh μ F w H H2 Q:=by
 obtain⟨μ1,F1,h1,h2,h3,h4⟩:=h
 obtain⟨μ2,F2,k1,k2,k3,k4⟩:=k μ1 F1 h1 h2 h3 h4
 refine⟨μ2,F2,h1.trans k1,k2,fun b hb=>?_,k4⟩
 rw[k3 b (by omega),h3 b (by omega)]
theorem Gh.mono{Q Q':Mu->Prot->Prop}(h:Gh μ F w H H1 Q)(k:∀ μ' F',Later μ μ' F F' w w->Q μ' F'->Q' μ' F'):Gh μ F w H H1 Q':=by
 obtain⟨μ1,F1,h1,h2,h3,h4⟩:=h
 exact⟨μ1,F1,h1,h2,h3,k _ _ h1 h4⟩
theorem chunk_get:∀(n e:Nat) (l:List AV) (i:Nat),(chunk n e l)[i]? = if i<n then some ((l.drop (i*e)).take e) else none
 |0,e,l,i=>by simp[chunk]
 |n+1,e,l,0=>by simp[chunk]
 |n+1,e,l,i+1=>by
  simp only[chunk,List.getElem?_cons_succ,chunk_get n e (l.drop e) i,List.drop_drop,Nat.add_lt_add_iff_right]
  rw[show e+i*e=(i+1)*e by rw[Nat.add_mul];omega]
theorem chunk_length:∀(n e:Nat) (l:List AV),(chunk n e l).length=n
 |0,e,l=>rfl
 |n+1,e,l=>by simp[chunk,chunk_length n]
theorem noidL_take{l:List AV}(h:noidL l=true)(n:Nat):noidL (l.take n)=true:=by
 rw[noidL_all]at h ⊢
 exact List.all_eq_true.2 fun x hx=>List.all_eq_true.1 h x (List.mem_of_mem_take hx)
theorem noidL_drop{l:List AV}(h:noidL l=true)(n:Nat):noidL (l.drop n)=true:=by
 rw[noidL_all]at h ⊢
 exact List.all_eq_true.2 fun x hx=>List.all_eq_true.1 h x (List.mem_of_mem_drop hx)
theorem noidR_chunk:∀(n e:Nat) {l:List AV},noidL l=true->noidR (chunk n e l)=true
 |0,e,l,h=>rfl
 |n+1,e,l,h=>by
  have:=noidR_chunk n e (noidL_drop h e)
  unfold noidR at this ⊢
  simp[chunk,noidL_take h,this]
theorem rep_chunk{g q m e c:Nat}{cs:List AV}(hn:noidL cs=true)(hl:cs.length=m*e)(hm:m<=c)(hc:c<=maxLen){u:Value}(hu:u=.slice (some ⟨g,q,none⟩) m c)(hr:m≠0->RepAt μ F w g cs q):Rep μ F w (.ls (chunk m e cs)) u:=by
 simp only[Rep]
 refine⟨noidR_chunk m e hn,some ⟨g,q,none⟩,c,by rw[chunk_length];exact hu,by rw[chunk_length];exact hm,hc,fun hne=>⟨g,q,e,rfl,?_⟩⟩
 have hm0:m≠0:=fun h0=>hne (by rw[h0];rfl)
 have hr:=hr hm0
 refine RepRows.mk fun i x hx=>?_
 rw[chunk_get]at hx
 split at hx
 .rename_i hi
  simp only[Option.some.injEq]at hx
  subst hx
  have h1:i*e+e<=m*e:=by rw[←Nat.succ_mul];exact Nat.mul_le_mul_right e hi
  refine⟨by rw[List.length_take,List.length_drop,hl];omega,?_⟩
  have h2:=hr.drop (i*e)
  refine RepAt.mk fun j y hy=>?_
  rw[List.getElem?_take]at hy
  split at hy
  .exact h2.get hy
  .cases hy
 .cases hx
theorem setB_run{b:Nat}{k:ABlk}{u:Unit}{H H':AH}{ft:Foot}(h:AM.setB b k H=some (u,H',ft)):H'=H.put b k/\∃ k0,H.get b=some k0:=by
 unfold AM.setB at h
 cases e:H.get b with
 |none=>rw[e]at h;cases h
 |some k0=>
  rw[e]at h
  simp only[Option.some.injEq,Prod.mk.injEq]at h
  exact⟨h.2.1.symm,k0,rfl⟩
theorem frz_next(n:Nat)(x:AV){y:AV}{H':AH}{ft:Foot}(hw:H.wf)(h:frz n x H=some (y,H',ft)):H.next<=H'.next/\H'.wf:=⟨(Loc.frz n x H y H' ft hw h).next,(Loc.frz n x H y H' ft hw h).wf⟩
theorem frzL_next(n:Nat)(x:List AV){y:List AV}{H':AH}{ft:Foot}(hw:H.wf)(h:frzL n x H=some (y,H',ft)):H.next<=H'.next/\H'.wf:=⟨(Loc.frzL n x H y H' ft hw h).next,(Loc.frzL n x H y H' ft hw h).wf⟩
theorem put_wf{b:Nat}{k k0:ABlk}(hw:H.wf)(hb:H.get b=some k0):(H.put b k).wf:=fun c h1 h2=>by
 rw[AH.get_put]
 by_cases hcb:c=b
 .subst hcb
  rw[hw c h1 h2]at hb
  cases hb
 .rw[if_neg hcb];exact hw c h1 h2
theorem rep_nilA{z u:Value}(hx:Rep μ F w (.v z) u):Rep μ F w (nilA z) u:=by
 unfold nilA
 split
 .rename_i e
  simp only[Rep]at hx ⊢
  rw[hx.1,isNilV_eq e]
  exact⟨rfl,none,0,rfl,Nat.le_refl _,Nat.zero_le _,fun h=>absurd rfl h⟩
 .exact hx
end
mutual
theorem frz_sound:∀(n:Nat) (x:AV) {μ:Mu} {F:Prot} {w:World} {H:AH} {u:Value} {y:AV} {H':AH} {ft:Foot},Rep μ F w x u->HRep μ F w H.get->H.wf->frz n x H=some (y,H',ft)->Gh μ F w H H' fun μ' F'=>Rep μ' F' w y u
 |0,x,μ,F,w,H,u,y,H',ft,hx,hH,hw,h=>by
  simp only[frz]at h
  cases x<;>simp only[frz0]at h<;>first
   |exact(fail_some h).elim
   | (obtain⟨rfl,rfl⟩:=ret_some h
      first
       |exact Gh.same hH hx
       |exact Gh.same hH (rep_nilA hx))
 |n+1,.v z,μ,F,w,H,u,y,H',ft,hx,hH,hw,h=>by
  simp only[frz]at h
  obtain⟨rfl,rfl⟩:=ret_some h
  exact Gh.same hH (rep_nilA hx)
 |n+1,.sl b o m e,μ,F,w,H,u,y,H',ft,hx,hH,hw,h=>by
   simp only[frz]at h
   obtain⟨k,H1,f1,f2,h1,h2⟩:=bind_some h
   obtain⟨hk,e1⟩:=getB_some h1
   rw[e1]at h2
   cases hle:Nat.ble (o+m*e) k.cells.length with
   |false=>rw[hle]at h2;exact(fail_some h2).elim
   |true=>
    rw[hle]at h2
    have hle':o+m*e<=k.cells.length:=by simpa using hle
    obtain⟨_,H2,f3,f4,h3,h4⟩:=bind_some h2
    simp only[Rep]at hx
    obtain⟨p,hp,hu⟩:=hx
    obtain⟨p',hp',hB⟩:=hH.blk b k hk
    rw[hp]at hp'
    cases hp'
    -- the cells are kept from now on
    have step:∃ F1,Later μ μ F F1 w w/\HRep μ F1 w H2.get/\(∀ i,i<k.cells.length->F1 p.g (p.o+i))/\H2.next=H.next/\H2.wf:=by
     cases hst:k.st with
     |true=>
      rw[hst]at h3
      obtain⟨e2,k0,hk0⟩:=setB_run h3
      obtain⟨g1,g2⟩:=hrep_keep hH hk hp
      refine⟨_,g2,?_,fun i hi=>.inr ⟨rfl,by omega,by omega⟩,by rw[e2];rfl,by rw[e2];exact put_wf hw hk0⟩
      have:H2.get=fun c=>if c=b then some { k with st:=false } else H.get c:=by
       funext c
       rw[e2,AH.get_put]
      rw[this]
      exact g1
     |false=>
      rw[hst]at h3
      obtain⟨_,e2⟩:=ret_some h3
      rw[e2]
      exact⟨F,Later.refl _ _ _,hH,fun i hi=>hB.kept hst i hi,rfl,hw⟩
    obtain⟨F1,g1,g2,g3,g4,g5⟩:=step
    obtain⟨us,r1,r2⟩:=read_list (g:=p.g) (cs:=(k.cells.drop o).take (m*e)) (o:=p.o+o) (μ:=μ) (F:=F1) (w:=w) (by
     intro i x hi
     rw[List.getElem?_take]at hi
     split at hi
     .rw[List.getElem?_drop]at hi
      obtain⟨u',q1,q2⟩:=hB.cell (o+i) x hi
      exact⟨u',by rw[Nat.add_assoc];exact q1,q2.later g1⟩
     .cases hi)
    have hlen:us.length=m*e:=by
     rw[r1.length,List.length_take,List.length_drop];omega
    have fin:∀{cs:List AV} {H3:AH},H2.next<=H3.next->noidL cs=true->Gh μ F1 w H2 H3 (fun μ' F'=>RepList μ' F' w cs us)->Gh μ F w H H3 fun μ' F'=>Rep μ' F' w (.ls (chunk m e cs)) u:=by
     intro cs H3 n3 hno hG
     refine Gh.trans (H1:=H2) (by omega) n3 (Q1:=fun μ' F'=>μ'=μ/\F'=F1) ⟨μ,F1,g1,g2,fun _ _=>rfl,rfl,rfl⟩ ?_
     rintro μ' F' _ _ _ ⟨rfl,rfl⟩
     refine hG.mono fun μ2 F2 l2 hr=>?_
     have hcl:cs.length=m*e:=by rw[←hr.length,hlen]
     rcases hu with⟨rfl,rfl⟩|⟨q,c,rfl,hq,hmc,hcm,hroom⟩
     .simp only[chunk,Rep]
      exact⟨rfl,none,0,rfl,Nat.le_refl _,Nat.zero_le _,fun h=>absurd rfl h⟩
     .refine rep_chunk hno hcl hmc hcm rfl fun hm0=>?_
      have hq':=hq (by omega)
      rw[hq']
      refine RepAt.mk fun i x hi=>?_
      obtain⟨v,v1,v2⟩:=hr.get hi
      have hi':i<m*e:=by rw[←hcl];exact(List.getElem?_eq_some_iff.1 hi).1
      refine⟨(l2.prot _ _ (by rw[Nat.add_assoc];exact g3 (o+i) (by omega))).1,v,r2 i v v1,v2⟩
    cases hno0:(k.ex||noidL ((k.cells.drop o).take (m*e))) with
    |true=>
     rw[hno0]at h4
     obtain⟨rfl,rfl⟩:=ret_some h4
     have hno:noidL ((k.cells.drop o).take (m*e))=true:=by
      cases hx:k.ex with
      |true=>exact noidL_take (noidL_drop (hB.pure hx) _) _
      |false=>rw[hx,Bool.false_or]at hno0;exact hno0
     exact fin (Nat.le_refl _) hno (Gh.same g2 r1)
    |false=>
     rw[hno0]at h4
     obtain⟨cs,H3,f5,f6,h5,h6⟩:=bind_some h4
     have hG:=frzL_sound n _ r1 g2 g5 h5
     obtain⟨n3,w3⟩:=frzL_next n _ g5 h5
     cases hno:noidL cs with
     |true=>
      rw[hno]at h6
      obtain⟨rfl,rfl⟩:=ret_some h6
      exact fin n3 hno hG
     |false=>rw[hno]at h6;exact(fail_some h6).elim
 |n+1,.agg cs,μ,F,w,H,u,y,H',ft,hx,hH,hw,h=>by
   simp only[frz]at h
   obtain⟨cs',H1,f1,f2,h1,h2⟩:=bind_some h
   obtain⟨rfl,rfl⟩:=ret_some h2
   simp only[Rep]at hx
   obtain⟨us,rfl,hr⟩:=hx
   refine(frzL_sound n _ hr hH hw h1).mono fun μ' F' _ hq=>?_
   simp only[Rep]
   exact⟨us,rfl,hq⟩
 |n+1,.tup cs,μ,F,w,H,u,y,H',ft,hx,hH,hw,h=>by
   simp only[frz]at h
   obtain⟨cs',H1,f1,f2,h1,h2⟩:=bind_some h
   obtain⟨rfl,rfl⟩:=ret_some h2
   simp only[Rep]at hx
   obtain⟨us,rfl,hr⟩:=hx
   refine(frzL_sound n _ hr hH hw h1).mono fun μ' F' _ hq=>?_
   simp only[Rep]
   exact⟨us,rfl,hq⟩
 |n+1,.ptr b o,μ,F,w,H,u,y,H',ft,hx,hH,hw,h=>by
   simp only[frz]at h
   obtain⟨rfl,rfl⟩:=ret_some h
   exact Gh.same hH hx
 |n+1,.ls xs,μ,F,w,H,u,y,H',ft,hx,hH,hw,h=>by
   simp only[frz]at h
   obtain⟨rfl,rfl⟩:=ret_some h
   exact Gh.same hH hx
 |n+1,.lp xs,μ,F,w,H,u,y,H',ft,hx,hH,hw,h=>by
   simp only[frz]at h
   obtain⟨rfl,rfl⟩:=ret_some h
   exact Gh.same hH hx
 |n+1,.fn f a c,μ,F,w,H,u,y,H',ft,hx,hH,hw,h=>by
   simp only[frz]at h
   obtain⟨rfl,rfl⟩:=ret_some h
   exact Gh.same hH hx
 |n+1,.any,μ,F,w,H,u,y,H',ft,hx,hH,hw,h=>by
   simp only[frz]at h
   obtain⟨rfl,rfl⟩:=ret_some h
   exact Gh.same hH hx
theorem frzL_sound:∀(n:Nat) (l:List AV) {μ:Mu} {F:Prot} {w:World} {H:AH} {us:List Value} {y:List AV} {H':AH} {ft:Foot},RepList μ F w l us->HRep μ F w H.get->H.wf->frzL n l H=some (y,H',ft)->Gh μ F w H H' fun μ' F'=>RepList μ' F' w y us
 |n,[],μ,F,w,H,us,y,H',ft,hx,hH,hw,h=>by
  unfold frzL at h
  obtain⟨rfl,rfl⟩:=ret_some h
  exact Gh.same hH hx
 |0,_::_,μ,F,w,H,us,y,H',ft,hx,hH,hw,h=>by
  unfold frzL at h
  exact(fail_some h).elim
 |n+1,x::r,μ,F,w,H,us,y,H',ft,hx,hH,hw,h=>by
  unfold frzL at h
  obtain⟨x',H1,f1,f2,h1,h2⟩:=bind_some h
  obtain⟨r',H2,f3,f4,h3,h4⟩:=bind_some h2
  obtain⟨rfl,rfl⟩:=ret_some h4
  simp only[RepList]at hx
  obtain⟨u,t,rfl,hu,ht⟩:=hx
  obtain⟨n1,w1⟩:=frz_next n x hw h1
  obtain⟨n2,w2⟩:=frzL_next n r w1 h3
  refine Gh.trans n1 n2 (frz_sound n x hu hH hw h1) fun μ1 F1 l1 hH1 _ hx1=>?_
  refine(frzL_sound n r (ht.later' l1) hH1 w1 h3).mono fun μ2 F2 l2 hr2=>?_
  simp only[RepList]
  exact⟨u,t,rfl,hx1.later l2,hr2⟩
end
end Go.Proofs.YtpncilciembjdaaGreatDoor
