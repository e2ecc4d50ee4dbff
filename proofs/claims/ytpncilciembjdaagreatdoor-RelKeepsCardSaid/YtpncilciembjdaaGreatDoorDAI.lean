/- Code with all types' siz -/
import Derived.Test.YtpncilciembjdaaGreatDoorDAH
set_option linter.all false
open Array renaming toArray_toList->Asz
open Bool renaming false->Φ,true->Δ,and_eq_true->ApZ,false_eq_true->Ar7
open Int renaming ofNat->ArZ
open List renaming all_eq_true->ApY,getElem?_take->Aqo,length_drop->Ars,length_take->Aqh
open Nat renaming add_assoc->Aqu,beq->AqA,ble->Ap3,blt->AqK,eq_of_beq_eq_true->Aqn,le_refl->κ,min->AqX,zero_add->Ap6,zero_le->AqC
open Option renaming none->Ξ,some->Θ,bind_some->AqF,map_none->AsG,map_some->AqD
namespace Go.Proofs.YtpncilciembjdaaGreatDoor
open Option.some renaming injEq->ξ
open Go.RowKit
structure Ar0 where
 add:IntKind->Int->Int->Int
 sub:IntKind->Int->Int->Int
 mul:IntKind->Int->Int->Int
 quo:IntKind->Int->Int->Int
 rem:IntKind->Int->Int->Int
 bits:BinOp->IntKind->Int->Int->Int
 shl:IntKind->Int->Int->Int
 shr:IntKind->Int->Int->Int
 conv:IntKind->Int->Int
 lt:Int->Int->Bool
 le:Int->Int->Bool
 eq:Int->Int->Bool
 max:Int->Int->Int
 min:Int->Int->Int
 beq:Bool->Bool->Bool
 band:Bool->Bool->Bool
 seq:ByteArray->ByteArray->Bool
 slt:ByteArray->ByteArray->Bool
 slen:ByteArray->Nat
 cat:ByteArray->ByteArray->ByteArray
 sat:ByteArray->Nat->Int
 ssub:ByteArray->Nat->Nat->ByteArray
inductive Ar where
 |mk (r:Ar0)
 |no
def Ar.add(A:Ar)(x0:IntKind)(x1:Int)(x2:Int):Int:=match A with
 |.mk r=>r.add x0 x1 x2
 |.no=>0
def Ar.sub(A:Ar)(x0:IntKind)(x1:Int)(x2:Int):Int:=match A with
 |.mk r=>r.sub x0 x1 x2
 |.no=>0
def Ar.mul(A:Ar)(x0:IntKind)(x1:Int)(x2:Int):Int:=match A with
 |.mk r=>r.mul x0 x1 x2
 |.no=>0
def Ar.quo(A:Ar)(x0:IntKind)(x1:Int)(x2:Int):Int:=match A with
 |.mk r=>r.quo x0 x1 x2
 |.no=>0
def Ar.rem(A:Ar)(x0:IntKind)(x1:Int)(x2:Int):Int:=match A with
 |.mk r=>r.rem x0 x1 x2
 |.no=>0
def Ar.bits(A:Ar)(x0:BinOp)(x1:IntKind)(x2:Int)(x3:Int):Int:=match A with
 |.mk r=>r.bits x0 x1 x2 x3
 |.no=>0
def Ar.shl(A:Ar)(x0:IntKind)(x1:Int)(x2:Int):Int:=match A with
 |.mk r=>r.shl x0 x1 x2
 |.no=>0
def Ar.shr(A:Ar)(x0:IntKind)(x1:Int)(x2:Int):Int:=match A with
 |.mk r=>r.shr x0 x1 x2
 |.no=>0
def Ar.conv(A:Ar)(x0:IntKind)(x1:Int):Int:=match A with
 |.mk r=>r.conv x0 x1
 |.no=>0
def Ar.lt(A:Ar)(x0:Int)(x1:Int):Bool:=match A with
 |.mk r=>r.lt x0 x1
 |.no=>Φ
def Ar.le(A:Ar)(x0:Int)(x1:Int):Bool:=match A with
 |.mk r=>r.le x0 x1
 |.no=>Φ
def Ar.eq(A:Ar)(x0:Int)(x1:Int):Bool:=match A with
 |.mk r=>r.eq x0 x1
 |.no=>Φ
def Ar.max(A:Ar)(x0:Int)(x1:Int):Int:=match A with
 |.mk r=>r.max x0 x1
 |.no=>0
def Ar.min(A:Ar)(x0:Int)(x1:Int):Int:=match A with
 |.mk r=>r.min x0 x1
 |.no=>0
def Ar.not(_:Ar)(b:Bool):Bool:=!b
def Ar.beq(A:Ar)(x0:Bool)(x1:Bool):Bool:=match A with
 |.mk r=>r.beq x0 x1
 |.no=>Φ
def Ar.band(A:Ar)(x0:Bool)(x1:Bool):Bool:=match A with
 |.mk r=>r.band x0 x1
 |.no=>Φ
def Ar.seq(A:Ar)(x0:ByteArray)(x1:ByteArray):Bool:=match A with
 |.mk r=>r.seq x0 x1
 |.no=>Φ
def Ar.slt(A:Ar)(x0:ByteArray)(x1:ByteArray):Bool:=match A with
 |.mk r=>r.slt x0 x1
 |.no=>Φ
def Ar.slen(A:Ar)(x0:ByteArray):Nat:=match A with
 |.mk r=>r.slen x0
 |.no=>0
def Ar.cat(A:Ar)(x0:ByteArray)(x1:ByteArray):ByteArray:=match A with
 |.mk r=>r.cat x0 x1
 |.no=>ByteArray.empty
def Ar.sat(A:Ar)(x0:ByteArray)(x1:Nat):Int:=match A with
 |.mk r=>r.sat x0 x1
 |.no=>0
def Ar.ssub(A:Ar)(x0:ByteArray)(x1:Nat)(x2:Nat):ByteArray:=match A with
 |.mk r=>r.ssub x0 x1 x2
 |.no=>ByteArray.empty
def SO(b:BinOp)(k:IntKind)(x y:Int):Int:=match b with
 |.and=>k.wrap (BitVec.ofInt k.bits x &&& BitVec.ofInt k.bits y).toNat
 |.or=>k.wrap (BitVec.ofInt k.bits x ||| BitVec.ofInt k.bits y).toNat
 |.xor=>k.wrap (BitVec.ofInt k.bits x ^^^ BitVec.ofInt k.bits y).toNat
 |_=>k.wrap (BitVec.ofInt k.bits x &&& ~~~BitVec.ofInt k.bits y).toNat
def GM:Ar0 where
 add k x y:=k.wrap (x+y)
 sub k x y:=k.wrap (x-y)
 mul k x y:=k.wrap (x*y)
 quo k x y:=k.wrap (x.tdiv y)
 rem _ x y:=x.tmod y
 bits b k x y:=SO b k x y
 shl k x y:=k.wrap (x*2 ^ (AqX y.toNat k.bits))
 shr k x y:=x.fdiv (2 ^ (AqX y.toNat k.bits))
 conv k x:=k.wrap x
 lt x y:=decide (x<y)
 le x y:=decide (x<=y)
 eq x y:=x == y
 max x y:=if x<y then y else x
 min x y:=if y<x then y else x
 beq a b:=a == b
 band a b:=a&&b
 seq a b:=a.toList == b.toList
 slt a b:=Op.bytesLess a.toList b.toList
 slen a:=a.size
 cat a b:=a++b
 sat a i:=match a[i]? with
  |some c=>ArZ c.toNat
  |none=>0
 ssub a l h:=a.extract l h
def Ad:Ar:=.mk GM
inductive MO where
 |mv (x:Operand)
 |pick (c a b:Operand)
 |alloc (z:List Value)
 |box (x:Operand)
 |buildS (z:List Value) (pl:List (Nat × Nat)) (ps:List (Nat × Operand))
 |buildR (z:List Value) (e:Nat) (ps:List (Nat × Operand))
 |buildSl (z:List Value) (e n:Nat) (ps:List (Nat × Operand))
 |ld (row:Bool) (n:Nat) (a:Operand)
 |st (n:Nat) (a x:Operand)
 |nilck (x:Operand)
 |bin (ek:Nat) (b:BinOp) (x y:Operand)
 |eqs (neg:Bool) (ks:List Nat) (x y:Operand)
 |not (x:Operand)
 |neg (x:Operand)
 |mkfn (f:Fn) (a c:List Operand)
 |slice (e:Nat) (x:Operand) (lo hi:Option Operand)
 |faddr (off:Nat) (a:Operand)
 |field (row:Bool) (off n:Nat) (x:Operand)
 |iaddr (e:Nat) (x i:Operand)
 |aaddr (n e:Nat) (x i:Operand)
 |index (n e:Nat) (row:Bool) (sz:Nat) (x i:Operand)
 |ext (x:Operand) (i:Nat)
 |mksl (z:List Value) (e bytes:Nat) (l c:Operand)
 |app (e bytes:Nat) (s x:Operand)
 |appz (z:List Value) (e bytes:Nat) (s x:Operand)
 |cpy (e:Nat) (d x:Operand)
 |clr (z:List Value) (e:Nat) (x:Operand)
 |len (sl:Bool) (x:Operand)
 |sidx (x i:Operand)
 |sslice (x:Operand) (lo hi:Option Operand)
 |iconv (k:IntKind) (x:Operand)
 |str (x:Operand)
 |mx (x y:Operand)
 |mn (x y:Operand)
 |callF (f:FuncId) (args:List Operand)
 |callV (ents:Nat) (x:Operand) (args:List Operand)
 |bad
structure MOp where
 dst:Option Nat
 op:MO
 g:Option (Nat × Bool)
structure LpH where
 n:Nat
 live:List Bool
 ad:List (Nat × Nat)
 fz:List Nat
 outs:List (Nat × (List Bool × (List Nat × List Nat)))
inductive MC where
 |skip
 |reg (ops:List MOp) (bf:Option (List Nat))
 |seq (a b:MC)
 |cond (c:Operand) (a b:MC)
 |block (id:Nat) (c:MC)
 |loop (i:Nat) (h:LpH)
 |exit (id:Nat)
 |ret
 |bad
section
variable (A:Ar)
def loadM(row:Bool)(n:Nat)(a:AV):AM AV:=match row with
 |true=>(rdAt a n).bind λcs=>AM.ret (.agg cs)
 |false=>(rdAt a 1).bind λcs=>AM.opt (V1 cs)
def storeM(n:Nat)(a x:AV):AM AV:=match a with
 |.ptr b o=>
  if x.cells.length=n/\x.cells.all AV.one=Δ then
   (AM.getB b).bind λk=>if k.st=Δ/\o+n<=k.cells.length/\(!k.ex||AO x.cells)=Δ then(AM.setB b { k with cells:=Ay k.cells o x.cells }).bind λ_=>AM.ret AV.undef else AM.fail
  else AM.fail
 |_=>AM.fail
def T7(row:Bool)(off n:Nat)(cs:List AV):Option AV:=match row with
 |true=>Θ (.agg ((cs.drop off).take n))
 |false=>cs[off]?
def Vy(row:Bool)(off n:Nat)(x:AV):Option AV:=match x with
 |.agg cs=>T7 row off n cs
 |_=>Ξ
def KX(place:Nat->Option (Nat × Nat))(z:List Value)(ps:List (Nat × AV)):Option AV:=
 if ps.any (λp=>GV p.2) then Ξ else(E9 place (z.map .v) ps).map .agg
def buildSlM(z:List Value)(e n:Nat)(ps:List (Nat × AV)):AM AV:=
 if n*e<=16777216/\n<=maxLen/\ps.any (λp=>GV p.2)=Φ then
  match E9 (λi=>Θ (i*e,e)) (BJ (z.map .v) (n*e)) ps with
  |some cs=>if AO cs=Δ then(AM.newB ⟨cs,Δ,Δ⟩).bind λb=>AM.ret (.sl b 0 n e) else(AM.newB ⟨cs,Δ,Φ⟩).bind λb=>AM.ret (.sl b 0 n e)
  |none=>AM.fail
 else AM.fail
def T5:List (List AV)->Nat->Option (List AV)
 |[],_=>Ξ
 |x::_,0=>Θ x
 |_::r,n+1=>T5 r n
theorem RQ:∀(xs:List (List AV)) (n:Nat),T5 xs n=xs[n]?
 |[],_=>by simp[T5]
 |x::r,0=>by simp[T5]
 |x::r,n+1=>by simp[T5,RQ r n]
def N6(e:Nat)(x ix:AV):Option AV:=match ix.idx with
 |some i=>(match x with
  |.sl b o n e'=>(match AqK i n with
   |true=>if e'=e then Θ (.ptr b (o+i*e)) else Ξ
   |false=>Ξ)
  |.ls xs=>(match T5 xs i with
   |some cs=>(match AqA cs.length e with
    |true=>Θ (.lp cs)
    |false=>Ξ)
   |none=>Ξ)
  |_=>Ξ)
 |none=>Ξ
def QQ(n e:Nat)(x ix:AV):Option AV:=match ix.idx with
 |some i=>(match AqK i n with
  |true=>Oh x (i*e)
  |false=>Ξ)
 |none=>Ξ
def N8(n e:Nat)(row:Bool)(sz:Nat)(x ix:AV):Option AV:=match x,ix.idx with
 |.agg cs,Θ i=>(match AqK i n with
  |true=>T7 row (i*e) sz cs
  |false=>Ξ)
 |_,_=>Ξ
def I0:List (List AV)->Nat->List (List AV)
 |[],_=>[]
 |_::_,0=>[]
 |x::r,n+1=>x::I0 r n
def IR:List (List AV)->Nat->List (List AV)
 |[],_=>[]
 |x::r,0=>x::r
 |_::r,n+1=>IR r n
def AS:List (List AV)->Nat
 |[]=>0
 |_::r=>AS r+1
def Gw(e:Nat):List (List AV)->Bool
 |[]=>Δ
 |x::r=>AqA x.length e&&Gw e r
def Mz(n:Nat):Option AV->Option Nat
 |some x=>x.idx
 |none=>Θ n
def OV(e:Nat)(x:AV)(lo hi:Option AV):Option AV:=match x with
 |.sl b o n e'=>(match Mz 0 lo,Mz n hi with
  |some l,Θ h=>(match Ap3 l h,Ap3 h n,AqA e' e with
   |true,Δ,Δ=>Θ (.sl b (o+l*e) (h-l) e)
   |_,_,_=>Ξ)
  |_,_=>Ξ)
 |.ls xs=>(match Mz 0 lo,Mz (AS xs) hi with
  |some l,Θ h=>(match Ap3 l h,Ap3 h (AS xs),Gw e xs with
   |true,Δ,Δ=>Θ (.ls (IR (I0 xs h) l))
   |_,_,_=>Ξ)
  |_,_=>Ξ)
 |_=>Ξ
def AjX(sl:Bool)(x:AV):Option AV:=match sl with
 |true=>(match x with
  |.sl _ _ n _=>Θ (.v (.int .i64 (ArZ n)))
  |.ls xs=>Θ (.v (.int .i64 (ArZ (AS xs))))
  |.v (.slice Ξ 0 0)=>Θ (.v (.int .i64 (ArZ 0)))
  |_=>Ξ)
 |false=>(match x with
  |.v (.string s)=>Θ (.v (.int .i64 (ArZ (A.slen s))))
  |_=>Ξ)
def eqL:List Nat->List AV->List AV->Option Bool
 |[],[],[]=>Θ Δ
 |1::ks,.v (.bool a)::r,.v (.bool b)::q=>(match eqL ks r q with
  |some t=>Θ (A.band (A.beq a b) t)
  |none=>Ξ)
 |0::ks,.v (.int k a)::r,.v (.int k' b)::q=>if k=k' then(match eqL ks r q with
  |some t=>Θ (A.band (A.eq a b) t)
  |none=>Ξ) else Ξ
 |2::ks,.v (.string a)::r,.v (.string b)::q=>(match eqL ks r q with
  |some t=>Θ (A.band (A.seq a b) t)
  |none=>Ξ)
 |_,_,_=>Ξ
def AjE(neg:Bool)(ks:List Nat)(x y:AV):Option AV:=match x,y with
 |.agg xs,.agg ys=>(match eqL A ks xs ys with
  |some t=>(match neg with
   |true=>Θ (.v (.bool (A.not t)))
   |false=>Θ (.v (.bool t)))
  |none=>Ξ)
 |_,_=>Ξ
def eqM(ek:Nat)(x y:AV):Option Bool:=match ek,x,y with
 |4,.v (.bool a),.v (.bool b)=>Θ (A.beq a b)
 |1,.ptr ..,.v (.pointer Ξ)=>Θ Φ
 |1,.lp ..,.v (.pointer Ξ)=>Θ Φ
 |1,.v (.pointer Ξ),.v (.pointer Ξ)=>Θ Δ
 |2,.sl _ _ (_+1) _,.v (.slice Ξ 0 0)=>Θ Φ
 |2,.v (.slice Ξ 0 0),.v (.slice Ξ 0 0)=>Θ Δ
 |3,.fn ..,.v .nilFunc=>Θ Φ
 |3,.v .nilFunc,.v .nilFunc=>Θ Δ
 |_,_,_=>Ξ
def JJ(b:BinOp)(x y:AV):Option AV:=match x,y with
 |.v (.int k a),.v (.int k' c)=>(match b with
  |.shl=>(match A.lt c 0 with
   |true=>Ξ
   |false=>Θ (.v (.int k (A.shl k a c))))
  |.shr=>(match A.lt c 0 with
   |true=>Ξ
   |false=>Θ (.v (.int k (A.shr k a c))))
  |b=>if k=k' then(match b with
   |.and=>Θ (.v (.int k (A.bits .and k a c)))
   |.or=>Θ (.v (.int k (A.bits .or k a c)))
   |.xor=>Θ (.v (.int k (A.bits .xor k a c)))
   |.andNot=>Θ (.v (.int k (A.bits .andNot k a c)))
   |.quo=>(match A.eq c 0 with
    |true=>Ξ
    |false=>Θ (.v (.int k (A.quo k a c))))
   |.rem=>(match A.eq c 0 with
    |true=>Ξ
    |false=>Θ (.v (.int k (A.rem k a c))))
   |.add=>Θ (.v (.int k (A.add k a c)))
   |.sub=>Θ (.v (.int k (A.sub k a c)))
   |.mul=>Θ (.v (.int k (A.mul k a c)))
   |.eql=>Θ (.v (.bool (A.eq a c)))
   |.neq=>Θ (.v (.bool (A.not (A.eq a c))))
   |.lss=>Θ (.v (.bool (A.lt a c)))
   |.leq=>Θ (.v (.bool (A.le a c)))
   |.gtr=>Θ (.v (.bool (A.lt c a)))
   |.geq=>Θ (.v (.bool (A.le c a)))
   |_=>Ξ) else Ξ)
 |.v (.string a),.v (.string c)=>(match b with
   |.add=>(match Ap3 (A.slen a+A.slen c) 9223372036854775807 with
    |true=>Θ (.v (.string (A.cat a c)))
    |false=>Ξ)
   |.eql=>Θ (.v (.bool (A.seq a c)))
   |.neq=>Θ (.v (.bool (A.not (A.seq a c))))
   |.lss=>Θ (.v (.bool (A.slt a c)))
   |.geq=>Θ (.v (.bool (A.not (A.slt a c))))
   |_=>Ξ)
 |_,_=>Ξ
def Ad3(ek:Nat)(b:BinOp)(x y:AV):Option AV:=match ek,b with
 |0,_=>JJ A b x y
 |_,.eql=>(eqM A ek x y).map λt=>.v (.bool t)
 |_,.neq=>(eqM A ek x y).map λt=>.v (.bool (A.not t))
 |_,_=>Ξ
def AdY(f:Int->Int->Int)(x y:AV):Option AV:=match x,y with
 |.v (.int k a),.v (.int k' c)=>if k=k' then Θ (.v (.int k (f a c))) else Ξ
 |_,_=>Ξ
def Us(x i:AV):Option AV:=match x,i.idx with
 |.v (.string s),Θ i=>(match AqK i (A.slen s) with
  |true=>Θ (.v (.int .u8 (A.sat s i)))
  |false=>Ξ)
 |_,_=>Ξ
def KC(x:AV)(lo hi:Option AV):Option AV:=match x with
 |.v (.string s)=>(match Mz 0 lo,Mz (A.slen s) hi with
  |some l,Θ h=>(match Ap3 l h,Ap3 h (A.slen s) with
   |true,Δ=>Θ (.v (.string (A.ssub s l h)))
   |_,_=>Ξ)
  |_,_=>Ξ)
 |_=>Ξ
def Aay(k:IntKind)(x:AV):Option AV:=match x with
 |.v (.int _ n)=>Θ (.v (.int k (A.conv k n)))
 |_=>Ξ
def Am4(x:AV):Option AV:=match x with
 |.v (.bool b)=>Θ (.v (.bool (A.not b)))
 |_=>Ξ
def Am3(x:AV):Option AV:=match x with
 |.v (.int k n)=>Θ (.v (.int k (A.sub k 0 n)))
 |_=>Ξ
def IH:List (List AV)->List AV
 |[]=>[]
 |x::r=>x++IH r
def newsM(e:Nat)(x:AV):AM (Nat × List AV):=match x with
 |.sl b o n e'=>if e'=e then(AM.getB b).bind λk=>match Ap3 (o+n*e) k.cells.length,(k.ex||AO ((k.cells.drop o).take (n*e))) with
   |true,Δ=>AM.ret (n,(k.cells.drop o).take (n*e))
   |_,_=>AM.fail
   else AM.fail
 |.ls xs=>(match Gw e xs with
  |true=>AM.ret (AS xs,IH xs)
  |false=>AM.fail)
 |.v (.slice Ξ 0 0)=>AM.ret (0,[])
 |_=>AM.fail
def HI:List AV->Bool
 |[]=>Δ
 |x::r=>x.one&&HI r
def RM(z:List Value)(e:Nat)(x:AV):AM (Nat × List AV):=match x.idx with
 |some m=>(match Ap3 m 9223372036854775807 with
  |true=>AM.ret (m,BJ (z.map .v) (m*e))
  |false=>AM.fail)
 |none=>AM.fail
def appR(e bytes:Nat)(s:AV)(r:Nat × List AV):AM AV:=
 match AqA r.1 0 with
 |true=>if Pw s=Δ then AM.ret s else AM.fail
 |false=>match HI r.2 with
  |false=>AM.fail
  |true=>(match s with
   |.v (.slice Ξ 0 0)=>(match Ap3 (r.1*bytes) 140737488355328,Ap3 r.1 maxLen with
    |true,Δ=>(AM.newB ⟨r.2,Δ,Δ⟩).bind λb=>AM.ret (.sl b 0 r.1 e)
    |_,_=>AM.fail)
   |.sl b o n e'=>(match AqA e' e,Ap3 ((n+r.1)*bytes) 140737488355328,Ap3 (n+r.1) maxLen with
    |true,Δ,Δ=>(AM.getB b).bind λk=>match k.ex,k.st,AqA (o+n*e) k.cells.length with
     |true,Δ,Δ=>(AM.delB b).bind λ_=>(AM.newB ⟨(k.cells.take (o+n*e)).drop o++r.2,Δ,Δ⟩).bind λb'=>AM.ret (.sl b' 0 (n+r.1) e)
     |true,Φ,Δ=>(AM.setB b { k with ex:=Φ }).bind λ_=>(AM.newB ⟨(k.cells.take (o+n*e)).drop o++r.2,Φ,Δ⟩).bind λb'=>AM.ret (.sl b' 0 (n+r.1) e)
     |true,Δ,Φ=>(match Ap3 (o+n*e) k.cells.length with
      |true=>(AM.delB b).bind λ_=>(AM.newB ⟨(k.cells.take (o+n*e)).drop o++r.2,Δ,Δ⟩).bind λb'=>AM.ret (.sl b' 0 (n+r.1) e)
      |false=>AM.fail)
     |_,_,_=>AM.fail
    |_,_,_=>AM.fail)
   |_=>AM.fail)
def appM(e bytes:Nat)(s x:AV):AM AV:=(newsM e x).bind λr=>appR e bytes s r
def appzM(z:List Value)(e bytes:Nat)(s x:AV):AM AV:=(RM z e x).bind λr=>appR e bytes s r
def mkslM(z:List Value)(e bytes:Nat)(l c:AV):AM AV:=match l.idx,c.idx with
 |some n,Θ m=>(match Ap3 n m,Ap3 (m*bytes) 140737488355328,Ap3 m maxLen with
  |true,Δ,Δ=>(AM.newB ⟨BJ (z.map .v) (n*e),Δ,Δ⟩).bind λb=>AM.ret (.sl b 0 n e)
  |_,_,_=>AM.fail)
 |_,_=>AM.fail
def cpyM(e:Nat)(d x:AV):AM AV:=match d with
 |.sl b o n e'=>(match AqA e' e with
  |true=>(newsM e x).bind λr=>match HI (r.2.take (AqX r.1 n*e)) with
   |true=>(AM.getB b).bind λk=>match k.st,Ap3 (o+n*e) k.cells.length with
    |true,Δ=>(AM.setB b { k with cells:=Ay k.cells o (r.2.take (AqX r.1 n*e)) }).bind λ_=>AM.ret (.v (.int .i64 (ArZ (AqX r.1 n))))
    |_,_=>AM.fail
   |false=>AM.fail
  |false=>AM.fail)
 |_=>AM.fail
def clrM(z:List Value)(e:Nat)(x:AV):AM AV:=match x with
 |.sl b o n e'=>(match AqA e' e with
  |true=>(AM.getB b).bind λk=>match k.st,Ap3 (o+n*e) k.cells.length with
   |true,Δ=>(AM.setB b { k with cells:=Ay k.cells o (BJ (z.map .v) (n*e)) }).bind λ_=>AM.ret (.tup [])
   |_,_=>AM.fail
  |false=>AM.fail)
 |_=>AM.fail
def strM(x:AV):AM AV:=match Pw x with
 |true=>(newsM 1 x).bind λr=>AM.opt ((bytesOf r.2).map λl=>.v (.string ⟨l.toArray⟩))
 |false=>AM.fail
def Kb(T:List AV):List (Nat × Operand)->List (Nat × AV)
 |[]=>[]
 |(i,x)::r=>(i,AQ T x)::Kb T r
def Py(T:List AV):List Operand->List AV
 |[]=>[]
 |x::r=>AQ T x::Py T r
def mop(Γ:FuncId->List AV->AM AV)(o:MO)(T:List AV):AM AV:=match o with
 |.mv x=>AM.ret (AQ T x)
 |.pick c a b=>(match AQ T c with
  |.v (.bool t)=>(match t with
   |true=>AM.ret (AQ T a)
   |false=>AM.ret (AQ T b))
  |_=>AM.fail)
 |.alloc z=>(AM.newB ⟨z.map .v,Δ,Φ⟩).bind λb=>AM.ret (.ptr b 0)
 |.box x=>boxA (AQ T x)
 |.buildS z pl ps=>AM.opt (KX (pl[·]?) z (Kb T ps))
 |.buildR z e ps=>AM.opt (KX (λi=>Θ (i*e,e)) z (Kb T ps))
 |.buildSl z e n ps=>buildSlM z e n (Kb T ps)
 |.ld row n a=>loadM row n (AQ T a)
 |.st n a x=>storeM n (AQ T a) (AQ T x)
 |.nilck x=>(match AQ T x with
  |.ptr b o=>AM.ret (.ptr b o)
  |.lp cs=>AM.ret (.lp cs)
  |.fn (.func f) a c=>AM.ret (.fn (.func f) a c)
  |_=>AM.fail)
 |.bin ek b x y=>AM.opt (Ad3 A ek b (AQ T x) (AQ T y))
 |.eqs neg ks x y=>AM.opt (AjE A neg ks (AQ T x) (AQ T y))
 |.not x=>AM.opt (Am4 A (AQ T x))
 |.neg x=>AM.opt (Am3 A (AQ T x))
 |.mkfn f a c=>AM.ret (.fn f (Py T a) (Py T c))
 |.slice e x lo hi=>AM.opt (OV e (AQ T x) (lo.map (AQ T)) (hi.map (AQ T)))
 |.faddr off a=>AM.opt (Oh (AQ T a) off)
 |.field row off n x=>AM.opt (Vy row off n (AQ T x))
 |.iaddr e x i=>AM.opt (N6 e (AQ T x) (AQ T i))
 |.aaddr n e x i=>AM.opt (QQ n e (AQ T x) (AQ T i))
 |.index n e row sz x i=>AM.opt (N8 n e row sz (AQ T x) (AQ T i))
 |.ext x i=>AM.opt (JU (AQ T x) i)
 |.mksl z e bytes l c=>mkslM z e bytes (AQ T l) (AQ T c)
 |.app e bytes s x=>appM e bytes (AQ T s) (AQ T x)
 |.appz z e bytes s x=>appzM z e bytes (AQ T s) (AQ T x)
 |.cpy e d x=>cpyM e (AQ T d) (AQ T x)
 |.clr z e x=>clrM z e (AQ T x)
 |.len sl x=>AM.opt (AjX A sl (AQ T x))
 |.sidx x i=>AM.opt (Us A (AQ T x) (AQ T i))
 |.sslice x lo hi=>AM.opt (KC A (AQ T x) (lo.map (AQ T)) (hi.map (AQ T)))
 |.iconv k x=>AM.opt (Aay A k (AQ T x))
 |.str x=>strM (AQ T x)
 |.mx x y=>AM.opt (AdY (A.max) (AQ T x) (AQ T y))
 |.mn x y=>AM.opt (AdY (A.min) (AQ T x) (AQ T y))
 |.callF f args=>Γ f (Py T args)
 |.callV ents x args=>(match AQ T x with
  |.fn (.func g) a cs=>(match ents.testBit g with
   |true=>Γ g (a++Py T args++cs)
   |false=>AM.fail)
  |_=>AM.fail)
 |.bad=>AM.fail
def UN(T:List AV)(g:Option (Nat × Bool)):Option Bool:=match g with
 |none=>Θ Δ
 |some (d,want)=>match T[d]? with
  |some (.v (.bool b))=>(match want with
   |true=>Θ b
   |false=>Θ (A.not b))
  |some (.v (.tuple _))=>Θ Φ
  |_=>Ξ
def coreM(Γ:FuncId->List AV->AM AV)(o:MOp)(T:List AV):AM AV:=match UN A T o.g with
 |some t=>(match t with
  |true=>mop A Γ o.op T
  |false=>AM.ret AV.undef)
 |none=>AM.fail
def runM(Γ:FuncId->List AV->AM AV):List MOp->List AV->AH->Option (List AV × AH × List Foot)
 |[],T,H=>Θ (T,H,[])
 |o::r,T,H=>match coreM A Γ o T H with
  |none=>Ξ
  |some (v,H1,f)=>match runM Γ r (Cf T o.dst v) H1 with
   |none=>Ξ
   |some (T2,H2,fs)=>Θ (T2,H2,f::fs)
def regM(Γ:FuncId->List AV->AM AV)(ops:List MOp)(bf:Option (List Nat))(T:List AV):AM (AX × List AV):=λH=>match runM A Γ ops T H with
 |none=>Ξ
 |some (T',H',fs)=>match bf with
  |none=>Θ ((.normal,T'),H',⟨fs.flatMap (·.rd),fs.flatMap (·.wr)⟩)
  |some bf=>(match Ee bf fs with
   |true=>Θ ((.normal,T'),H',⟨fs.flatMap (·.rd),fs.flatMap (·.wr)⟩)
   |false=>Ξ)
def Cn{α:Type}:List Bool->List α->List α
 |true::l,x::r=>x::Cn l r
 |false::l,_::r=>Cn l r
 |_,_=>[]
def BQ:List Bool->Nat->List AV->List AV
 |_,0,_=>[]
 |true::l,n+1,x::xs=>x::BQ l n xs
 |true::l,n+1,[]=>.any::BQ l n []
 |false::l,n+1,xs=>.any::BQ l n xs
 |[],n+1,_=>.any::BQ [] n []
def axN:AX->Nat
 |.exit i=>i+1
 |_=>0
def Aep:List (Nat × (List Bool × (List Nat × List Nat)))->Nat->List Bool × (List Nat × List Nat)
 |[],_=>([],([],[]))
 |(k,m)::r,n=>match AqA k n with
  |true=>m
  |false=>Aep r n
def LpH.out(h:LpH)(x:AX):List Bool:=(Aep h.outs (axN x)).1
def LpH.fzo(h:LpH)(x:AX):List Nat:=(Aep h.outs (axN x)).2.1
def LpH.dlo(h:LpH)(x:AX):List Nat:=(Aep h.outs (axN x)).2.2
def TW(T:List AV)(t:Nat):Bool:=match T[t]? with
 |some (.v z)=>Lj z
 |_=>Φ
theorem Ab9{T:List AV}{t:Nat}(h:TW T t=Δ):T[t]? = Θ (.v (.slice Ξ 0 0)):=by
 unfold TW at h;split at h
 .rename_i z e
  rw[e,Iw h]
 .cases h
def FG(cs:List AV)(i:Nat):Bool:=match cs[i]? with
 |some (.v z)=>Lj z
 |_=>Φ
def adoptB1(b i e:Nat):AM Unit:=(AM.getB b).bind λk=>match k.ex,FG k.cells i with
 |false,Δ=>(AM.newB ⟨[],Δ,Δ⟩).bind λc=>(AM.getB b).bind λk2=>(match k2.ex,FG k2.cells i with
  |false,Δ=>AM.setB b { k2 with cells:=k2.cells.set i (.sl c 0 0 e) }
  |_,_=>AM.fail)
 |_,_=>AM.ret ()
def nilB(b i:Nat):AM Unit:=(AM.getB b).bind λk=>match k.ex,FG k.cells i with
 |false,Δ=>AM.setB b { k with cells:=k.cells.set i (.ls []) }
 |_,_=>AM.ret ()
def adoptB(b i e:Nat):AM Unit:=match AqA e 0 with
 |true=>nilB b i
 |false=>adoptB1 b i e
def PM(T:List AV)(t:Nat):Option (Nat × Nat):=match Ap3 1000000 t with
 |true=>(match T[t % 1000000]? with
  |some (.ptr b o)=>Θ (b,o+(t / 1000000-1))
  |_=>Ξ)
 |false=>Ξ
def adoptM:List (Nat × Nat)->List AV->AM (List AV)
 |[],T=>AM.ret T
 |(t,e)::r,T=>match TW T t with
  |true=>(AM.newB ⟨[],Δ,Δ⟩).bind λb=>adoptM r (T.set t (.sl b 0 0 e))
  |false=>(match PM T t with
   |some q=>(adoptB q.1 q.2 e).bind λ_=>adoptM r T
   |none=>adoptM r T)
def Bi:Nat->Nat->List AV->List (List AV)
 |0,_,_=>[]
 |n+1,e,l=>l.take e::Bi n e (l.drop e)
def Ab8(z:Value):AV:=match Lj z with
 |true=>.ls []
 |false=>.v z
def frz0(x:AV):AM AV:=match x with
 |.v z=>AM.ret (Ab8 z)
 |.sl ..=>AM.fail
 |.agg _=>AM.fail
 |.tup _=>AM.fail
 |x=>AM.ret x
mutual
def frz:Nat->AV->AM AV
 |0,x=>frz0 x
 |n+1,x=>match x with
  |.v z=>AM.ret (Ab8 z)
  |.sl b o m e=>(AM.getB b).bind λk=>match Ap3 (o+m*e) k.cells.length with
   |false=>AM.fail
   |true=>(match k.st with
    |true=>AM.setB b { k with st:=Φ }
    |false=>AM.ret ()).bind λ_=>match (k.ex||AO ((k.cells.drop o).take (m*e))) with
     |true=>AM.ret (.ls (Bi m e ((k.cells.drop o).take (m*e))))
     |false=>(frzL n ((k.cells.drop o).take (m*e))).bind λcs=>match AO cs with
      |true=>AM.ret (.ls (Bi m e cs))
      |false=>AM.fail
  |.agg cs=>(frzL n cs).bind λcs=>AM.ret (.agg cs)
  |.tup cs=>(frzL n cs).bind λcs=>AM.ret (.tup cs)
  |x=>AM.ret x
def frzL:Nat->List AV->AM (List AV)
 |_,[]=>AM.ret []
 |0,_::_=>AM.fail
 |n+1,x::r=>(frz n x).bind λx=>(frzL n r).bind λr=>AM.ret (x::r)
end
def frzB(b:Nat):AM Unit:=(AM.getB b).bind λk=>match k.ex,k.st with
 |false,Δ=>(frzL 1000 k.cells).bind λcs=>(AM.getB b).bind λk2=>(match k2.ex,AqA cs.length k2.cells.length with
  |false,Δ=>AM.setB b { k2 with cells:=cs }
  |_,_=>AM.fail)
 |_,_=>AM.ret ()
def frzT:List Nat->List AV->AM (List AV)
 |[],T=>AM.ret T
 |t::r,T=>match T[t]? with
  |some (.ptr b _)=>(frzB b).bind λ_=>frzT r T
  |some x=>(frz 1000 x).bind λy=>frzT r (T.set t y)
  |none=>frzT r T
def evC(Γ:FuncId->List AV->AM AV)(Λ:Nat->List AV->AM (AX × List AV)):MC->List AV->AM (AX × List AV)
 |.skip,T=>AM.ret (.normal,T)
 |.reg ops bf,T=>regM A Γ ops bf T
 |.seq a b,T=>(evC Γ Λ a T).bind λr=>match r.1 with
  |.normal=>evC Γ Λ b r.2
  |ax=>AM.ret (ax,r.2)
 |.cond c a b,T=>(match AQ T c with
  |.v (.bool t)=>(match t with
   |true=>evC Γ Λ a T
   |false=>evC Γ Λ b T)
  |_=>AM.fail)
 |.block id c,T=>(evC Γ Λ c T).bind λr=>match r.1 with
  |.exit i=>if i=id then AM.ret (.normal,r.2) else AM.ret (.exit i,r.2)
  |ax=>AM.ret (ax,r.2)
 |.loop i h,T=>(adoptM h.ad T).bind λT=>(frzT h.fz T).bind λT=>match AqA T.length h.n with
  |true=>(Λ i (Cn h.live T)).bind λr=>AM.ret (r.1,BQ (h.out r.1) h.n r.2)
  |false=>AM.fail
 |.exit id,T=>AM.ret (.exit id,T)
 |.ret,T=>AM.ret (.ret,T)
 |.bad,_=>AM.fail
end
mutual
def AV.ids:AV->List Nat
 |.v _=>[]
 |.ptr b _=>[b]
 |.sl b _ _ _=>[b]
 |.ls _=>[]
 |.lp _=>[]
 |.agg cs=>Eu cs
 |.tup cs=>Eu cs
 |.fn _ a c=>Eu a++Eu c
 |.any=>[]
def Eu:List AV->List Nat
 |[]=>[]
 |x::r=>x.ids++Eu r
end
mutual
def AV.ren(τ:Nat->Nat):AV->AV
 |.v x=>.v x
 |.ptr b o=>.ptr (τ b) o
 |.sl b o n e=>.sl (τ b) o n e
 |.ls xs=>.ls xs
 |.lp cs=>.lp cs
 |.agg cs=>.agg (G4 τ cs)
 |.tup cs=>.tup (G4 τ cs)
 |.fn f a c=>.fn f (G4 τ a) (G4 τ c)
 |.any=>.any
def G4(τ:Nat->Nat):List AV->List AV
 |[]=>[]
 |x::r=>x.ren τ::G4 τ r
end
def ABlk.ren(τ:Nat->Nat)(k:ABlk):ABlk:=match k.ex with
 |true=>k
 |false=>{ k with cells:=G4 τ k.cells }
def ABlk.ids(k:ABlk):List Nat:=match k.ex with
 |true=>[]
 |false=>Eu k.cells
inductive BO where
 |keep
 |del
 |set (k:ABlk)
def BO.ids:BO->List Nat
 |.set k=>k.ids
 |_=>[]
def BO.ren(τ:Nat->Nat):BO->BO
 |.keep=>.keep
 |.del=>.del
 |.set k=>.set (k.ren τ)
abbrev DF:=List AV->List ABlk->Option (AV × List BO)
inductive Key where
 |fn (f:Nat)
 |lp (f i:Nat)
inductive Orc where
 |mk (f:Key->List AV->List ABlk->Option (AV × List BO))
 |no
def Orc.ask(D:Orc)(k:Key)(args:List AV)(bs:List ABlk):Option (AV × List BO):=match D with
 |.mk f=>f k args bs
 |.no=>Ξ
def Fq(b:Nat):List Nat->Bool
 |[]=>Φ
 |c::r=>match AqA b c with
  |true=>Δ
  |false=>Fq b r
def idx(b:Nat):List Nat->Nat
 |[]=>0
 |c::r=>match AqA b c with
  |true=>0
  |false=>idx b r+1
def trav:Nat->List Nat->List Nat->AM (List Nat)
 |_,[],acc=>AM.ret acc
 |0,_::_,_=>AM.fail
 |n+1,b::r,acc=>match Fq b acc with
  |true=>trav n r acc
  |false=>(AM.getB b).bind λk=>trav n (r++k.ids) (acc++[b])
def readAll:List Nat->AM (List ABlk)
 |[]=>AM.ret []
 |b::r=>(AM.getB b).bind λk=>(readAll r).bind λl=>AM.ret (k::l)
def nextB:AM Nat:=λH=>Θ (H.next,H,⟨[],[]⟩)
def writeAll(σ:Nat->Nat):List Nat->List BO->AM (List BO)
 |[],out=>AM.ret out
 |_::_,[]=>AM.fail
 |b::r,o::out=>(match o with
  |.keep=>AM.ret ()
  |.del=>AM.delB b
  |.set k=>AM.setB b (k.ren σ)).bind λ_=>writeAll σ r out
def newAll(σ:Nat->Nat):List BO->AM Unit
 |[]=>AM.ret ()
 |.set k::out=>(AM.newB (k.ren σ)).bind λ_=>newAll σ out
 |_::_=>AM.fail
def Y0:List Nat->Nat->Option Nat
 |[],_=>Ξ
 |x::_,0=>Θ x
 |_::r,n+1=>Y0 r n
def GS(L:List Nat)(n c:Nat):Nat:=match Y0 L c with
 |some b=>b
 |none=>n+(c-L.length)
def No(n:Nat):List Nat->Bool
 |[]=>Δ
 |c::r=>match AqK c n with
  |true=>No n r
  |false=>Φ
def QU(n:Nat):List BO->Bool
 |[]=>Δ
 |o::r=>match No n o.ids with
  |true=>QU n r
  |false=>Φ
def callD(D:DF)(args:List AV):AM AV:=
 (trav 4096 (Eu args) []).bind λL=>(readAll L).bind λbs=>
  (AM.opt (D (G4 (λb=>idx b L) args) (bs.map (ABlk.ren λb=>idx b L)))).bind λr=>
   match No r.2.length r.1.ids,QU r.2.length r.2 with
   |true,Δ=>nextB.bind λn=>(writeAll (GS L n) L r.2).bind λout=>(newAll (GS L n) out).bind λ_=>AM.ret (r.1.ren (GS L n))
   |_,_=>AM.fail
def C0:Nat->List ABlk->List (Nat × ABlk)
 |_,[]=>[]
 |n,k::r=>(n,k)::C0 (n+1) r
def V5(H:AH)(wr:List Nat)(b:Nat):BO:=match Fq b wr with
 |false=>.keep
 |true=>(match H.get b with
  |some k=>.set k
  |none=>.del)
def AgB(H:AH)(b:Nat):BO:=match H.get b with
 |some k=>.set k
 |none=>.del
def DV:Nat->Nat->List Nat
 |_,0=>[]
 |a,n+1=>a::DV (a+1) n
def ER(m:List AV->AM AV):DF:=λargs bs=>match m args ⟨C0 0 bs,bs.length,Ξ⟩ with
 |some (r,H',ft)=>Θ (r,(DV 0 bs.length).map (V5 H' ft.wr)++(DV bs.length (H'.next-bs.length)).map (AgB H'))
 |none=>Ξ
def VZ:List BO->Nat->Option BO
 |[],_=>Ξ
 |x::_,0=>Θ x
 |_::r,n+1=>VZ r n
def FT(k:Nat)(out:List BO):Nat->List Nat->List Nat->Option (List Nat)
 |_,[],acc=>Θ acc
 |0,_::_,_=>Ξ
 |n+1,b::r,acc=>match AqK b k with
  |true=>FT k out n r acc
  |false=>match Fq b acc with
   |true=>FT k out n r acc
   |false=>match VZ out b with
    |some (.set kb)=>FT k out n (r++kb.ids) (acc++[b])
    |_=>Ξ
def Yz(k:Nat)(acc:List Nat)(b:Nat):Nat:=match AqK b k with
 |true=>b
 |false=>k+idx b acc
def IZ:List BO->Nat->List BO
 |[],_=>[]
 |_::_,0=>[]
 |x::r,n+1=>x::IZ r n
def VK:List BO->List Nat
 |[]=>[]
 |o::r=>o.ids++VK r
def T8(τ:Nat->Nat)(out:List BO):List Nat->List BO
 |[]=>[]
 |b::r=>(match VZ out b with
  |some o=>o.ren τ
  |none=>.del)::T8 τ out r
def AcB(τ:Nat->Nat):List BO->List BO
 |[]=>[]
 |o::r=>o.ren τ::AcB τ r
def Pj(D:DF):DF:=λargs bs=>match D args bs with
 |none=>Ξ
 |some (r,out)=>match FT bs.length out 4096 (r.ids++VK (IZ out bs.length)) []with
  |none=>Ξ
  |some acc=>Θ (r.ren (Yz bs.length acc),AcB (Yz bs.length acc) (IZ out bs.length)++T8 (Yz bs.length acc) out acc)
def Acl(own:List (Nat × Nat))(f i:Nat):Bool:=match own with
 |[]=>Φ
 |(g,j)::r=>match AqA f g,AqA i j with
  |true,Δ=>Δ
  |_,_=>Acl r f i
def frzA(own:List (Nat × Nat))(f:Nat):Nat->List AV->AM (List AV)
 |_,[]=>AM.ret []
 |i,x::r=>match Acl own f i with
  |true=>(frzA own f (i+1) r).bind λr=>AM.ret (x::r)
  |false=>(frz 1000 x).bind λx=>(frzA own f (i+1) r).bind λr=>AM.ret (x::r)
def touchS(x:AV):AM AV:=match x with
 |.sl b o n e=>(AM.getB b).bind λk=>match k.ex with
  |true=>(AM.delB b).bind λ_=>(AM.newB k).bind λc=>AM.ret (.sl c o n e)
  |false=>AM.ret (.sl b o n e)
 |x=>AM.ret x
def touchL:List AV->AM (List AV)
 |[]=>AM.ret []
 |x::r=>(touchS x).bind λx=>(touchL r).bind λr=>AM.ret (x::r)
def touchB(b:Nat):AM Unit:=(AM.getB b).bind λk=>match k.ex,k.st with
 |false,Δ=>(touchL k.cells).bind λcs=>(AM.getB b).bind λk2=>(match k2.ex,AqA cs.length k2.cells.length with
  |false,Δ=>AM.setB b { k2 with cells:=cs }
  |_,_=>AM.fail)
 |true,Δ=>AM.setB b k
 |_,_=>AM.ret ()
def touchI:List Nat->AM Unit
 |[]=>AM.ret ()
 |b::r=>(touchB b).bind λ_=>touchI r
def touchV(x:AV):AM AV:=match x with
 |.sl b o n e=>touchS (.sl b o n e)
 |.agg cs=>(touchL cs).bind λcs=>(touchI (Eu cs)).bind λ_=>AM.ret (.agg cs)
 |x=>(touchI x.ids).bind λ_=>AM.ret x
def touchA:List Bool->List AV->AM (List AV)
 |_,[]=>AM.ret []
 |true::m,x::r=>(touchI x.ids).bind λ_=>(touchA m r).bind λr=>AM.ret (x::r)
 |false::m,x::r=>(touchV x).bind λx=>(touchA m r).bind λr=>AM.ret (x::r)
 |[],x::r=>(touchV x).bind λx=>(touchA [] r).bind λr=>AM.ret (x::r)
def LpH.nt(h:LpH)(x:AX):List Bool:=Cn (h.out x) ((DV 0 h.n).map λt=>Fq (1000000+t) (h.dlo x))
def delC(b i:Nat):AM Unit:=(AM.getB b).bind λk=>match k.cells[i]? with
 |some (.sl c _ _ _)=>AM.delB c
 |_=>AM.ret ()
def delT:List Nat->List AV->AM Unit
 |[],_=>AM.ret ()
 |t::r,T=>match T[t]? with
  |some (.sl b _ _ _)=>(AM.delB b).bind λ_=>delT r T
  |some (.ptr b _)=>(AM.delB b).bind λ_=>delT r T
  |_=>(match PM T t with
   |some q=>(delC q.1 q.2).bind λ_=>delT r T
   |none=>delT r T)
inductive MRes where
 |tmp (t:Nat)
 |cell (t:Nat) (row:Bool) (n:Nat)
structure MFn where
 nt:Nat
 res:List MRes
 body:MC
 loops:List (LpH × MC)
 own:Bool
 tch:Bool
def resM(T:List AV):List MRes->AM (List AV)
 |[]=>AM.ret []
 |.tmp t::r=>(resM T r).bind λl=>AM.ret ((T[t]?).getD AV.undef::l)
 |.cell x row n::r=>(loadM row n ((T[x]?).getD AV.undef)).bind λv=>(resM T r).bind λl=>AM.ret (v::l)
def axA:AX->AV
 |.normal=>.v (.bool Φ)
 |.ret=>.v (.bool Δ)
 |.exit i=>.v (.int .i64 (ArZ i))
 |.goto _=>.any
def UY:AV->Option AX
 |.v (.bool Δ)=>Θ .ret
 |.v (.bool Φ)=>Θ .normal
 |.v (.int .i64 (.ofNat i))=>Θ (.exit i)
 |_=>Ξ
section
variable (A:Ar) (D:Orc) (own:List (Nat × Nat))
def callsM(f:FuncId)(args:List AV):AM AV:=(frzA own f 0 args).bind λl=>callD (D.ask (.fn f)) l
def loopsM(f i:Nat)(xs:List AV):AM (AX × List AV):=(callD (D.ask (.lp f i)) xs).bind λr=>match r with
 |.tup (x::ys)=>(match UY x with
  |some ax=>AM.ret (ax,ys)
  |none=>AM.fail)
 |_=>AM.fail
def fnM(f:Nat)(mf:MFn)(args:List AV):AM AV:=(evC A (callsM D own) (loopsM D f) mf.body (Rh mf.nt args)).bind λr=>match r.1 with
 |.exit _=>AM.fail
 |.goto _=>AM.fail
 |_=>(resM r.2 mf.res).bind λl=>(match mf.own with
  |true=>AM.ret (IL l)
  |false=>frz 1000 (IL l)).bind λv=>match mf.tch with
   |true=>(touchI (Eu args)).bind λ_=>AM.ret v
   |false=>AM.ret v
def lpM(f i:Nat)(h:LpH)(c:MC)(xs:List AV):AM AV:=(evC A (callsM D own) (loopsM D f) c (BQ h.live h.n xs)).bind λr=>match r.1 with
 |.normal=>(frzT h.fz r.2).bind λT=>(loopsM D f i (Cn h.live T)).bind λq=>AM.ret (.tup (axA q.1::q.2))
 |.goto _=>AM.fail
 |ax=>(frzT (h.fzo ax) r.2).bind λT=>(delT (h.dlo ax) T).bind λ_=>(touchA (h.nt ax) (Cn (h.out ax) T)).bind λys=>AM.ret (.tup (axA ax::ys))
end
section
variable (P:Program)
def RU(t:TypeId):Option Nat:=match P.underlying t with
 |some .bool=>Θ 1
 |some (.int _)=>Θ 0
 |some .string=>Θ 2
 |_=>Ξ
def PX:List Field->Nat->Option (List Nat)
 |[],_=>Θ []
 |f::r,n=>if(f.offset == n&&f.name != "_"&&(B3 P f.type == Θ Φ))=Δ then(match RU P f.type,PX r (n+1) with
  |some k,Θ ks=>Θ (k::ks)
  |_,_=>Ξ) else Ξ
def eqS(t:TypeId):Option (List Nat):=match P.underlying t with
 |some (.struct fs)=>if(!P.stoodInHeld t&&!P.eqGuardType P.depth t)=Δ then PX P fs.toList 0 else Ξ
 |_=>Ξ
def Gc(t:TypeId):Nat:=match P.underlying t with
 |some (.pointer _)=>1
 |some (.slice _)=>2
 |some (.func ..)=>3
 |some .bool=>4
 |some (.int _)=>0
 |some .string=>0
 |_=>9
def LY(t:TypeId):Option (Nat × List Value × Nat):=match B7 P t with
 |some et=>(match P.info? et,CE P et with
  |some i,Θ z=>if z.cells.size=i.size/\0<i.size then Θ (i.size,z.cells.toList,i.bytes) else Ξ
  |_,_=>Ξ)
 |none=>Ξ
def Vb(ents:Nat)(o:Op):MO:=match o with
 |.move x=>.mv x
 |.assign x=>.mv x
 |.pick c a b=>.pick c a b
 |.alloc t=>(match CE P t with
  |some z=>.alloc z.cells.toList
  |none=>.bad)
 |.box _ x=>.box x
 |.build t ps=>(match CE P t,Cx P t with
  |some z,Θ fs=>(match IB P fs.toList with
   |some pl=>.buildS z.cells.toList pl ps.toList
   |none=>.bad)
  |some z,Ξ=>(match Nd P t with
   |some et=>(match Dl P et with
    |some e=>.buildR z.cells.toList e ps.toList
    |none=>.bad)
   |none=>.bad)
  |_,_=>.bad)
 |.buildSlice t n ps=>(match B7 P t with
  |some et=>(match Dl P et,CE P et with
   |some e,Θ z=>.buildSl z.cells.toList e n ps.toList
   |_,_=>.bad)
  |none=>.bad)
 |.load t a=>(match B3 P t,Dl P t with
  |some Δ,Θ n=>.ld Δ n a
  |some Φ,_=>.ld Φ 0 a
  |_,_=>.bad)
 |.store t a x=>(match Dl P t with
  |some n=>.st n a x
  |none=>.bad)
 |.nilCheck x=>.nilck x
 |.binOp b t x y _=>(match eqS P t with
  |some ks=>(match b with
   |.eql=>.eqs Φ ks x y
   |.neq=>.eqs Δ ks x y
   |_=>.bad)
  |none=>(match Gc P t with
   |9=>.bad
   |k=>.bin k b x y))
 |.unOp .not _ x=>.not x
 |.unOp .neg _ x=>.neg x
 |.makeFunc f a c=>.mkfn f a.toList c.toList
 |.slice t x lo hi Ξ=>(match B7 P t with
  |some et=>(match Dl P et with
   |some e=>.slice e x lo hi
   |none=>.bad)
  |none=>if BK P t then .sslice x lo hi else .bad)
 |.fieldAddr t a f=>(match Cx P t with
  |some fs=>(match fs[f]? with
   |some fd=>(match Dl P fd.type with
    |some (_+1)=>.faddr fd.offset a
    |_=>.bad)
   |none=>.bad)
  |none=>.bad)
 |.field t x f=>(match Cx P t with
  |some fs=>(match fs[f]? with
   |some fd=>(match B3 P fd.type,Dl P fd.type with
    |some Δ,Θ n=>.field Δ fd.offset n x
    |some Φ,_=>.field Φ fd.offset 0 x
    |_,_=>.bad)
   |none=>.bad)
  |none=>.bad)
 |.indexAddr t x i=>(match B7 P t,Pq P t with
  |some et,_=>(match Dl P et with
   |some e=>.iaddr e x i
   |none=>.bad)
  |none,Θ (n,et)=>(match Dl P et with
   |some e=>.aaddr n e x i
   |none=>.bad)
  |_,_=>.bad)
 |.index t x i=>(match Pq P t with
  |some (n,et)=>(match Dl P et,B3 P et with
   |some e,Θ Δ=>.index n e Δ e x i
   |some e,Θ Φ=>.index n e Φ 0 x i
   |_,_=>.bad)
  |none=>if BK P t then .sidx x i else .bad)
 |.convert s d x=>(match P.underlying s,P.underlying d with
  |some (.int _),Θ (.int k)=>.iconv k x
  |_,_=>(match Dp P s,BK P d with
   |true,Δ=>.str x
   |_,_=>.bad))
 |.extract x i=>.ext x i
 |.makeSlice t l c=>(match LY P t with
  |some (e,z,by')=>.mksl z e by' l c
  |none=>.bad)
 |.call c=>(match c.callee with
  |.builtin .append=>(match c.args.toList,c.argTypes.toList with
   |[s,x],[t,u]=>(match LY P t,CL P u with
    |some (e,_,by'),Δ=>.app e by' s x
    |some (e,z,by'),Φ=>(match Lh P u with
     |true=>.appz z e by' s x
     |false=>.bad)
    |_,_=>.bad)
   |_,_=>.bad)
  |.builtin .copy=>(match c.args.toList,c.argTypes.toList with
   |[d,x],[t,u]=>(match B7 P t,CL P u with
    |some et,Δ=>(match Dl P et with
     |some e=>.cpy e d x
     |none=>.bad)
    |_,_=>.bad)
   |_,_=>.bad)
  |.builtin .clear=>(match c.args.toList,c.argTypes.toList with
   |[x],[t]=>(match B7 P t with
    |some et=>(match Dl P et,CE P et with
     |some e,Θ z=>if z.cells.size=e/\0<e/\(z.cells.toList.map AV.v).all AV.one=Δ then .clr z.cells.toList e x else .bad
     |_,_=>.bad)
    |none=>.bad)
   |_,_=>.bad)
  |.builtin .len=>(match c.args.toList,c.argTypes.toList with
   |[x],[t]=>if CL P t then .len Δ x else if BK P t then .len Φ x else .bad
   |_,_=>.bad)
  |.builtin .max=>(match c.args.toList with
   |[x,y]=>.mx x y
   |_=>.bad)
  |.builtin .min=>(match c.args.toList with
   |[x,y]=>.mn x y
   |_=>.bad)
  |.builtin _=>.bad
  |.value f=>(match f with
   |.func g=>if F7 P g then .callF g c.args.toList else .bad
   |_=>.callV ents f c.args.toList)
  |.invoke ..=>.bad)
 |_=>.bad
def Aax(ops:Array Oper)(g:Option (Nat × Bool)):Option (Option (Nat × Bool)):=match g with
 |none=>Θ Ξ
 |some (j,want)=>match (ops[j]?).bind (·.dst) with
  |some d=>Θ (Θ (d,want))
  |none=>Ξ
def IP(ents:Nat)(ops:Array Oper)(o:Oper):MOp:=match Aax ops o.guard with
 |some g=>⟨o.dst,Vb P ents o.op,g⟩
 |none=>⟨o.dst,.bad,Ξ⟩
abbrev JG:=List LpH
def Bl(ents:Nat)(hs:JG):Code->Nat->MC × List (LpH × MC)
 |.skip,_=>(.skip,[])
 |.region _ ops d,_=>(.reg (ops.toList.map (IP P ents ops)) (if d then Θ (SF ops) else Ξ),[])
 |.seq a b,n=>match Bl ents hs a n with
  |(ma,la)=>match Bl ents hs b (n+la.length) with
   |(mb,lb)=>(.seq ma mb,la++lb)
 |.cond c a b,n=>match Bl ents hs a n with
  |(ma,la)=>match Bl ents hs b (n+la.length) with
   |(mb,lb)=>(.cond c ma mb,la++lb)
 |.block id c,n=>match Bl ents hs c n with
  |(mc,lc)=>(.block id mc,lc)
 |.loop c,n=>match Bl ents hs c (n+1),hs[n]? with
  |(mc,lc),Θ h=>(.loop n h,(h,mc)::lc)
  |(mc,lc),Ξ=>(.bad,(⟨0,[],[],[],[]⟩,mc)::lc)
 |.exit id,_=>(.exit id,[])
 |.ret,_=>(.ret,[])
 |_,_=>(.bad,[])
def IQ(rs:List ResultVar):List MRes:=rs.map λr=>match r with
 |.tmp t=>.tmp t
 |.cell t ty=>match B3 P ty,Dl P ty with
  |some Δ,Θ n=>.cell t Δ n
  |some Φ,_=>.cell t Φ 0
  |_,_=>.tmp 1000000
end
section
variable {P:Program}
@[simp] theorem Cg{α:Type}(a:α):As P (pure a:Sem α)=Θ a:=rfl
@[simp] theorem AdJ{α:Type}(a:α):As P (Sem.pure a:Sem α)=Θ a:=rfl
theorem IV{α β:Type}(k:α->Sem β):∀(s:Sem α),As P (s.bind k)=(As P s).bind λa=>As P (k a)
 |.pure a=>rfl
 |.program f=>by simp only[Sem.bind,As];exact IV k (f P)
 |.load ..=>rfl
 |.store ..=>rfl
 |.new ..=>rfl
 |.shape ..=>rfl
 |.freeze ..=>rfl
 |.frozen ..=>rfl
 |.getObj ..=>rfl
 |.setObj ..=>rfl
 |.choose ..=>rfl
 |.sys ..=>rfl
 |.mark ..=>rfl
 |.halt ..=>rfl
@[simp] theorem Ao{α β:Type}(s:Sem α)(k:α->Sem β):As P (s >>= k)=(As P s).bind λa=>As P (k a):=IV k s
@[simp] theorem MB:As P program=Θ P:=rfl
theorem AN{t:TypeId}{d:TypeDesc}(h:P.underlying t=Θ d):As P (underlying t)=Θ d:=by
 unfold underlying;simp[h]
theorem Oc{t:TypeId}(h:Gc P t=1):∃ e,P.underlying t=Θ (.pointer e):=by
 unfold Gc at h;split at h<;>first|exact⟨_,‹_›⟩|cases h
theorem Xb{t:TypeId}(h:Gc P t=2):∃ e,P.underlying t=Θ (.slice e):=by
 unfold Gc at h;split at h<;>first|exact⟨_,‹_›⟩|cases h
theorem Xa{t:TypeId}(h:Gc P t=3):∃ a b c,P.underlying t=Θ (.func a b c):=by
 unfold Gc at h;split at h<;>first|exact⟨_,_,_,‹_›⟩|cases h
theorem YK{t:TypeId}(h:Gc P t=4):P.underlying t=Θ .bool:=by
 unfold Gc at h;split at h<;>first|assumption|cases h
theorem P2{o:Oper}{b:BinOp}{t yt:TypeId}{x y:Operand}(ho:o.op=.binOp b t x y yt){ρ:Operand->AV}{u v z:Value}(hx:(ρ x).toVal=Θ u)(hy:(ρ y).toVal=Θ v)
  (h:As P (do eqGuard b t x y u v;binOp b t u v)=Θ z):Cy P o ρ=Θ (EA z):=by
 have e1:BL ρ x=u:=by unfold BL;rw[hx];rfl
 have e2:BL ρ y=v:=by unfold BL;rw[hy];rfl
 have c:(BU o.op&&o.op.operands.toList.all λx=>(ρ x).toVal.isSome)=Δ:=by
  rw[ho];simp[BU,Op.operands,hx,hy]
 unfold Cy;rw[if_pos c];have:As P (execOp (BL ρ) o)=Θ (.value z):=by
  unfold execOp;rw[ho];simp only[e1,e2];rw[Ao,h];rfl
 rw[this];rfl
theorem NK{o:Oper}{b:BinOp}{t yt:TypeId}{x y:Operand}(ho:o.op=.binOp b t x y yt){ρ:Operand->AV}{u v z:Value}(hx:ρ x=.v u)(hy:ρ y=.v v)
  (h:As P (do eqGuard b t x y u v;binOp b t u v)=Θ z):Cy P o ρ=Θ (EA z):=P2 ho (by rw[hx];rfl) (by rw[hy];rfl) h
theorem Aa8{o:Oper}{t:TypeId}{x:Operand}(ho:o.op=.unOp .not t x){ρ:Operand->AV}{c:Bool}(hx:ρ x=.v (.bool c)):Cy P o ρ=Θ (.v (.bool !c)):=by
 have e1:BL ρ x=.bool c:=by unfold BL;rw[hx];rfl
 have cc:(BU o.op&&o.op.operands.toList.all λx=>(ρ x).toVal.isSome)=Δ:=by
  rw[ho];simp[BU,Op.operands,hx,AV.toVal]
 unfold Cy;rw[if_pos cc];have:As P (execOp (BL ρ) o)=Θ (.value (.bool !c)):=by
  unfold execOp;rw[ho];simp only[e1];rw[Ao];rfl
 rw[this];rfl
theorem Aa7{o:Oper}{t:TypeId}{x:Operand}(ho:o.op=.unOp .neg t x){ρ:Operand->AV}{k:IntKind}{n:Int}(hx:ρ x=.v (.int k n)):Cy P o ρ=Θ (.v (.int k (Ad.sub k 0 n))):=by
 have e1:BL ρ x=.int k n:=by unfold BL;rw[hx];rfl
 have cc:(BU o.op&&o.op.operands.toList.all λx=>(ρ x).toVal.isSome)=Δ:=by
  rw[ho];simp[BU,Op.operands,hx,AV.toVal]
 unfold Cy;rw[if_pos cc];have:As P (execOp (BL ρ) o)=Θ (.value (.int k (Ad.sub k 0 n))):=by
  unfold execOp;rw[ho];simp only[e1];rw[Ao];rfl
 rw[this];rfl
theorem YC{b:BinOp}{t:TypeId}{x y:Operand}{k k':IntKind}{a c:Int}:As P (eqGuard b t x y (.int k a) (.int k' c))=Θ ():=by
 unfold eqGuard
 cases b<;>simp
theorem YD{b:BinOp}{t:TypeId}{x y:Operand}{a c:ByteArray}:As P (eqGuard b t x y (.string a) (.string c))=Θ ():=by
 unfold eqGuard
 cases b<;>simp
theorem AdZ{o:Oper}{b:BinOp}{t yt:TypeId}{x y:Operand}(ho:o.op=.binOp b t x y yt){ρ:Operand->AV}{k k':IntKind}{a c:Int}(hx:ρ x=.v (.int k a))(hy:ρ y=.v (.int k' c)){z:Value}(hz:As P (binOp b t (.int k a) (.int k' c))=Θ z):Cy P o ρ=Θ (EA z):=
 NK ho hx hy (by rw[Ao,YC];exact hz)
theorem Yg{o:Oper}{b:BinOp}{t yt:TypeId}{x y:Operand}(ho:o.op=.binOp b t x y yt){ρ:Operand->AV}{r:AV}(h:JJ Ad b (ρ x) (ρ y)=Θ r):Cy P o ρ=Θ r/\FH P t (ρ x) (ρ y)=Φ:=by
 unfold JJ at h;split at h
 .rename_i k a k' c hx hy
  refine⟨?_,by rw[hx,hy];rfl⟩;have key:∀ z,As P (binOp b t (.int k a) (.int k' c))=Θ z->Cy P o ρ=Θ (EA z):=λz hz=>AdZ ho hx hy hz
  have shf:∀{op:BinOp} {v:Value},¬ c<0->(∀ n,n=AqX c.toNat k.bits->As P (match op with
    |.shl=>(pure (.int k (k.wrap (a*2 ^ n))):Sem Value)
    |.shr=>pure (.int k (a.fdiv (2 ^ n)))
    |_=>stuck "shift: << >> expected")=Θ v)->As P (Op.shift op k a k' c)=Θ v:=λ{op v} hc hv=>by
   unfold Op.shift;rw[if_neg hc];exact hv _ rfl
  have div:∀{op:BinOp} {v:Value},¬ c=0->As P (match op with
    |.quo=>(pure (.int k (k.wrap (a.tdiv c))):Sem Value)
    |.rem=>pure (.int k (a.tmod c))
    |_=>stuck "intDiv: / % expected")=Θ v->As P (Op.intDiv op k a c)=Θ v:=λ{op v} hc hv=>by
   unfold Op.intDiv;rw[if_neg hc];exact hv
  cases b with
  |shl=>
   simp only at h
   cases e:Ad.lt c 0 with
   |true=>rw[e]at h;cases h
   |false=>
    rw[e]at h;simp only[ξ]at h;subst h;have hc:¬ c<0:=of_decide_eq_false e;exact key (.int k (Ad.shl k a c)) (by
     show As P (Op.shift .shl k a k' c)=_
     exact shf hc λn hn=>by rw[hn];rfl)
  |shr=>
   simp only at h
   cases e:Ad.lt c 0 with
   |true=>rw[e]at h;cases h
   |false=>
    rw[e]at h;simp only[ξ]at h;subst h;have hc:¬ c<0:=of_decide_eq_false e;exact key (.int k (Ad.shr k a c)) (by
     show As P (Op.shift .shr k a k' c)=_
     exact shf hc λn hn=>by rw[hn];rfl)
  |_=>
   simp only at h;split at h
   .rename_i hk
    subst hk
    try simp only[ξ,reduceCtorEq]at h
    first
     | (subst h
        first
         |exact key (.int k (k.wrap (a+c))) (by simp[binOp,Op.intArith])
         |exact key (.int k (k.wrap (a-c))) (by simp[binOp,Op.intArith])
         |exact key (.int k (k.wrap (a*c))) (by simp[binOp,Op.intArith])
         |exact key (.int k (Ad.bits .and k a c)) (by simp[binOp,Op.intBits,Ad,GM,Ar.bits,SO])
         |exact key (.int k (Ad.bits .or k a c)) (by simp[binOp,Op.intBits,Ad,GM,Ar.bits,SO])
         |exact key (.int k (Ad.bits .xor k a c)) (by simp[binOp,Op.intBits,Ad,GM,Ar.bits,SO])
         |exact key (.int k (Ad.bits .andNot k a c)) (by simp[binOp,Op.intBits,Ad,GM,Ar.bits,SO])
         |exact key (.bool (a == c)) (by simp[binOp,Op.intCmp])
         |exact key (.bool (a != c)) (by simp[binOp,Op.intCmp])
         |exact key (.bool (decide (a<c))) (by simp[binOp,Op.intCmp])
         |exact key (.bool (decide (a<=c))) (by simp[binOp,Op.intCmp])
         |exact key (.bool (decide (c<a))) (by simp[binOp,Op.intCmp])
         |exact key (.bool (decide (c<=a))) (by simp[binOp,Op.intCmp]))
     | (cases e:Ad.eq c 0 with
        |true=>rw[e]at h;cases h
        |false=>
         rw[e]at h;simp only[ξ]at h;subst h;have hc:¬ c=0:=λe0=>by subst e0;exact absurd e (by simp[Ad,GM,Ar.eq])
         first
          |exact key (.int k (Ad.quo k a c)) (by
            have:binOp .quo t (.int k a) (.int k c)=Op.intDiv .quo k a c:=by simp[binOp]
            rw[this];exact div hc rfl)
          |exact key (.int k (Ad.rem k a c)) (by
            have:binOp .rem t (.int k a) (.int k c)=Op.intDiv .rem k a c:=by simp[binOp]
            rw[this];exact div hc rfl))
   .cases h
 .rename_i a c hx hy
  refine⟨?_,by rw[hx,hy];rfl⟩;have key:∀ z,As P (binOp b t (.string a) (.string c))=Θ z->Cy P o ρ=Θ (EA z):=λz hz=>NK ho hx hy (by rw[Ao,YD];exact hz)
  cases b with
  |add=>
   simp only at h
   cases e:Ap3 (Ad.slen a+Ad.slen c) 9223372036854775807 with
   |false=>rw[e]at h;cases h
   |true=>
    rw[e]at h;simp only[ξ]at h;subst h;have e1:a.size+c.size<=9223372036854775807:=Nat.le_of_ble_eq_true e;refine key (.string (a++c)) ?_;simp only[binOp,Op.stringOp];rw[if_neg (by
     have:IntKind.i64.max=9223372036854775807:=by decide
     rw[this];omega)]
    rfl
  |eql=>simp only[ξ]at h;subst h;exact key (.bool (a.toList == c.toList)) (by simp[binOp,Op.stringOp])
  |neq=>simp only[ξ]at h;subst h;exact key (.bool !(a.toList == c.toList)) (by simp[binOp,Op.stringOp])
  |lss=>simp only[ξ]at h;subst h;exact key (.bool (Op.bytesLess a.toList c.toList)) (by simp[binOp,Op.stringOp])
  |geq=>simp only[ξ]at h;subst h;exact key (.bool !(Op.bytesLess a.toList c.toList)) (by simp[binOp,Op.stringOp])
  |_=>cases h
 .cases h
def Yf(P:Program)(o:Oper)(b:BinOp)(t:TypeId)(x y:Operand)(ρ:Operand->AV):AM AV:=if FH P t (ρ x) (ρ y)=Δ then(match b with
   |.eql=>AM.ret (.v (.bool Φ))
   |.neq=>AM.ret (.v (.bool Δ))
   |_=>AM.fail) else AM.opt (Cy P o ρ)
theorem Aec{t:TypeId}{x y:Operand}{u v:Value}(hu:∀ us vs,¬ (u=.agg us/\v=.agg vs))(hn:u≠.nilIface){b:BinOp}:As P (eqGuard b t x y u v)=Θ ():=by
 have key:As P (match u,v with
  |.nilIface,.nilIface=>do
   if(x matches .const _)||(y matches .const _) then return
   if ←Op.eqGuardIn Op.maxDepth t u v then unsupported (.noEntry "binop/eql: two nil values of an interface type with methods, neither of them the literal nil")
  |.agg _,.agg _=>do
   if !(←program).eqGuardType (←program).depth t then return
   if ←Op.eqGuardIn Op.maxDepth t u v then unsupported (.noEntry "binop/eql: two nil values of an interface type with methods, in a part of a struct or an array")
  |_,_=>pure ())=Θ ():=by
  split
  .exact absurd rfl hn
  .exact absurd ⟨rfl,rfl⟩ (hu _ _)
  .rfl
 unfold eqGuard
 cases b<;>first
  |rfl
  |exact key
theorem Rf{o:Oper}{b:BinOp}{t yt:TypeId}{x y:Operand}(ho:o.op=.binOp b t x y yt){ρ:Operand->AV}{u v:Value}{c:Bool}(hx:ρ x=.v u)(hy:ρ y=.v v)
  (hu:∀ us vs,¬ (u=.agg us/\v=.agg vs)) (hn:u≠.nilIface) (hi:∀ k a k' c,¬ (u=.int k a/\v=.int k' c)) (hfl:∀ k a,u≠.float k a) (hc:∀ k a c,u≠.complex k a c) (hs:∀ a,u≠.string a)
  (h:As P (Op.equal t u v)=Θ c) (hb:b=.eql\/b=.neq):Cy P o ρ=Θ (.v (.bool (if b=.eql then c else !c))):=by
 have:Cy P o ρ=Θ (EA (.bool (if b=.eql then c else !c))):=by
  refine NK ho hx hy ?_;rw[Ao,Aec hu hn];rcases hb with rfl|rfl
  .cases u<;>first
    |(exfalso;first|exact hfl _ _ rfl|exact hc _ _ _ rfl|exact hs _ rfl)
    |(cases v<;>first
      |(exfalso;exact hi _ _ _ _ ⟨rfl,rfl⟩)
      |(simp only[AqF,Go.binOp,Ao,h,Cg];rfl))
  .cases u<;>first
    |(exfalso;first|exact hfl _ _ rfl|exact hc _ _ _ rfl|exact hs _ rfl)
    |(cases v<;>first
      |(exfalso;exact hi _ _ _ _ ⟨rfl,rfl⟩)
      |(simp only[AqF,Go.binOp,Ao,h,Cg];rfl))
 exact this
theorem Yu{t:TypeId}(hu:P.underlying t=Θ .bool)(d:Nat)(a c:Bool):As P (Op.equalIn (d+1) t (.bool a) (.bool c))=Θ (a == c):=by
 unfold Op.equalIn;rw[Ao,AN hu];rfl
theorem AaY{t e:TypeId}(hu:P.underlying t=Θ (.pointer e))(d:Nat):As P (Op.equalIn (d+1) t (.pointer Ξ) (.pointer Ξ))=Θ Δ:=by
 unfold Op.equalIn;rw[Ao,AN hu];rfl
theorem Aeb{t e:TypeId}(hu:P.underlying t=Θ (.slice e))(d:Nat):As P (Op.equalIn (d+1) t (.slice Ξ 0 0) (.slice Ξ 0 0))=Θ Δ:=by
 unfold Op.equalIn;rw[Ao,AN hu];rfl
theorem Aea{t:TypeId}{a b:Array TypeId}{c:Bool}(hu:P.underlying t=Θ (.func a b c))(d:Nat):As P (Op.equalIn (d+1) t .nilFunc .nilFunc)=Θ Δ:=by
 unfold Op.equalIn;rw[Ao,AN hu];rfl
theorem Ta{o:Oper}{b:BinOp}{t yt:TypeId}{x y:Operand}(ho:o.op=.binOp b t x y yt){ρ:Operand->AV}{ek:Nat}(hk:Gc P t=ek){c:Bool}(h:eqM Ad ek (ρ x) (ρ y)=Θ c)(hb:b=.eql\/b=.neq) :
  Yf P o b t x y ρ=AM.ret (.v (.bool (if b=.eql then c else !c))):=by
 unfold eqM at h;unfold Yf;split at h<;>simp only[ξ,reduceCtorEq]at h<;>try subst h
 .-- bool
  rename_i a c hx hy;have hu:=YK hk;rw[if_neg (by rw[hx,hy];simp[FH])];have:As P (Op.equal t (.bool a) (.bool c))=Θ (a == c):=Yu hu 9999 a c;rw[Rf ho hx hy (by simp) (by simp) (by simp) (by simp) (by simp) (by simp) this hb];rfl
 .rename_i hx hy
  obtain⟨e,hu⟩:=Oc hk;rw[if_pos (by rw[hx,hy];simp[FH,hu])];rcases hb with rfl|rfl<;>rfl
 .rename_i hx hy
  obtain⟨e,hu⟩:=Oc hk;rw[if_pos (by rw[hx,hy];simp[FH,hu])];rcases hb with rfl|rfl<;>rfl
 .rename_i hx hy
  obtain⟨e,hu⟩:=Oc hk;rw[if_neg (by rw[hx,hy];simp[FH])];have:As P (Op.equal t (.pointer Ξ) (.pointer Ξ))=Θ Δ:=AaY hu 9999;rw[Rf ho hx hy (by simp) (by simp) (by simp) (by simp) (by simp) (by simp) this hb];rfl
 .rename_i hx hy
  obtain⟨e,hu⟩:=Xb hk;rw[if_pos (by rw[hx,hy];simp[FH,hu])];rcases hb with rfl|rfl<;>rfl
 .rename_i hx hy
  obtain⟨e,hu⟩:=Xb hk;rw[if_neg (by rw[hx,hy];simp[FH])];have:As P (Op.equal t (.slice Ξ 0 0) (.slice Ξ 0 0))=Θ Δ:=Aeb hu 9999;rw[Rf ho hx hy (by simp) (by simp) (by simp) (by simp) (by simp) (by simp) this hb];rfl
 .rename_i hx hy
  obtain⟨e,e2,e3,hu⟩:=Xa hk;rw[if_pos (by rw[hx,hy];simp[FH,hu])];rcases hb with rfl|rfl<;>rfl
 .rename_i hx hy
  obtain⟨e,e2,e3,hu⟩:=Xa hk;rw[if_neg (by rw[hx,hy];simp[FH])];have:As P (Op.equal t .nilFunc .nilFunc)=Θ Δ:=Aea hu 9999;rw[Rf ho hx hy (by simp) (by simp) (by simp) (by simp) (by simp) (by simp) this hb];rfl
def Ja:Nat->Value->Value->Option Bool
 |1,.bool a,.bool b=>Θ (a == b)
 |0,.int k a,.int k' b=>if k=k' then Θ (a == b) else Ξ
 |2,.string a,.string b=>Θ (a == b)
 |_,_,_=>Ξ
def DO:List Nat->List Value->List Value->Option Bool
 |[],[],[]=>Θ Δ
 |k::ks,u::us,v::vs=>(match Ja k u v,DO ks us vs with
  |some a,Θ b=>Θ (a&&b)
  |_,_=>Ξ)
 |_,_,_=>Ξ
theorem Ik(a b:ByteArray):(a == b)=(a.data == b.data):=by
 cases a;cases b;rfl
theorem SS(a b:ByteArray):(a.toList == b.toList)=(a == b):=by
 rw[Go.ByteArray.toList_eq,Go.ByteArray.toList_eq,Ik];simp
theorem JT:∀{ks:List Nat} {xs ys:List AV} {c:Bool},eqL Ad ks xs ys=Θ c->∃ us vs,vals xs=Θ us/\vals ys=Θ vs/\DO ks us vs=Θ c
 |[],[],[],c,h=>by simp only[eqL,ξ]at h;subst h;exact⟨[],[],rfl,rfl,rfl⟩
 |ks,xs,ys,c,h=>by
  unfold eqL at h;split at h
  .simp only[ξ]at h;subst h;exact⟨[],[],rfl,rfl,rfl⟩
  .rename_i ks a r b q
   cases e:eqL Ad ks r q with
   |none=>rw[e]at h;cases h
   |some t=>
    rw[e]at h;simp only[ξ]at h;subst h;obtain⟨us,vs,h1,h2,h3⟩:=JT e;exact⟨.bool a::us,.bool b::vs,by simp only[vals,h1],by simp only[vals,h2],by simp only[DO,Ja,h3];rfl⟩
  .rename_i ks k a r k' b q
   split at h
   .rename_i hk
    cases e:eqL Ad ks r q with
    |none=>rw[e]at h;cases h
    |some t=>
     rw[e]at h;simp only[ξ]at h;subst h;obtain⟨us,vs,h1,h2,h3⟩:=JT e;exact⟨.int k a::us,.int k' b::vs,by simp only[vals,h1],by simp only[vals,h2],by simp only[DO,Ja,h3,if_pos hk];rfl⟩
   .cases h
  .rename_i ks a r b q
   cases e:eqL Ad ks r q with
   |none=>rw[e]at h;cases h
   |some t=>
    rw[e]at h;simp only[ξ]at h;subst h;obtain⟨us,vs,h1,h2,h3⟩:=JT e;refine⟨.string a::us,.string b::vs,by simp only[vals,h1],by simp only[vals,h2],?_⟩;simp only[DO,Ja,h3]
    show Θ ((a == b)&&t)=Θ ((a.toList == b.toList)&&t)
    rw[SS]
  .cases h
theorem Yv{t:TypeId}{k:Nat}(hk:RU P t=Θ k){u v:Value}{c:Bool}(h:Ja k u v=Θ c)(d:Nat):As P (Op.equalIn (d+1) t u v)=Θ c:=by
 unfold Ja at h;unfold RU at hk;split at h
 .simp only[ξ]at h
  subst h;split at hk<;>simp only[ξ,reduceCtorEq]at hk<;>try (exact absurd hk (by decide))
  rename_i hu;unfold Op.equalIn;rw[Ao,AN hu];rfl
 .split at h
  .rename_i ek
   simp only[ξ]at h;subst h;split at hk<;>simp only[ξ,reduceCtorEq]at hk<;>try (exact absurd hk (by decide))
   rename_i hu;unfold Op.equalIn;rw[Ao,AN hu];simp only[AqF,ek,if_true];rfl
  .cases h
 .simp only[ξ]at h
  subst h;split at hk<;>simp only[ξ,reduceCtorEq]at hk<;>try (exact absurd hk (by decide))
  rename_i hu;unfold Op.equalIn;rw[Ao,AN hu];rfl
 .cases h
theorem Qo{t:TypeId}(h:B3 P t=Θ Φ){cs:Array Value}{n:Nat}{u:Value}(hu:cs[n]? = Θ u):As P (part t cs n)=Θ u:=by
 unfold part;have:As P (isAgg t)=Θ Φ:=by
  unfold isAgg;unfold B3 at h
  cases e:P.underlying t with
  |none=>rw[e]at h;cases h
  |some d=>
   rw[e]at h;simp only[AqD,ξ]at h;rw[Ao,AN e]
   cases d<;>first | (simp[Abx]at h;done) | rfl
 rw[Ao,this];simp[hu]
theorem K4{o:Oper}{ρ:Operand->AV}{z:Value}(hn:BU o.op=Δ)(ha:(o.op.operands.toList.all λx=>(ρ x).toVal.isSome)=Δ)(h:As P (execOp (BL ρ) o)=Θ (.value z)):Cy P o ρ=Θ (EA z):=by
 unfold Cy;rw[if_pos (by rw[hn,ha];rfl),h];rfl
theorem FO{ρ:Operand->AV}{x:Operand}{u:Value}(h:ρ x=.v u):BL ρ x=u:=by unfold BL;rw[h];rfl
theorem JS{xs ys:Array Value}(d:Nat):∀(fs:List Field) (n:Nat) {ks:List Nat} {us vs:List Value} {c:Bool},PX P fs n=Θ ks->DO ks us vs=Θ c->(∀(i:Nat) u,us[i]? = Θ u->xs[n+i]? = Θ u)->(∀(i:Nat) u,vs[i]? = Θ u->ys[n+i]? = Θ u)->As P (Op.eqFields (d+1) xs ys fs)=Θ c
 |[],n,ks,us,vs,c,hf,hc,hx,hy=>by
  simp only[PX,ξ]at hf;subst hf
  cases us<;>cases vs<;>simp only[DO,ξ,reduceCtorEq]at hc
  subst hc;rfl
 |f::r,n,ks,us,vs,c,hf,hc,hx,hy=>by
  simp only[PX]at hf;split at hf
  .rename_i h1
   simp only[ApZ,beq_iff_eq,bne_iff_ne]at h1;obtain⟨⟨h1,h2⟩,h3⟩:=h1
   cases e1:RU P f.type with
   |none=>rw[e1]at hf;cases hf
   |some k=>
    cases e2:PX P r (n+1) with
    |none=>rw[e1,e2]at hf;cases hf
    |some ks'=>
     rw[e1,e2]at hf;simp only[ξ]at hf;subst hf
     cases us with
     |nil=>simp[DO]at hc
     |cons u us=>
      cases vs with
      |nil=>simp[DO]at hc
      |cons v vs=>
       simp only[DO]at hc
       cases e3:Ja k u v with
       |none=>rw[e3]at hc;cases hc
       |some a=>
        cases e4:DO ks' us vs with
        |none=>rw[e3,e4]at hc;cases hc
        |some b=>
         rw[e3,e4]at hc;simp only[ξ]at hc;subst hc;have ih:=JS d r (n+1) e2 e4 (λi u hi=>by have:=hx (i+1) u (by simpa using hi);rwa [show n+1+i=n+(i+1) by omega]) (λi u hi=>by have:=hy (i+1) u (by simpa using hi);rwa [show n+1+i=n+(i+1) by omega]);unfold Op.eqFields;rw[if_pos h2,h1,Ao,Qo h3 (show xs[n]? = Θ u from hx 0 u rfl)];simp only[AqF];rw[Ao,Qo h3 (show ys[n]? = Θ v from hy 0 v rfl)];simp only[AqF];rw[Ao,Yv e1 e3 d];simp only[AqF]
         cases a with
         |true=>simpa using ih
         |false=>simp
  .cases hf
theorem S8{t:TypeId}{fs:Array Field}(ht:P.underlying t=Θ (.struct fs))(hp:P.stoodInHeld t=Φ)(d:Nat)(xs ys:Array Value):As P (Op.equalIn (d+1) t (.agg xs) (.agg ys))=As P (Op.eqFields d xs ys fs.toList):=by
 unfold Op.equalIn;rw[Ao,AN ht];simp only[AqF,Ao,MB,hp,Ar7,if_false];rw[←Array.forIn_toList];generalize fs.toList=l;clear ht
 induction l with
 |nil=>simp[Op.eqFields]
 |cons f fs ih=>
  simp only[List.forIn_cons,Op.eqFields];split
  .simp only[Ao]
   cases As P (part f.type xs f.offset) with
   |none=>rfl
   |some a=>
    simp only[AqF,Ao]
    cases As P (part f.type ys f.offset) with
    |none=>rfl
    |some b=>
     simp only[AqF,Ao]
     cases As P (Op.equalIn d f.type a b) with
     |none=>rfl
     |some r=>
      cases r
      .simp
      .simpa using ih
  .simpa using ih
theorem PV{o:Oper}{b:BinOp}{t yt:TypeId}{x y:Operand}(ho:o.op=.binOp b t x y yt){ρ:Operand->AV}{ks:List Nat}(hk:eqS P t=Θ ks){r:AV}{neg:Bool}(hb:b=if neg then .neq else .eql)(h:AjE Ad neg ks (ρ x) (ρ y)=Θ r):Yf P o b t x y ρ=AM.ret r:=by
 unfold AjE at h;split at h
 .rename_i xs ys ex ey
  cases e:eqL Ad ks xs ys with
  |none=>rw[e]at h;cases h
  |some c=>
   rw[e]at h;obtain⟨us,vs,h1,h2,h3⟩:=JT e;unfold eqS at hk;split at hk
   .rename_i fs hu
    split at hk
    .rename_i hc
     simp only[ApZ,Bool.not_eq_true']at hc;have key:As P (Op.equalIn 10000 t (.agg us.toArray) (.agg vs.toArray))=Θ c:=by
      rw[S8 hu hc.1 9999];exact JS 9998 fs.toList 0 hk h3 (λi u hi=>by rw[Ap6];simpa using hi) (λi u hi=>by rw[Ap6];simpa using hi)
     have g:Cy P o ρ=Θ (EA (.bool (if neg then !c else c))):=by
      refine P2 ho (u:=.agg us.toArray) (v:=.agg vs.toArray) (by rw[ex];simp only[AV.toVal,h1]) (by rw[ey];simp only[AV.toVal,h2]) ?_;have g1:As P (eqGuard b t x y (.agg us.toArray) (.agg vs.toArray))=Θ ():=by
       unfold eqGuard;rw[hb]
       cases neg<;>simp[hc.2]
      rw[Ao,g1];simp only[AqF];rw[hb]
      cases neg
      .show As P (binOp .eql t (.agg us.toArray) (.agg vs.toArray))=_
       have:binOp .eql t (.agg us.toArray) (.agg vs.toArray)=(do let r ←Op.equalIn 10000 t (.agg us.toArray) (.agg vs.toArray);pure (.bool r)):=rfl;rw[this,Ao,key];rfl
      .show As P (binOp .neq t (.agg us.toArray) (.agg vs.toArray))=_
       have:binOp .neq t (.agg us.toArray) (.agg vs.toArray)=(do let r ←Op.equalIn 10000 t (.agg us.toArray) (.agg vs.toArray);pure (.bool !r)):=rfl;rw[this,Ao,key];rfl
     unfold Yf;rw[if_neg (by rw[ex,ey];simp[FH]),g]
     cases neg<;>(simp only[ξ]at h;rw[←h];rfl)
    .cases hk
   .cases hk
 .cases h
theorem Yq{o:Oper}{b:BinOp}{t yt:TypeId}{x y:Operand}(ho:o.op=.binOp b t x y yt){ρ:Operand->AV}{r:AV}(h:Ad3 Ad (Gc P t) b (ρ x) (ρ y)=Θ r):Yf P o b t x y ρ=AM.ret r:=by
 unfold Ad3 at h;split at h
 .obtain⟨h1,h2⟩:=Yg (P:=P) ho h
  unfold Yf;rw[if_neg (by rw[h2];simp),h1];rfl
 .rename_i hk
  cases e:eqM Ad (Gc P t) (ρ x) (ρ y) with
  |none=>rw[e]at h;cases h
  |some c=>
   rw[e]at h;simp only[AqD,ξ]at h;subst h;rw[Ta ho rfl e (.inl rfl)];rfl
 .cases e:eqM Ad (Gc P t) (ρ x) (ρ y) with
  |none=>rw[e]at h;cases h
  |some c=>
   rw[e]at h;simp only[AqD,ξ]at h;subst h;rw[Ta ho rfl e (.inr rfl)];rfl
 .cases h
end
def Le{α:Type}(m m':AM α):Prop:=∀ H r,m H=Θ r->m' H=Θ r
section
variable {α β:Type}
theorem Le.refl(m:AM α):Le m m:=λ_ _ h=>h
theorem Le.fail(m:AM α):Le AM.fail m:=λ_ _ h=>by cases h
theorem Le.bind{m m':AM α}{f f':α->AM β}(h:Le m m')(k:∀ a,Le (f a) (f' a)):Le (m.bind f) (m'.bind f'):=λH r e=>by
 unfold AM.bind at e ⊢;rcases e1:m H with _|⟨a,H1,f1⟩<;>rw[e1]at e
 .cases e
 simp only at e;rcases e2:f a H1 with _|⟨b,H2,f2⟩<;>rw[e2]at e
 .cases e
 simp only at e;rw[h H _ e1];simp only;rw[k a H1 _ e2];exact e
theorem Le.opt{o o':Option α}(h:∀ a,o=Θ a->o'=Θ a):Le (AM.opt o) (AM.opt o'):=λH r e=>by
 cases o with
 |none=>cases e
 |some a=>rw[h a rfl];exact e
theorem Le.ret{o:Option α}{m:AM α}(h:∀ a,o=Θ a->m=AM.ret a):Le (AM.opt o) m:=λH r e=>by
 cases o with
 |none=>cases e
 |some a=>rw[h a rfl];exact e
theorem Le.trans{m m1 m2:AM α}(h:Le m m1)(k:Le m1 m2):Le m m2:=λH r e=>k H r (h H r e)
end
section
variable {P:Program}
theorem GI:∀ xs,AS xs=xs.length
 |[]=>rfl
 |x::r=>by simp[AS,GI r]
theorem O3:∀ xs n,I0 xs n=xs.take n
 |[],_=>by simp[I0]
 |x::r,0=>by simp[I0]
 |x::r,n+1=>by simp[I0,O3 r n]
theorem NC:∀ xs n,IR xs n=xs.drop n
 |[],_=>by simp[IR]
 |x::r,0=>by simp[IR]
 |x::r,n+1=>by simp[IR,NC r n]
theorem JM:∀ xs,IH xs=xs.flatten
 |[]=>rfl
 |x::r=>by simp[IH,JM r]
theorem FJ:∀ xs,HI xs=xs.all AV.one
 |[]=>rfl
 |x::r=>by simp[HI,FJ r]
theorem Ajp(a b:Nat):AqA a b=(a == b):=Bool.eq_iff_iff.2 (by simp)
theorem Ib(e:Nat):∀ xs,Gw e xs=xs.all λcs=>cs.length == e
 |[]=>rfl
 |x::r=>by simp[Gw,Ib e r,Ajp]
theorem IA(T:List AV):∀ l,Py T l=l.map (AQ T)
 |[]=>rfl
 |x::r=>by simp[Py,IA T r]
theorem Ke(T:List AV):∀ l,Kb T l=l.map λp=>(p.1,AQ T p.2)
 |[]=>rfl
 |(i,x)::r=>by simp[Kb,Ke T r]
theorem MQ{t:TypeId}{row:Bool}{n:Nat}(h1:B3 P t=Θ row)(h2:row=Δ->Dl P t=Θ n)(a:AV):Le (loadM row n a) (loadA P t a):=by
 unfold loadM loadA;rw[h1]
 cases row with
 |true=>rw[h2 rfl];exact Le.refl _
 |false=>exact Le.refl _
theorem AbM{t:TypeId}{n:Nat}(h:Dl P t=Θ n)(a x:AV):Le (storeM n a x) (storeA P t a x):=by
 unfold storeM storeA;rw[h]
 cases a<;>exact Le.refl _
theorem Xz{t:TypeId}{row:Bool}{n:Nat}(h1:B3 P t=Θ row)(h2:row=Δ->Dl P t=Θ n)(cs:List AV)(off:Nat):T7 row off n cs=Qn P t cs off:=by
 unfold T7 Qn;rw[h1]
 cases row with
 |true=>rw[h2 rfl]
 |false=>rfl
theorem Abs{t et:TypeId}{e:Nat}(h1:B7 P t=Θ et)(h2:Dl P et=Θ e){x ix r:AV}(h:N6 e x ix=Θ r):Dz P t x ix=Θ r:=by
 unfold N6 at h;unfold Dz;rw[h1]
 cases e1:ix.idx with
 |none=>rw[e1]at h;cases h
 |some i=>
  rw[e1]at h;simp only at h
  cases x<;>try (cases h)
  .rename_i b o n e'
   simp only at h ⊢;split at h
   .rename_i hlt
    split at h
    .rename_i he
     subst he;have:i+1<=n:=by simpa[AqK]using hlt
     have:i<n:=by omega
     rw[if_pos ⟨this,h2⟩];exact h
    .cases h
   .cases h
  .rename_i xs
   simp only[RQ]at h ⊢
   cases e2:xs[i]? with
   |none=>rw[e2]at h;cases h
   |some cs=>
    rw[e2]at h;simp only at h ⊢;split at h
    .rename_i hb
     have:cs.length=e:=by simpa using hb
     rw[if_pos (by rw[h2,this])];exact h
    .cases h
theorem AcW{t et:TypeId}{e:Nat}(h1:B7 P t=Θ et)(h2:Dl P et=Θ e){x r:AV}{lo hi:Option AV}(h:OV e x lo hi=Θ r):JA P t x lo hi=Θ r:=by
 have om:∀ n o,Mz n o=Eh n o:=λn o=>by cases o<;>rfl
 unfold OV at h;unfold JA;rw[h1];simp only[om,GI,O3,NC,Ib]at h
 cases x<;>try (cases h)
 .rename_i b o n e'
  simp only at h ⊢;split at h
  .rename_i l hh e1 e2
   rw[e1,e2];simp only;split at h
   .rename_i c1 c2 c3
    have c3':e'=e:=by simpa using c3
    subst c3';rw[if_pos ⟨by simpa using c1,by simpa using c2,h2⟩];exact h
   .cases h
  .cases h
 .rename_i xs
  simp only at h ⊢;split at h
  .rename_i l hh e1 e2
   rw[e1,e2];simp only;split at h
   .rename_i c1 c2 c3
    have c4:(xs.all λcs=>Dl P et == Θ cs.length)=Δ:=ApY.2 λcs hcs=>by
     have:=ApY.1 c3 cs hcs;rw[h2];simp at this ⊢;exact this.symm
    rw[if_pos ⟨by simpa using c1,by simpa using c2,by rw[h2];rfl,c4⟩];exact h
   .cases h
  .cases h
theorem Rv(e:Nat)(x:AV):Le (newsM e x) (newsA e x):=by
 unfold newsM newsA;split
 .dsimp only
  split
  .refine Le.bind (Le.refl _) λk=>?_
   split
   .rename_i c1 c2
    rw[if_pos ⟨by simpa using c1,c2⟩];exact Le.refl _
   .exact Le.fail _
  .exact Le.fail _
 .simp only[GI,JM,Ib]
  split
  .rename_i c
   rw[if_pos c];exact Le.refl _
  .exact Le.fail _
 .exact Le.refl _
 .exact Le.fail _
theorem Jh{t:TypeId}{e b:Nat}{z:List Value}(h:LY P t=Θ (e,z,b)):∃ et i zz,B7 P t=Θ et/\P.info? et=Θ i/\CE P et=Θ zz/\i.zero=Θ zz/\zz.cells.size=i.size/\0<i.size/\e=i.size/\z=zz.cells.toList/\b=i.bytes:=by
 unfold LY at h;split at h
 .rename_i et h1
  split at h
  .rename_i i zz h2 h3
   split at h
   .rename_i h4
    simp only[ξ,Prod.mk.injEq]at h;refine⟨et,i,zz,h1,h2,h3,?_,h4.1,h4.2,h.1.symm,h.2.1.symm,h.2.2.symm⟩;unfold CE at h3;rw[h2]at h3;simp only at h3;split at h3
    .split at h3
     .rename_i e5 _;rw[e5];exact h3
     .cases h3
    .cases h3
   .cases h
  .cases h
 .cases h
theorem YL{t u:TypeId}{e b:Nat}{z:List Value}(h:LY P t=Θ (e,z,b))(hu:CL P u=Δ)(s x:AV):Le (appM e b s x) (appendA P [t,u] s x):=by
 obtain⟨et,i,zz,h1,h2,h3,h4,h5,h6,rfl,_,rfl⟩:=Jh h;have hn:FV P u=Δ:=by
  unfold CL at hu;unfold FV;split at hu
  .rename_i e1;rw[e1]
  .cases hu
 unfold appM appendA;simp only[h1,h2,h4];rw[if_pos (show zz.cells.size=i.size/\0<i.size from ⟨h5,h6⟩)];refine Le.bind (by unfold newsU;rw[hn];exact Rv _ _) λr=>?_
 unfold appR;split
 .rename_i c
  rw[if_pos (show r.1=0 by simpa using c)];exact Le.refl _
 .rename_i c
  rw[if_neg (show ¬ r.1=0 by intro e;rw[e]at c;simp at c)];rw[FJ];split
  .exact Le.fail _
  .rename_i c1
   rw[if_pos c1];split
   .dsimp only
    split
    .rename_i c2 c3
     rw[if_pos ⟨rfl,by simpa using c2,by simpa using c3⟩];exact Le.refl _
    .exact Le.fail _
   .dsimp only
    split
    .rename_i c2 c3 c4
     rw[if_pos ⟨by simpa using c2,by simpa using c3,by simpa using c4⟩];have c2':=Aqn c2;subst c2';refine Le.bind (Le.refl _) λk=>?_
     split
     .rename_i d1 d2 d3
      have d3':=Aqn d3;rw[if_pos ⟨d1,by omega,.inl d2⟩,if_pos d2,d2];exact Le.refl _
     .rename_i d1 d2 d3
      have d3':=Aqn d3;rw[if_pos ⟨d1,by omega,.inr d3'⟩,if_neg (by rw[d2];simp),d2];exact Le.refl _
     .rename_i d1 d2 d3
      split
      .rename_i d4
       rw[if_pos ⟨d1,by simpa using d4,.inl d2⟩,if_pos d2,d2];exact Le.refl _
      .exact Le.fail _
     .exact Le.fail _
    .exact Le.fail _
   .exact Le.fail _
theorem Aes{t u:TypeId}{e b:Nat}{z:List Value}(h:LY P t=Θ (e,z,b))(hu:Lh P u=Δ)(s x:AV):Le (appzM z e b s x) (appendA P [t,u] s x):=by
 obtain⟨et,i,zz,h1,h2,h3,h4,h5,h6,rfl,rfl,rfl⟩:=Jh h;have hn:FV P u=Φ:=by
  unfold Lh at hu;unfold FV;split at hu
  .rename_i e1;rw[e1]
  .cases hu
 unfold appzM appendA;simp only[h1,h2,h4];rw[if_pos (show zz.cells.size=i.size/\0<i.size from ⟨h5,h6⟩)];refine Le.bind ?_ λr=>?_
 .unfold newsU RM newsZ
  rw[hn,hu];dsimp only;obtain⟨_,_,_,hfl⟩:=DB h3
  cases x.idx with
  |none=>exact Le.fail _
  |some m=>
   dsimp only;split
   .rename_i c1
    rw [if_pos ⟨by have:m<=9223372036854775807:=by simpa using c1
                   omega,hfl⟩]
    exact Le.refl _
   .exact Le.fail _
 unfold appR;split
 .rename_i c
  rw[if_pos (show r.1=0 by simpa using c)];exact Le.refl _
 .rename_i c
  rw[if_neg (show ¬ r.1=0 by intro e;rw[e]at c;simp at c)];rw[FJ];split
  .exact Le.fail _
  .rename_i c1
   rw[if_pos c1];split
   .dsimp only
    split
    .rename_i c2 c3
     rw[if_pos ⟨rfl,by simpa using c2,by simpa using c3⟩];exact Le.refl _
    .exact Le.fail _
   .dsimp only
    split
    .rename_i c2 c3 c4
     rw[if_pos ⟨by simpa using c2,by simpa using c3,by simpa using c4⟩];have c2':=Aqn c2;subst c2';refine Le.bind (Le.refl _) λk=>?_
     split
     .rename_i d1 d2 d3
      have d3':=Aqn d3;rw[if_pos ⟨d1,by omega,.inl d2⟩,if_pos d2,d2];exact Le.refl _
     .rename_i d1 d2 d3
      have d3':=Aqn d3;rw[if_pos ⟨d1,by omega,.inr d3'⟩,if_neg (by rw[d2];simp),d2];exact Le.refl _
     .rename_i d1 d2 d3
      split
      .rename_i d4
       rw[if_pos ⟨d1,by simpa using d4,.inl d2⟩,if_pos d2,d2];exact Le.refl _
      .exact Le.fail _
     .exact Le.fail _
    .exact Le.fail _
   .exact Le.fail _
theorem Aeu{t:TypeId}{e b:Nat}{z:List Value}(h:LY P t=Θ (e,z,b))(l c:AV):Le (mkslM z e b l c) (makeSliceA P t l c):=by
 obtain⟨et,i,zz,h1,h2,h3,h4,h5,h6,rfl,rfl,rfl⟩:=Jh h;unfold mkslM makeSliceA;rw[h1];split
 .rename_i n m e1 e2
  rw[e1,e2];dsimp only;rw[h2,h3];dsimp only;split
  .rename_i c1 c2 c3
   rw[if_pos ⟨by simpa using c1,by simpa using c2,by simpa using c3,h5,h6⟩];exact Le.refl _
  .exact Le.fail _
 .exact Le.fail _
theorem Aet{t u et:TypeId}{e:Nat}(h1:B7 P t=Θ et)(h2:Dl P et=Θ e)(d x:AV):Le (cpyM e d x) (copyA P [t,u] d x):=by
 unfold cpyM copyA;simp only[h1];split
 .split
  .rename_i c
   have c':=Aqn c;subst c';dsimp only;rw[if_pos h2];refine Le.bind (Rv _ _) λr=>?_
   simp only[FJ];split
   .rename_i c1
    rw[if_pos c1];refine Le.bind (Le.refl _) λk=>?_
    split
    .rename_i c2 c3
     rw[if_pos ⟨c2,by simpa using c3⟩];exact Le.refl _
    .exact Le.fail _
   .exact Le.fail _
  .exact Le.fail _
 .exact Le.fail _
theorem AbK{t et:TypeId}{e:Nat}{z:Value}(h1:B7 P t=Θ et)(h2:Dl P et=Θ e)(h3:CE P et=Θ z)(h4:z.cells.size=e/\0<e/\(z.cells.toList.map AV.v).all AV.one=Δ)(x:AV):Le (clrM z.cells.toList e x) (clearA P [t] x):=by
 unfold clrM clearA;simp only[h1]
 cases x with
 |sl b o n e'=>
  simp only[h3];split
  .rename_i c
   have c':=Aqn c;subst c';rw[if_pos ⟨h2,h4⟩];refine Le.bind (Le.refl _) λk=>?_
   split
   .rename_i c2 c3
    rw[if_pos ⟨c2,by simpa using c3⟩];exact Le.refl _
   .exact Le.fail _
  .exact Le.fail _
 |_=>exact Le.fail _
theorem NL{o:Oper}{c:Call}{b:Builtin}{x:Operand}(ho:o.op=.call c)(hc:c.callee=.builtin b)(ha:c.args.toList=[x]){ρ:Operand->AV}{u z:Value}(hx:ρ x=.v u)
  (h:∀ cs,As P (builtin b c.argTypes o.type cs #[u])=Θ (.value z)):Cy P o ρ=Θ (EA z):=by
 have e1:BL ρ x=u:=by unfold BL;rw[hx];rfl
 have ha':c.args=#[x]:=by rw[←Asz (xs:=c.args),ha]
 have cc:(BU o.op&&o.op.operands.toList.all λx=>(ρ x).toVal.isSome)=Δ:=by
  rw[ho];simp[BU,Op.operands,Call.operands,hc,ha',hx,AV.toVal]
 unfold Cy;rw[if_pos cc];have:As P (execOp (BL ρ) o)=Θ (.value z):=by
  unfold execOp;rw[ho];simp only[resolve,hc,ha',Ao,Cg,AqF,invoke];have e3:#[x].map (BL ρ)=#[u]:=by simp[e1]
  rw[e3];exact h _
 rw[this];rfl
theorem NM{o:Oper}{c:Call}{b:Builtin}{x y:Operand}(ho:o.op=.call c)(hc:c.callee=.builtin b)(ha:c.args.toList=[x,y]){ρ:Operand->AV}{u v z:Value}(hx:ρ x=.v u)(hy:ρ y=.v v)
  (h:∀ cs,As P (builtin b c.argTypes o.type cs #[u,v])=Θ (.value z)):Cy P o ρ=Θ (EA z):=by
 have e1:BL ρ x=u:=by unfold BL;rw[hx];rfl
 have e2:BL ρ y=v:=by unfold BL;rw[hy];rfl
 have ha':c.args=#[x,y]:=by rw[←Asz (xs:=c.args),ha]
 have cc:(BU o.op&&o.op.operands.toList.all λx=>(ρ x).toVal.isSome)=Δ:=by
  rw[ho];simp[BU,Op.operands,Call.operands,hc,ha',hx,hy,AV.toVal]
 unfold Cy;rw[if_pos cc];have:As P (execOp (BL ρ) o)=Θ (.value z):=by
  unfold execOp;rw[ho];simp only[resolve,hc,ha',Ao,Cg,AqF,invoke];have e3:#[x,y].map (BL ρ)=#[u,v]:=by simp[e1,e2]
  rw[e3];exact h _
 rw[this];rfl
def IM(P:Program)(ents:Nat):Prop:=∀ g,ents.testBit g=Δ->F7 P g=Δ
theorem AbJ{t:TypeId}{zz:Value}(hz:CE P t=Θ zz)(T:List AV)(ps:List (Nat × Operand)) :
  (∀{fs:Array Field} {pl:List (Nat × Nat)},Cx P t=Θ fs->IB P fs.toList=Θ pl->KX (pl[·]?) zz.cells.toList (Kb T ps)=I8 P t (ps.map λp=>(p.1,AQ T p.2))) ∧
  (∀{et:TypeId} {e:Nat},Cx P t=Ξ->Nd P t=Θ et->Dl P et=Θ e->KX (λi=>Θ (i*e,e)) zz.cells.toList (Kb T ps)=I8 P t (ps.map λp=>(p.1,AQ T p.2))):=by
 refine⟨λh1 h2=>?_,λh1 h2 h3=>?_⟩
 .unfold KX I8
  rw[h1,Ke];unfold MK;rw[hz,h1];simp only[h2]
 .unfold KX I8
  rw[h1,Ke];unfold MJ;rw[hz,h2];simp only[h3]
theorem VP{t et:TypeId}{e:Nat}{zz:Value}(h1:B7 P t=Θ et)(h2:Dl P et=Θ e)(h3:CE P et=Θ zz)(n:Nat)(T:List AV)(ps:List (Nat × Operand)) :
  buildSlM zz.cells.toList e n (Kb T ps)=buildSliceA P t n (ps.map λp=>(p.1,AQ T p.2)):=by
 unfold buildSlM buildSliceA;rw[h1];simp only[h2,h3,Ke];rfl
theorem AbL{o:Oper}{c:Call}{x:Operand}{t:TypeId}{sl:Bool}(ho:o.op=.call c)(hc:c.callee=.builtin .len)(ha:c.args.toList=[x])(ht:c.argTypes.toList=[t])
  (hs:if sl=Δ then CL P t=Δ else CL P t=Φ/\BK P t=Δ) (ρ:Operand->AV) :
  Le (AM.opt (AjX Ad sl (ρ x))) (if CL P t=Δ then(match Aew (ρ x) with
     |some r=>AM.ret r
     |none=>AM.opt (Cy P o ρ)) else AM.opt (Cy P o ρ)):=by
 have ht':c.argTypes=#[t]:=by rw[←Asz (xs:=c.argTypes),ht]
 refine Le.ret λr h=>?_
 unfold AjX at h
 cases sl with
 |true=>
  rw[if_pos rfl]at hs;rw[if_pos hs];simp only at h;split at h<;>simp only[ξ,reduceCtorEq]at h<;>subst h
  .rename_i e;rw[e];rfl
  .rename_i e;rw[e,GI];rfl
  .rename_i e
   have hu:∃ et,P.underlying t=Θ (.slice et):=by
    unfold CL at hs;split at hs
    .exact⟨_,‹_›⟩
    .cases hs
   obtain⟨et,hu⟩:=hu;have hg:Cy P o ρ=Θ (EA (.int .i64 0)):=NL ho hc ha e λcs=>by
    rw[ht'];simp only[builtin,Builtin.len_,Ao];simp[AN hu,goInt]
   rw[e,hg];rfl
 |false=>
  rw[if_neg (by simp)]at hs;rw[if_neg (by rw[hs.1];simp)];simp only at h;split at h<;>simp only[ξ,reduceCtorEq]at h
  subst h;rename_i s e;have hu:P.underlying t=Θ .string:=by
   have:=hs.2;unfold BK at this;split at this
   .assumption
   .cases this
  have hg:Cy P o ρ=Θ (EA (.int .i64 s.size)):=NL ho hc ha e λcs=>by
   rw[ht'];simp only[builtin,Builtin.len_,Ao];simp[AN hu,goInt]
  rw[hg];rfl
theorem AbI{o:Oper}{c:Call}{x y:Operand}{b:Builtin}(ho:o.op=.call c)(hc:c.callee=.builtin b)(ha:c.args.toList=[x,y])(ρ:Operand->AV){f:Int->Int->Int}
  (hb:(b=.max/\f=Ad.max)\/(b=.min/\f=Ad.min)):Le (AM.opt (AdY f (ρ x) (ρ y))) (AM.opt (Cy P o ρ)):=by
 refine Le.opt λr h=>?_
 unfold AdY at h;split at h
 .rename_i k a k' d hx hy
  split at h
  .rename_i hk
   subst hk;simp only[ξ]at h;subst h;rcases hb with⟨rfl,rfl⟩|⟨rfl,rfl⟩
   .exact NM (z:=.int k (Ad.max a d)) ho hc ha hx hy λcs=>by
     simp[builtin,Builtin.max_,Builtin.max2,Ad,GM,Ar.max]
   .exact NM (z:=.int k (Ad.min a d)) ho hc ha hx hy λcs=>by
     simp[builtin,Builtin.min_,Builtin.min2,Ad,GM,Ar.min]
  .cases h
 .cases h
end
section
variable {P:Program} {Γ:FuncId->List AV->AM AV} {ents:Nat}
theorem Abt{x:AV}{i:Nat}(h:x.idx=Θ i):∃ k,x=.v (.int k (.ofNat i)):=by
 unfold AV.idx at h;split at h
 .simp only[ξ]at h
  subst h;exact⟨_,rfl⟩
 .cases h
theorem Ep{k:IntKind}{i n:Nat}(h:i<=n)(c:BoundsCode):As P (Instr.sliceBound (.int k (.ofNat i)) n c)=Θ i:=by
 unfold Instr.sliceBound asIntOf;rw[Ao];simp only[Cg,AqF];rw[if_pos ⟨by simp,by simpa using h⟩];rfl
theorem R9{o:Oper}{t:TypeId}{x:Operand}{lo hi:Option Operand}(ho:o.op=.slice t x lo hi Ξ)(ht:P.underlying t=Θ .string){ρ:Operand->AV}{r:AV}(h:KC Ad (ρ x) (lo.map ρ) (hi.map ρ)=Θ r):Cy P o ρ=Θ r:=by
 unfold KC at h;split at h
 .rename_i s es
  split at h
  .rename_i l hh e1 e2
   split at h
   .rename_i c1 c2
    simp only[ξ]at h;subst h;have c1:l<=hh:=by simpa using c1
    have c2:hh<=s.size:=by
     have:Ap3 hh s.size=Δ:=c2;simpa using this
    have hlo:(lo=Ξ/\l=0)\/∃ y k,lo=Θ y/\ρ y=.v (.int k (.ofNat l)):=by
     cases lo with
     |none=>simp only[AsG,Mz,ξ]at e1;exact .inl ⟨rfl,e1.symm⟩
     |some y=>
      simp only[AqD,Mz]at e1;obtain⟨k,hk⟩  :=Abt e1;exact .inr ⟨y,k,rfl,hk⟩
    have hhi:(hi=Ξ/\hh=s.size)\/∃ y k,hi=Θ y/\ρ y=.v (.int k (.ofNat hh)):=by
     cases hi with
     |none=>
      simp only[AsG,Mz,ξ]at e2;exact .inl ⟨rfl,e2.symm⟩
     |some y=>
      simp only[AqD,Mz]at e2;obtain⟨k,hk⟩  :=Abt e2;exact .inr ⟨y,k,rfl,hk⟩
    have hb:As P (Instr.sliceBounds Φ s.size s.size (lo.map (BL ρ)) (hi.map (BL ρ)) Ξ)=Θ (l,hh,s.size):=by
     rcases hlo with⟨rfl,rfl⟩|⟨y,k,rfl,hy⟩<;>rcases hhi with⟨rfl,rfl⟩|⟨z,k',rfl,hz⟩
     .rfl
     .simp only[AsG,AqD,FO hz,Instr.sliceBounds,Ao,Cg,AqF,Ep c2]
     .simp only[AsG,AqD,FO hy,Instr.sliceBounds,Ao,Cg,AqF,Ep c1]
     .simp only[AqD,FO hy,FO hz,Instr.sliceBounds,Ao,Cg,AqF,Ep c1,Ep c2]
    refine K4 (z:=.string (s.extract l hh)) (by rw[ho];rfl) ?_ ?_
    .rw[ho]
     rcases hlo with⟨rfl,_⟩|⟨y,k,rfl,hy⟩<;>rcases hhi with⟨rfl,_⟩|⟨z,k',rfl,hz⟩<;>simp_all [Op.operands,AV.toVal]
    .unfold execOp
     rw[ho]
     show As P (Instr.sliceAt t (BL ρ x) (lo.map (BL ρ)) (hi.map (BL ρ)) Ξ >>= λy=>pure (Next.value y))=_
     rw[Ao,FO es];have:As P (Instr.sliceAt t (.string s) (lo.map (BL ρ)) (hi.map (BL ρ)) Ξ)=Θ (.string (s.extract l hh)):=by
      unfold Instr.sliceAt;rw[Ao,AN ht];simp only[AqF];unfold Instr.slice;rw[Ao,AN ht];simp only[AqF,Option.isSome_none,Ar7,if_false];rw[Ao,hb];rfl
     rw[this];rfl
   .cases h
  .cases h
 .cases h
theorem Wh{o:Oper}{t:TypeId}{x i:Operand}(ho:o.op=.index t x i)(ht:P.underlying t=Θ .string){ρ:Operand->AV}{r:AV}(h:Us Ad (ρ x) (ρ i)=Θ r):Cy P o ρ=Θ r:=by
 unfold Us at h;split at h
 .rename_i s j es ei
  split at h
  .rename_i c1
   simp only[ξ]at h;subst h;obtain⟨k,hk⟩  :=Abt ei;have c1:j<s.size:=by
    have:AqK j s.size=Δ:=c1;have:j+1<=s.size:=by simpa[AqK]using this
    omega
   have e1:s[j]? = Θ (s[j]'c1):=by simp[c1]
   refine K4 (z:=.int .u8 (s[j]'c1).toNat) (by rw[ho];rfl) (by rw[ho];simp[Op.operands,es,hk,AV.toVal]) ?_ |>.trans ?_
   .unfold execOp
    rw[ho]
    show As P (Instr.index t (BL ρ x) (BL ρ i) >>= λy=>pure (Next.value y))=_
    rw[Ao,FO es,FO hk];have:As P (Instr.index t (.string s) (.int k (.ofNat j)))=Θ (.int .u8 (s[j]'c1).toNat):=by
     unfold Instr.index asIntOf;rw[Ao];simp only[Cg,AqF];rw[Ao,AN ht];simp only[AqF];have:(if 0<=(ArZ j) then s[(ArZ j).toNat]? else Ξ)=Θ (s[j]'c1):=by
      rw[if_pos (by simp)];exact e1
     rw[this];rfl
    rw[this];rfl
   .have:Ad.sat s j=ArZ (s[j]'c1).toNat:=by
     show (match s[j]? with
      |some c=>ArZ c.toNat
      |none=>0)=_
     rw[e1]
    rw[this];rfl
  .cases h
 .cases h
theorem Vd{o:Oper}{s d:TypeId}{x:Operand}(ho:o.op=.convert s d x){k k0:IntKind}(hs:P.underlying s=Θ (.int k0))(hd:P.underlying d=Θ (.int k)){ρ:Operand->AV}{r:AV}(h:Aay Ad k (ρ x)=Θ r):Cy P o ρ=Θ r:=by
 unfold Aay at h;split at h
 .rename_i k1 n e
  simp only[ξ]at h;subst h;refine K4 (z:=.int k (k.wrap n)) (by rw[ho];rfl) (by rw[ho];simp[Op.operands,e,AV.toVal]) ?_;unfold execOp;rw[ho]
  show As P (convert s d (BL ρ x) >>= λy=>pure (Next.value y))=_
  rw[Ao,FO e];have:As P (convert s d (.int k1 n))=Θ (.int k (k.wrap n)):=by
   unfold convert;rw[Ao,AN hs];simp only[AqF];rw[Ao,AN hd];rfl
  rw[this];rfl
 .cases h
theorem Ags(hE:IM P ents)(o:Oper)(T:List AV):Le (mop Ad Γ (Vb P ents o.op) T) (aop P Γ o (AQ T)):=by
 unfold aop
 cases ho:o.op<;>simp only[Vb]
 case move x=>exact Le.refl _
 case assign x=>exact Le.refl _
 case pick c a b=>
  simp only[mop];split
  .rename_i t e
   rw[e]
   cases t<;>exact Le.refl _
  .exact Le.fail _
 case alloc t=>
  unfold allocA
  cases e:CE P t with
  |none=>exact Le.fail _
  |some z=>exact Le.refl _
 case box t x=>exact Le.refl _
 case build t ps=>
  cases e:CE P t with
  |none=>exact Le.fail _
  |some z=>
   obtain⟨k1,k2⟩:=AbJ e T ps.toList
   cases e1:Cx P t with
   |some fs=>
    simp only
    cases e2:IB P fs.toList with
    |none=>exact Le.fail _
    |some pl=>
     simp only[mop];rw[k1 e1 e2];exact Le.refl _
   |none=>
    simp only
    cases e2:Nd P t with
    |none=>exact Le.fail _
    |some et=>
     simp only
     cases e3:Dl P et with
     |none=>exact Le.fail _
     |some s=>
      simp only[mop];rw[k2 e1 e2 e3];exact Le.refl _
 case buildSlice t n ps=>
  cases e:B7 P t with
  |none=>exact Le.fail _
  |some et=>
   simp only
   cases e2:Dl P et with
   |none=>exact Le.fail _
   |some s=>
    cases e3:CE P et with
    |none=>exact Le.fail _
    |some z=>
     simp only[mop];rw[VP e e2 e3];exact Le.refl _
 case load t a=>
  cases e:B3 P t with
  |none=>exact Le.fail _
  |some b=>
   cases b with
   |true=>
    cases e2:Dl P t with
    |none=>exact Le.fail _
    |some n=>exact MQ e (λ_=>e2) _
   |false=>exact MQ (n:=0) e (λh=>by cases h) _
 case store t a x=>
  cases e:Dl P t with
  |none=>exact Le.fail _
  |some n=>exact AbM e _ _
 case nilCheck x=>
  simp only[mop];split<;>first
   |exact Le.fail _
   |(rename_i e;rw[e];exact Le.refl _)
 case binOp b t x y yt=>
  split
  .rename_i ks hk
   split
   .exact Le.ret λr h=>PV ho hk (neg:=Φ) rfl h
   .exact Le.ret λr h=>PV ho hk (neg:=Δ) rfl h
   .exact Le.fail _
  .split
   .exact Le.fail _
   .rename_i k hk
    exact Le.ret λr h=>Yq ho h
 case unOp u t x=>
  cases u<;>simp only<;>try exact Le.fail _
  case not=>
   exact Le.opt λr h=>by
    unfold Am4 at h;split at h
    .rename_i c e
     simp only[ξ]at h;subst h;rw[Aa8 ho e];rfl
    .cases h
  case neg=>
   exact Le.opt λr h=>by
    unfold Am3 at h;split at h
    .rename_i k n e
     simp only[ξ]at h;subst h;rw[Aa7 ho e]
    .cases h
 case makeFunc f a c=>
  simp only[mop,IA];exact Le.refl _
 case slice t x lo hi mx=>
  cases mx with
  |some m=>exact Le.fail _
  |none=>
   simp only
   cases e:B7 P t with
   |none=>
    simp only;split
    .rename_i hst
     refine Le.ret λr h=>?_
     have ht:P.underlying t=Θ .string:=by
      unfold BK at hst;split at hst
      .assumption
      .cases hst
     have hn:JA P t (AQ T x) (lo.map (AQ T)) (hi.map (AQ T))=Ξ:=by
      unfold JA;rw[e];split<;>rename_i q<;>first|cases q|rfl
     rw[hn];simp only;rw[R9 ho ht h];rfl
    .exact Le.fail _
   |some et=>
    simp only
    cases e2:Dl P et with
    |none=>exact Le.fail _
    |some s=>
     refine Le.ret λr h=>?_
     rw[AcW e e2 h]
 case fieldAddr t a f=>
  cases e:Cx P t with
  |none=>exact Le.fail _
  |some fs=>
   simp only
   cases e2:fs[f]? with
   |none=>exact Le.fail _
   |some fd=>
    simp only;split
    .rename_i n e3
     refine Le.opt λr h=>?_
     unfold GD;rw[e];simp only[e2,e3];exact h
    .exact Le.fail _
 case field t x f=>
  cases e:Cx P t with
  |none=>exact Le.fail _
  |some fs=>
   simp only
   cases e2:fs[f]? with
   |none=>exact Le.fail _
   |some fd=>
    simp only;have key:∀{row:Bool} {n:Nat},B3 P fd.type=Θ row->(row=Δ->Dl P fd.type=Θ n)->Le (AM.opt (Vy row fd.offset n (AQ T x))) (AM.opt (NF P t (AQ T x) f)):=λh1 h2=>by
     refine Le.opt λr h=>?_
     unfold Vy at h;unfold NF;rw[e];split at h
     .rename_i cs ex
      rw[←h,Xz h1 h2];simp only[ex,e2]
     .cases h
    cases e3:B3 P fd.type with
    |none=>exact Le.fail _
    |some b=>
     cases b with
     |true=>
      cases e4:Dl P fd.type with
      |none=>exact Le.fail _
      |some n=>exact key e3 λ_=>e4
     |false=>exact key e3 λh=>by cases h
 case indexAddr t x i=>
  cases e:B7 P t with
  |some et=>
   simp only
   cases e2:Dl P et with
   |none=>exact Le.fail _
   |some s=>
    refine Le.ret λr h=>?_
    rw[Abs e e2 h]
  |none=>
   have e0:Dz P t (AQ T x) (AQ T i)=Ξ:=by
    unfold Dz;rw[e];split<;>first|rfl|simp_all
   cases e1:Pq P t with
   |none=>exact Le.fail _
   |some ne=>
    obtain⟨n,et⟩:=ne;simp only
    cases e2:Dl P et with
    |none=>exact Le.fail _
    |some s=>
     simp only[mop];rw[e0];refine Le.opt λr h=>?_
     unfold QQ at h;unfold JI;rw[e1];split at h
     .rename_i j ej
      rw[ej];simp only[e2];split at h
      .rename_i hlt
       have:j+1<=n:=by simpa[AqK]using hlt
       rw[if_pos (by omega)];exact h
      .cases h
     .cases h
 case index t x i=>
  cases e1:Pq P t with
  |none=>
   simp only;split
   .rename_i hst
    refine Le.ret λr h=>?_
    have ht:P.underlying t=Θ .string:=by
     unfold BK at hst;split at hst
     .assumption
     .cases hst
    have hn:Hq P t (AQ T x) (AQ T i)=Ξ:=by
     unfold Hq;rw[e1];split
     .rename_i q _
      cases q
     .rfl
    rw[hn];simp only;rw[Wh ho ht h];rfl
   .exact Le.fail _
  |some ne=>
   obtain⟨n,et⟩:=ne
   show Le (mop Ad Γ (match Dl P et,B3 P et with
    |some e,Θ Δ=>MO.index n e Δ e x i
    |some e,Θ Φ=>MO.index n e Φ 0 x i
    |_,_=>MO.bad) T) _
   have key:∀{row:Bool} {s m:Nat},B3 P et=Θ row->Dl P et=Θ s->(row=Δ->m=s)->Le (AM.opt (N8 n s row m (AQ T x) (AQ T i))) (match Hq P t (AQ T x) (AQ T i) with
     |some r=>AM.ret r
     |none=>AM.opt (Cy P o (AQ T))):=λ{row s m} h1 h2 h3=>by
    refine Le.ret λr h=>?_
    have:Hq P t (AQ T x) (AQ T i)=Θ r:=by
     unfold N8 at h;unfold Hq;rw[e1];split at h
     .rename_i cs j ej1 ej2
      simp only[ej1,ej2,h2];split at h
      .rename_i hlt
       have:j+1<=n:=by simpa[AqK]using hlt
       rw[if_pos (by omega),←Xz (n:=m) h1 (λhr=>by rw[h3 hr];exact h2)];exact h
      .cases h
     .cases h
    rw[this]
   cases e2:Dl P et with
   |none=>exact Le.fail _
   |some s=>
    cases e3:B3 P et with
    |none=>exact Le.fail _
    |some b=>
     cases b with
     |true=>exact key e3 e2 λ_=>rfl
     |false=>exact key e3 e2 λh=>by cases h
 case extract x i=>exact Le.refl _
 case makeSlice t l c=>
  cases e:LY P t with
  |none=>exact Le.fail _
  |some ezb=>
   obtain⟨s,z,b⟩:=ezb;exact Aeu e _ _
 case call c=>
  cases hc:c.callee with
  |invoke=>exact Le.fail _
  |value f=>
   simp only
   cases f with
   |func g=>
    simp only;split
    .rename_i he
     simp only[mop,AQ,IA];rw[if_pos he];simp only[List.nil_append,List.append_nil];exact Le.refl _
    .exact Le.fail _
   |tmp t=>
    simp only[mop,IA];split
    .rename_i g a cs e
     rw[e];simp only;split
     .rename_i hb
      rw[if_pos (hE g hb)];exact Le.refl _
     .exact Le.fail _
    .exact Le.fail _
   |const v=>
    simp only[mop,IA];split
    .rename_i g a cs e
     rw[e];simp only;split
     .rename_i hb
      rw[if_pos (hE g hb)];exact Le.refl _
     .exact Le.fail _
    .exact Le.fail _
   |global v=>
    simp only[mop,IA];split
    .rename_i g a cs e
     rw[e];simp only;split
     .rename_i hb
      rw[if_pos (hE g hb)];exact Le.refl _
     .exact Le.fail _
    .exact Le.fail _
  |builtin b=>
   cases b<;>simp only<;>try exact Le.fail _
   .-- append
    split
    .rename_i s x t u ea et
     rw[ea];simp only[et];split
     .rename_i e b' h1 h2
      exact YL h1 h2 _ _
     .rename_i e z b' h1 h2
      split
      .rename_i h3
       exact Aes h1 h3 _ _
      .exact Le.fail _
     .exact Le.fail _
    .exact Le.fail _
   .-- clear
    split
    .rename_i x t ea et
     rw[ea];simp only[et];split
     .rename_i ett h1
      split
      .rename_i e z h2 h3
       split
       .rename_i h4
        exact AbK h1 h2 h3 h4 _
       .exact Le.fail _
      .exact Le.fail _
     .exact Le.fail _
    .exact Le.fail _
   .-- copy
    split
    .rename_i s x t u ea et
     rw[ea];simp only[et];split
     .rename_i ett h1 h2
      cases e2:Dl P ett with
      |none=>exact Le.fail _
      |some s=>exact Aet h1 e2 _ _
     .exact Le.fail _
    .exact Le.fail _
   .-- len
    split
    .rename_i x t ea et
     rw[ea,et];split
     .rename_i h1
      exact AbL ho hc ea et (by rw[if_pos rfl];exact h1) _
     .rename_i h1
      split
      .rename_i h2
       exact AbL ho hc ea et (by rw[if_neg (by simp)];exact⟨by simpa using h1,h2⟩) _
      .exact Le.fail _
    .exact Le.fail _
   .split
    .rename_i x y ea
     exact AbI ho hc ea _ (.inl ⟨rfl,rfl⟩)
    .exact Le.fail _
   .split
    .rename_i x y ea
     exact AbI ho hc ea _ (.inr ⟨rfl,rfl⟩)
    .exact Le.fail _
 case convert s d x=>
  split
  .rename_i k0 k hs hd
   have b1:Dp P s=Φ:=by
    unfold Dp B7;rw[hs]
   have b2:BK P s=Φ:=by
    unfold BK;rw[hs]
   rw[if_neg (by rw[b1];simp),b2,Bool.false_and];refine Le.ret λr h=>?_
   have:=Vd ho hs hd h;simp only;rw[this];rfl
  .cases b1:Dp P s with
   |false=>exact Le.fail _
   |true=>
    cases b2:BK P d with
    |false=>exact Le.fail _
    |true=>
     simp only[mop,strM]
     cases b3:Pw (AQ T x) with
     |false=>exact Le.fail _
     |true=>
      rw[if_pos (by first|exact⟨trivial,trivial,rfl⟩|exact⟨trivial,trivial,b3⟩|simp_all)];exact Le.bind (Rv _ _) λ_=>Le.refl _
 all_goals exact Le.fail _
end
section
variable {A:Ar}
theorem Loc.loadM(row:Bool)(n:Nat)(a:AV):Loc (loadM row n a):=by
 unfold Go.Proofs.YtpncilciembjdaaGreatDoor.loadM
 cases row
 .exact Loc.bind (Loc.rdAt _ _) λ_=>Loc.opt _
 .exact Loc.bind (Loc.rdAt _ _) λ_=>Loc.ret _
theorem Loc.storeM(n:Nat)(a x:AV):Loc (storeM n a x):=by
 unfold Go.Proofs.YtpncilciembjdaaGreatDoor.storeM;split
 .exact Loc.ite (Loc.bind (Loc.getB _) λk=>Loc.ite (Loc.bind (Loc.setB _ _) λ_=>Loc.ret _) Loc.fail) Loc.fail
 .exact Loc.fail
theorem Loc.buildSlM(z:List Value)(e n:Nat)(ps:List (Nat × AV)):Loc (buildSlM z e n ps):=by
 unfold Go.Proofs.YtpncilciembjdaaGreatDoor.buildSlM
 repeat' split
 all_goals first
  |exact Loc.fail
  |exact Loc.bind (Loc.newB _) λ_=>Loc.ret _
theorem Loc.newsM(e:Nat)(x:AV):Loc (newsM e x):=by
 unfold Go.Proofs.YtpncilciembjdaaGreatDoor.newsM;split
 .split
  .refine Loc.bind (Loc.getB _) λk=>?_
   split
   .exact Loc.ret _
   .exact Loc.fail
  .exact Loc.fail
 .split
  .exact Loc.ret _
  .exact Loc.fail
 .exact Loc.ret _
 .exact Loc.fail
theorem Loc.appR(e b:Nat)(s:AV)(r:Nat × List AV):Loc (appR e b s r):=by
 unfold Go.Proofs.YtpncilciembjdaaGreatDoor.appR
 repeat' split
 all_goals first
  |exact Loc.fail
  |exact Loc.ret _
  |exact Loc.bind (Loc.newB _) λ_=>Loc.ret _
  |refine Loc.bind (Loc.getB _) λk=>?_
 repeat' split
 all_goals first
  |exact Loc.fail
  |exact Loc.bind (Loc.delB _) λ_=>Loc.bind (Loc.newB _) λ_=>Loc.ret _
  |exact Loc.bind (Loc.setB _ _) λ_=>Loc.bind (Loc.newB _) λ_=>Loc.ret _
theorem Loc.appM(e b:Nat)(s x:AV):Loc (appM e b s x):=Loc.bind (Loc.newsM _ _) λr=>Loc.appR _ _ _ _
theorem Loc.appzM(z:List Value)(e b:Nat)(s x:AV):Loc (appzM z e b s x):=by
 refine Loc.bind ?_ λr=>Loc.appR _ _ _ _
 unfold RM
 repeat' split
 all_goals first
  |exact Loc.fail
  |exact Loc.ret _
theorem Loc.mkslM(z:List Value)(e b:Nat)(l c:AV):Loc (mkslM z e b l c):=by
 unfold Go.Proofs.YtpncilciembjdaaGreatDoor.mkslM
 repeat' split
 all_goals first
  |exact Loc.fail
  |exact Loc.bind (Loc.newB _) λ_=>Loc.ret _
theorem Loc.cpyM(e:Nat)(d x:AV):Loc (cpyM e d x):=by
 unfold Go.Proofs.YtpncilciembjdaaGreatDoor.cpyM;split
 .split
  .refine Loc.bind (Loc.newsM _ _) λr=>?_
   split
   .refine Loc.bind (Loc.getB _) λk=>?_
    split
    .exact Loc.bind (Loc.setB _ _) λ_=>Loc.ret _
    .exact Loc.fail
   .exact Loc.fail
  .exact Loc.fail
 .exact Loc.fail
theorem Loc.clrM(z:List Value)(e:Nat)(x:AV):Loc (clrM z e x):=by
 unfold Go.Proofs.YtpncilciembjdaaGreatDoor.clrM;split
 .split
  .refine Loc.bind (Loc.getB _) λk=>?_
   split
   .exact Loc.bind (Loc.setB _ _) λ_=>Loc.ret _
   .exact Loc.fail
  .exact Loc.fail
 .exact Loc.fail
theorem Loc.strM(x:AV):Loc (strM x):=by
 unfold Go.Proofs.YtpncilciembjdaaGreatDoor.strM;split
 .exact Loc.bind (Loc.newsM _ _) λ_=>Loc.opt _
 .exact Loc.fail
theorem Loc.mop{Γ:FuncId->List AV->AM AV}(hΓ:∀ f args,Loc (Γ f args))(o:MO)(T:List AV):Loc (mop A Γ o T):=by
 unfold Go.Proofs.YtpncilciembjdaaGreatDoor.mop
 repeat' split
 all_goals first
  |exact Loc.fail
  |exact Loc.ret _
  |exact Loc.opt _
  |exact Loc.boxA _
  |exact Loc.bind (Loc.newB _) λ_=>Loc.ret _
  |exact Loc.buildSlM _ _ _ _
  |exact Loc.loadM _ _ _
  |exact Loc.storeM _ _ _
  |exact Loc.mkslM _ _ _ _ _
  |exact Loc.appM _ _ _ _
  |exact Loc.appzM _ _ _ _ _
  |exact Loc.cpyM _ _ _
  |exact Loc.clrM _ _ _
  |exact Loc.strM _
  |exact hΓ _ _
theorem Loc.coreM{Γ:FuncId->List AV->AM AV}(hΓ:∀ f args,Loc (Γ f args))(o:MOp)(T:List AV):Loc (coreM A Γ o T):=by
 unfold Go.Proofs.YtpncilciembjdaaGreatDoor.coreM
 repeat' split
 all_goals first
  |exact Loc.fail
  |exact Loc.ret _
  |exact Loc.mop hΓ _ _
def chainM(A:Ar)(Γ:FuncId->List AV->AM AV)(l:List MOp)(T:List AV):AM (List AV × List Foot):=λH=>match runM A Γ l T H with
 |some (T',H',fs)=>Θ ((T',fs),H',⟨fs.flatMap (·.rd),fs.flatMap (·.wr)⟩)
 |none=>Ξ
theorem SU(Γ:FuncId->List AV->AM AV)(o:MOp)(r:List MOp)(T:List AV) :
  chainM A Γ (o::r) T=(logged (coreM A Γ o T)).bind λvf=>(chainM A Γ r (Cf T o.dst vf.1)).bind λq=>AM.ret (q.1,vf.2::q.2):=by
 funext H
 simp only[chainM,runM,AM.bind,logged,AM.ret];rcases Go.Proofs.YtpncilciembjdaaGreatDoor.coreM A Γ o T H with _|⟨v,H1,f⟩
 .rfl
 simp only;rcases runM A Γ r (Cf T o.dst v) H1 with _|⟨T2,H2,fs⟩
 .rfl
 .simp
theorem Loc.chainM{Γ:FuncId->List AV->AM AV}(hΓ:∀ f args,Loc (Γ f args)):∀(l:List MOp) (T:List AV),Loc (chainM A Γ l T)
 |[],T=>by
  have:Go.Proofs.YtpncilciembjdaaGreatDoor.chainM A Γ [] T=AM.ret (T,[]):=by funext H;simp[Go.Proofs.YtpncilciembjdaaGreatDoor.chainM,runM,AM.ret]
  rw[this];exact Loc.ret _
 |o::r,T=>by
  rw[SU];exact Loc.bind (Loc.logged (Loc.coreM hΓ o T)) λ_=>Loc.bind (Loc.chainM hΓ r _) λ_=>Loc.ret _
theorem AgK(Γ:FuncId->List AV->AM AV)(ops:List MOp)(bf:Option (List Nat))(T:List AV) :
  regM A Γ ops bf T=(chainM A Γ ops T).bind λr=>match bf with
   |none=>AM.ret (.normal,r.1)
   |some bf=>(match Ee bf r.2 with
    |true=>AM.ret (.normal,r.1)
    |false=>AM.fail):=by
 funext H
 unfold Go.Proofs.YtpncilciembjdaaGreatDoor.regM Go.Proofs.YtpncilciembjdaaGreatDoor.chainM AM.bind
 cases e0:runM A Γ ops T H with
 |none=>simp[e0]
 |some r=>
  obtain⟨T',H',fs⟩:=r
  cases bf with
  |none=>simp[AM.ret,e0]
  |some bf=>cases e:Ee bf fs<;>simp[AM.ret,AM.fail,e,e0]
theorem Loc.regM{Γ:FuncId->List AV->AM AV}(hΓ:∀ f args,Loc (Γ f args))(ops:List MOp)(bf:Option (List Nat))(T:List AV):Loc (regM A Γ ops bf T):=by
 rw[AgK];refine Loc.bind (Loc.chainM hΓ _ _) λr=>?_
 cases bf with
 |none=>exact Loc.ret _
 |some bf=>
  simp only;split
  .exact Loc.ret _
  .exact Loc.fail
theorem Loc.adoptB1(b i e:Nat):Loc (adoptB1 b i e):=by
 unfold Go.Proofs.YtpncilciembjdaaGreatDoor.adoptB1;refine Loc.bind (Loc.getB _) λk=>?_
 split
 .refine Loc.bind (Loc.newB _) λc=>Loc.bind (Loc.getB _) λk2=>?_
  split
  .exact Loc.setB _ _
  .exact Loc.fail
 .exact Loc.ret _
theorem Loc.nilB(b i:Nat):Loc (nilB b i):=by
 unfold Go.Proofs.YtpncilciembjdaaGreatDoor.nilB;refine Loc.bind (Loc.getB _) λk=>?_
 split
 .exact Loc.setB _ _
 .exact Loc.ret _
theorem Loc.adoptB(b i e:Nat):Loc (adoptB b i e):=by
 unfold Go.Proofs.YtpncilciembjdaaGreatDoor.adoptB;split
 .exact Loc.nilB _ _
 .exact Loc.adoptB1 _ _ _
theorem Loc.adoptM:∀(l:List (Nat × Nat)) (T:List AV),Loc (adoptM l T)
 |[],T=>Loc.ret _
 |(t,e)::r,T=>by
  unfold Go.Proofs.YtpncilciembjdaaGreatDoor.adoptM;split
  .exact Loc.bind (Loc.newB _) λb=>Loc.adoptM r _
  .split
   .exact Loc.bind (Loc.adoptB _ _ _) λ_=>Loc.adoptM r T
   .exact Loc.adoptM r T
theorem Loc.frz0(x:AV):Loc (frz0 x):=by
 unfold Go.Proofs.YtpncilciembjdaaGreatDoor.frz0;split<;>first
  |exact Loc.ret _
  |exact Loc.fail
mutual
theorem Loc.frz:∀(n:Nat) (x:AV),Loc (frz n x)
 |0,x=>by
  unfold Go.Proofs.YtpncilciembjdaaGreatDoor.frz;exact Loc.frz0 x
 |n+1,x=>by
  unfold Go.Proofs.YtpncilciembjdaaGreatDoor.frz;split
  .exact Loc.ret _
  .refine Loc.bind (Loc.getB _) λk=>?_
   split
   .exact Loc.fail
   .refine Loc.bind ?_ λ_=>?_
    .split
     .exact Loc.setB _ _
     .exact Loc.ret _
    .split
     .exact Loc.ret _
     .refine Loc.bind (Loc.frzL n _) λcs=>?_
      split
      .exact Loc.ret _
      .exact Loc.fail
  .exact Loc.bind (Loc.frzL n _) λ_=>Loc.ret _
  .exact Loc.bind (Loc.frzL n _) λ_=>Loc.ret _
  .exact Loc.ret _
theorem Loc.frzL:∀(n:Nat) (l:List AV),Loc (frzL n l)
 |n,[]=>by
  unfold Go.Proofs.YtpncilciembjdaaGreatDoor.frzL;exact Loc.ret _
 |0,_::_=>by
  unfold Go.Proofs.YtpncilciembjdaaGreatDoor.frzL;exact Loc.fail
 |n+1,x::r=>by
  unfold Go.Proofs.YtpncilciembjdaaGreatDoor.frzL;exact Loc.bind (Loc.frz n x) λ_=>Loc.bind (Loc.frzL n r) λ_=>Loc.ret _
end
theorem Loc.frzB(b:Nat):Loc (frzB b):=by
 unfold Go.Proofs.YtpncilciembjdaaGreatDoor.frzB;refine Loc.bind (Loc.getB _) λk=>?_
 split
 .refine Loc.bind (Loc.frzL _ _) λ_=>Loc.bind (Loc.getB _) λ_=>?_
  split
  .exact Loc.setB _ _
  .exact Loc.fail
 .exact Loc.ret _
theorem Loc.frzT:∀(l:List Nat) (T:List AV),Loc (frzT l T)
 |[],T=>Loc.ret _
 |t::r,T=>by
  unfold Go.Proofs.YtpncilciembjdaaGreatDoor.frzT;split
  .exact Loc.bind (Loc.frzB _) λ_=>Loc.frzT r T
  .exact Loc.bind (Loc.frz _ _) λ_=>Loc.frzT r _
  .exact Loc.frzT r T
theorem Loc.evC{Γ:FuncId->List AV->AM AV}{Λ:Nat->List AV->AM (AX × List AV)}(hΓ:∀ f args,Loc (Γ f args))(hΛ:∀ i T,Loc (Λ i T)):∀(c:MC) (T:List AV),Loc (evC A Γ Λ c T)
 |.skip,T=>Loc.ret _
 |.reg ops bf,T=>Loc.regM hΓ _ _ _
 |.seq a b,T=>by
  unfold Go.Proofs.YtpncilciembjdaaGreatDoor.evC;refine Loc.bind (Loc.evC hΓ hΛ a T) λr=>?_
  split
  .exact Loc.evC hΓ hΛ b _
  .exact Loc.ret _
 |.cond c a b,T=>by
  unfold Go.Proofs.YtpncilciembjdaaGreatDoor.evC;split
  .split
   .exact Loc.evC hΓ hΛ a T
   .exact Loc.evC hΓ hΛ b T
  .exact Loc.fail
 |.block id c,T=>by
  unfold Go.Proofs.YtpncilciembjdaaGreatDoor.evC;refine Loc.bind (Loc.evC hΓ hΛ c T) λr=>?_
  split
  .exact Loc.ite (Loc.ret _) (Loc.ret _)
  .exact Loc.ret _
 |.loop i h,T=>by
  unfold Go.Proofs.YtpncilciembjdaaGreatDoor.evC;refine Loc.bind (Loc.adoptM _ _) λ_=>Loc.bind (Loc.frzT _ _) λ_=>?_
  split
  .exact Loc.bind (hΛ _ _) λ_=>Loc.ret _
  .exact Loc.fail
 |.exit id,T=>Loc.ret _
 |.ret,T=>Loc.ret _
 |.bad,_=>Loc.fail
theorem Loc.delC(b i:Nat):Loc (delC b i):=by
 unfold Go.Proofs.YtpncilciembjdaaGreatDoor.delC;refine Loc.bind (Loc.getB _) λk=>?_
 split
 .exact Loc.delB _
 .exact Loc.ret _
theorem Loc.delT:∀(l:List Nat) (T:List AV),Loc (delT l T)
 |[],T=>Loc.ret _
 |t::r,T=>by
  unfold Go.Proofs.YtpncilciembjdaaGreatDoor.delT;split
  .exact Loc.bind (Loc.delB _) λ_=>Loc.delT r T
  .exact Loc.bind (Loc.delB _) λ_=>Loc.delT r T
  .split
   .exact Loc.bind (Loc.delC _ _) λ_=>Loc.delT r T
   .exact Loc.delT r T
theorem Loc.touchS(x:AV):Loc (touchS x):=by
 unfold Go.Proofs.YtpncilciembjdaaGreatDoor.touchS;split
 .refine Loc.bind (Loc.getB _) λk=>?_
  split
  .exact Loc.bind (Loc.delB _) λ_=>Loc.bind (Loc.newB _) λ_=>Loc.ret _
  .exact Loc.ret _
 .exact Loc.ret _
theorem Loc.touchL:∀ l:List AV,Loc (touchL l)
 |[]=>Loc.ret _
 |x::r=>by
  unfold Go.Proofs.YtpncilciembjdaaGreatDoor.touchL;exact Loc.bind (Loc.touchS x) λ_=>Loc.bind (Loc.touchL r) λ_=>Loc.ret _
theorem Loc.touchB(b:Nat):Loc (touchB b):=by
 unfold Go.Proofs.YtpncilciembjdaaGreatDoor.touchB;refine Loc.bind (Loc.getB _) λk=>?_
 split
 .refine Loc.bind (Loc.touchL _) λ_=>Loc.bind (Loc.getB _) λ_=>?_
  split
  .exact Loc.setB _ _
  .exact Loc.fail
 .exact Loc.setB _ _
 .exact Loc.ret _
theorem Loc.touchI:∀ l:List Nat,Loc (touchI l)
 |[]=>Loc.ret _
 |b::r=>by
  unfold Go.Proofs.YtpncilciembjdaaGreatDoor.touchI;exact Loc.bind (Loc.touchB b) λ_=>Loc.touchI r
theorem Loc.touchV(x:AV):Loc (touchV x):=by
 unfold Go.Proofs.YtpncilciembjdaaGreatDoor.touchV;split
 .exact Loc.touchS _
 .exact Loc.bind (Loc.touchL _) λ_=>Loc.bind (Loc.touchI _) λ_=>Loc.ret _
 .exact Loc.bind (Loc.touchI _) λ_=>Loc.ret _
theorem Loc.touchA:∀(m:List Bool) (l:List AV),Loc (touchA m l)
 |m,[]=>by cases m with
  |nil=>exact Loc.ret _
  |cons b m=>cases b<;>exact Loc.ret _
 |true::m,x::r=>by
  unfold Go.Proofs.YtpncilciembjdaaGreatDoor.touchA;exact Loc.bind (Loc.touchI _) λ_=>Loc.bind (Loc.touchA m r) λ_=>Loc.ret _
 |false::m,x::r=>by
  unfold Go.Proofs.YtpncilciembjdaaGreatDoor.touchA;exact Loc.bind (Loc.touchV x) λ_=>Loc.bind (Loc.touchA m r) λ_=>Loc.ret _
 |[],x::r=>by
  unfold Go.Proofs.YtpncilciembjdaaGreatDoor.touchA;exact Loc.bind (Loc.touchV x) λ_=>Loc.bind (Loc.touchA [] r) λ_=>Loc.ret _
end
def Gh(μ:Mu)(F:AG)(w:World)(H H':AH)(Q:Mu->AG->Prop):Prop:=
 ∃ μ' F',Later μ μ' F F' w w/\HRep μ' F' w H'.get/\(∀ b,(b<H.next\/H'.next<=b)->μ' b=μ b)/\Q μ' F'
section
variable {μ:Mu} {F:AG} {w:World} {H H1 H2:AH}
theorem Gh.same{Q:Mu->AG->Prop}(hH:HRep μ F w H.get)(h:Q μ F):Gh μ F w H H Q:=⟨μ,F,Later.refl _ _ _,hH,λ_ _=>rfl,h⟩
theorem Gh.trans{Q:Mu->AG->Prop}(hn1:H.next<=H1.next)(hn2:H1.next<=H2.next){Q1:Mu->AG->Prop}(h:Gh μ F w H H1 Q1)(k:∀ μ' F',Later μ μ' F F' w w->HRep μ' F' w H1.get->(∀ b,(b<H.next\/H1.next<=b)->μ' b=μ b)->Q1 μ' F'->Gh μ' F' w H1 H2 Q):Gh μ F w H H2 Q:=by
 obtain⟨μ1,F1,h1,h2,h3,h4⟩:=h;obtain⟨μ2,F2,k1,k2,k3,k4⟩:=k μ1 F1 h1 h2 h3 h4;refine⟨μ2,F2,h1.trans k1,k2,λb hb=>?_,k4⟩;rw[k3 b (by omega),h3 b (by omega)]
theorem Gh.mono{Q Q':Mu->AG->Prop}(h:Gh μ F w H H1 Q)(k:∀ μ' F',Later μ μ' F F' w w->Q μ' F'->Q' μ' F'):Gh μ F w H H1 Q':=by
 obtain⟨μ1,F1,h1,h2,h3,h4⟩:=h;exact⟨μ1,F1,h1,h2,h3,k _ _ h1 h4⟩
theorem PQ:∀(n e:Nat) (l:List AV) (i:Nat),(Bi n e l)[i]? = if i<n then Θ ((l.drop (i*e)).take e) else Ξ
 |0,e,l,i=>by simp[Bi]
 |n+1,e,l,0=>by simp[Bi]
 |n+1,e,l,i+1=>by
  simp only[Bi,List.getElem?_cons_succ,PQ n e (l.drop e) i,List.drop_drop,Nat.add_lt_add_iff_right];rw[show e+i*e=(i+1)*e by rw[Nat.add_mul];omega]
theorem GA:∀(n e:Nat) (l:List AV),(Bi n e l).length=n
 |0,e,l=>rfl
 |n+1,e,l=>by simp[Bi,GA n]
theorem On{l:List AV}(h:AO l=Δ)(n:Nat):AO (l.take n)=Δ:=by
 rw[Br]at h ⊢;exact ApY.2 λx hx=>ApY.1 h x (List.mem_of_mem_take hx)
theorem Om{l:List AV}(h:AO l=Δ)(n:Nat):AO (l.drop n)=Δ:=by
 rw[Br]at h ⊢;exact ApY.2 λx hx=>ApY.1 h x (List.mem_of_mem_drop hx)
theorem Mg:∀(n e:Nat) {l:List AV},AO l=Δ->IU (Bi n e l)=Δ
 |0,e,l,h=>rfl
 |n+1,e,l,h=>by
  have:=Mg n e (Om h e);unfold IU at this ⊢;simp[Bi,On h,this]
theorem Za{g q m e c:Nat}{cs:List AV}(hn:AO cs=Δ)(hl:cs.length=m*e)(hm:m<=c)(hc:c<=maxLen){u:Value}(hu:u=.slice (Θ ⟨g,q,Ξ⟩) m c)(hr:m≠0->RepAt μ F w g cs q):Rep μ F w (.ls (Bi m e cs)) u:=by
 simp only[Rep];refine⟨Mg m e hn,Θ ⟨g,q,Ξ⟩,c,by rw[GA];exact hu,by rw[GA];exact hm,hc,λhne=>⟨g,q,e,rfl,?_⟩⟩;have hm0:m≠0:=λh0=>hne (by rw[h0];rfl)
 have hr:=hr hm0;refine RepRows.mk λi x hx=>?_
 rw[PQ]at hx;split at hx
 .rename_i hi
  simp only[ξ]at hx;subst hx;have h1:i*e+e<=m*e:=by rw[←Nat.succ_mul];exact Nat.mul_le_mul_right e hi
  refine⟨by rw[Aqh,Ars,hl];omega,?_⟩;have h2:=hr.drop (i*e);refine RepAt.mk λj y hy=>?_
  rw[Aqo]at hy;split at hy
  .exact h2.get hy
  .cases hy
 .cases hx
theorem Gm{b:Nat}{k:ABlk}{u:Unit}{H H':AH}{ft:Foot}(h:AM.setB b k H=Θ (u,H',ft)):H'=H.put b k/\∃ k0,H.get b=Θ k0:=by
 unfold AM.setB at h
 cases e:H.get b with
 |none=>rw[e]at h;cases h
 |some k0=>
  rw[e]at h;simp only[ξ,Prod.mk.injEq]at h;exact⟨h.2.1.symm,k0,rfl⟩
theorem Th(n:Nat)(x:AV){y:AV}{H':AH}{ft:Foot}(hw:H.wf)(h:frz n x H=Θ (y,H',ft)):H.next<=H'.next/\H'.wf:=⟨(Loc.frz n x H y H' ft hw h).next,(Loc.frz n x H y H' ft hw h).wf⟩
theorem P1(n:Nat)(x:List AV){y:List AV}{H':AH}{ft:Foot}(hw:H.wf)(h:frzL n x H=Θ (y,H',ft)):H.next<=H'.next/\H'.wf:=⟨(Loc.frzL n x H y H' ft hw h).next,(Loc.frzL n x H y H' ft hw h).wf⟩
theorem AkI{b:Nat}{k k0:ABlk}(hw:H.wf)(hb:H.get b=Θ k0):(H.put b k).wf:=λc h1 h2=>by
 rw[AH.get_put]
 by_cases hcb:c=b
 .subst hcb
  rw[hw c h1 h2]at hb
  cases hb
 .rw[if_neg hcb];exact hw c h1 h2
theorem OI{z u:Value}(hx:Rep μ F w (.v z) u):Rep μ F w (Ab8 z) u:=by
 unfold Ab8;split
 .rename_i e
  simp only[Rep]at hx ⊢;rw[hx.1,Iw e];exact⟨rfl,Ξ,0,rfl,κ _,AqC _,λh=>absurd rfl h⟩
 .exact hx
end
mutual
theorem Io:∀(n:Nat) (x:AV) {μ:Mu} {F:AG} {w:World} {H:AH} {u:Value} {y:AV} {H':AH} {ft:Foot},Rep μ F w x u->HRep μ F w H.get->H.wf->frz n x H=Θ (y,H',ft)->Gh μ F w H H' λμ' F'=>Rep μ' F' w y u
 |0,x,μ,F,w,H,u,y,H',ft,hx,hH,hw,h=>by
  simp only[frz]at h
  cases x<;>simp only[frz0]at h<;>first
   |exact(Ah h).elim
   | (obtain⟨rfl,rfl⟩:=Ai h
      first
       |exact Gh.same hH hx
       |exact Gh.same hH (OI hx))
 |n+1,.v z,μ,F,w,H,u,y,H',ft,hx,hH,hw,h=>by
  simp only[frz]at h;obtain⟨rfl,rfl⟩:=Ai h;exact Gh.same hH (OI hx)
 |n+1,.sl b o m e,μ,F,w,H,u,y,H',ft,hx,hH,hw,h=>by
   simp only[frz]at h;obtain⟨k,H1,f1,f2,h1,h2⟩:=bind_some h;obtain⟨hk,e1⟩:=BC h1;rw[e1]at h2
   cases hle:Ap3 (o+m*e) k.cells.length with
   |false=>rw[hle]at h2;exact(Ah h2).elim
   |true=>
    rw[hle]at h2;have hle':o+m*e<=k.cells.length:=by simpa using hle
    obtain⟨_,H2,f3,f4,h3,h4⟩:=bind_some h2;simp only[Rep]at hx;obtain⟨p,hp,hu⟩:=hx;obtain⟨p',hp',hB⟩:=hH.blk b k hk;rw[hp]at hp'
    cases hp'
    have step:∃ F1,Later μ μ F F1 w w/\HRep μ F1 w H2.get/\(∀ i,i<k.cells.length->F1 p.g (p.o+i))/\H2.next=H.next/\H2.wf:=by
     cases hst:k.st with
     |true=>
      rw[hst]at h3;obtain⟨e2,k0,hk0⟩:=Gm h3;obtain⟨g1,g2⟩:=P8 hH hk hp;refine⟨_,g2,?_,λi hi=>.inr ⟨rfl,by omega,by omega⟩,by rw[e2];rfl,by rw[e2];exact AkI hw hk0⟩;have:H2.get=λc=>if c=b then Θ { k with st:=Φ } else H.get c:=by
       funext c
       rw[e2,AH.get_put]
      rw[this];exact g1
     |false=>
      rw[hst]at h3;obtain⟨_,e2⟩:=Ai h3;rw[e2];exact⟨F,Later.refl _ _ _,hH,λi hi=>hB.kept hst i hi,rfl,hw⟩
    obtain⟨F1,g1,g2,g3,g4,g5⟩:=step;obtain⟨us,r1,r2⟩:=De (g:=p.g) (cs:=(k.cells.drop o).take (m*e)) (o:=p.o+o) (μ:=μ) (F:=F1) (w:=w) (by
     intro i x hi;rw[Aqo]at hi;split at hi
     .rw[List.getElem?_drop]at hi
      obtain⟨u',q1,q2⟩:=hB.cell (o+i) x hi;exact⟨u',by rw[Aqu];exact q1,q2.later g1⟩
     .cases hi)
    have hlen:us.length=m*e:=by
     rw[r1.length,Aqh,Ars];omega
    have fin:∀{cs:List AV} {H3:AH},H2.next<=H3.next->AO cs=Δ->Gh μ F1 w H2 H3 (λμ' F'=>RepList μ' F' w cs us)->Gh μ F w H H3 λμ' F'=>Rep μ' F' w (.ls (Bi m e cs)) u:=by
     intro cs H3 n3 hno hG;refine Gh.trans (H1:=H2) (by omega) n3 (Q1:=λμ' F'=>μ'=μ/\F'=F1) ⟨μ,F1,g1,g2,λ_ _=>rfl,rfl,rfl⟩ ?_;rintro μ' F' _ _ _ ⟨rfl,rfl⟩;refine hG.mono λμ2 F2 l2 hr=>?_
     have hcl:cs.length=m*e:=by rw[←hr.length,hlen]
     rcases hu with⟨rfl,rfl⟩|⟨q,c,rfl,hq,hmc,hcm,hroom⟩
     .simp only[Bi,Rep]
      exact⟨rfl,Ξ,0,rfl,κ _,AqC _,λh=>absurd rfl h⟩
     .refine Za hno hcl hmc hcm rfl λhm0=>?_
      have hq':=hq (by omega);rw[hq'];refine RepAt.mk λi x hi=>?_
      obtain⟨v,v1,v2⟩:=hr.get hi;have hi':i<m*e:=by rw[←hcl];exact(List.getElem?_eq_some_iff.1 hi).1
      refine⟨(l2.prot _ _ (by rw[Aqu];exact g3 (o+i) (by omega))).1,v,r2 i v v1,v2⟩
    cases hno0:(k.ex||AO ((k.cells.drop o).take (m*e))) with
    |true=>
     rw[hno0]at h4;obtain⟨rfl,rfl⟩:=Ai h4;have hno:AO ((k.cells.drop o).take (m*e))=Δ:=by
      cases hx:k.ex with
      |true=>exact On (Om (hB.pure hx) _) _
      |false=>rw[hx,Bool.false_or]at hno0;exact hno0
     exact fin (κ _) hno (Gh.same g2 r1)
    |false=>
     rw[hno0]at h4;obtain⟨cs,H3,f5,f6,h5,h6⟩:=bind_some h4;have hG:=Fa n _ r1 g2 g5 h5;obtain⟨n3,w3⟩:=P1 n _ g5 h5
     cases hno:AO cs with
     |true=>
      rw[hno]at h6;obtain⟨rfl,rfl⟩:=Ai h6;exact fin n3 hno hG
     |false=>rw[hno]at h6;exact(Ah h6).elim
 |n+1,.agg cs,μ,F,w,H,u,y,H',ft,hx,hH,hw,h=>by
   simp only[frz]at h;obtain⟨cs',H1,f1,f2,h1,h2⟩:=bind_some h;obtain⟨rfl,rfl⟩:=Ai h2;simp only[Rep]at hx;obtain⟨us,rfl,hr⟩:=hx;refine(Fa n _ hr hH hw h1).mono λμ' F' _ hq=>?_
   simp only[Rep];exact⟨us,rfl,hq⟩
 |n+1,.tup cs,μ,F,w,H,u,y,H',ft,hx,hH,hw,h=>by
   simp only[frz]at h;obtain⟨cs',H1,f1,f2,h1,h2⟩:=bind_some h;obtain⟨rfl,rfl⟩:=Ai h2;simp only[Rep]at hx;obtain⟨us,rfl,hr⟩:=hx;refine(Fa n _ hr hH hw h1).mono λμ' F' _ hq=>?_
   simp only[Rep];exact⟨us,rfl,hq⟩
 |n+1,.ptr b o,μ,F,w,H,u,y,H',ft,hx,hH,hw,h=>by
   simp only[frz]at h;obtain⟨rfl,rfl⟩:=Ai h;exact Gh.same hH hx
 |n+1,.ls xs,μ,F,w,H,u,y,H',ft,hx,hH,hw,h=>by
   simp only[frz]at h;obtain⟨rfl,rfl⟩:=Ai h;exact Gh.same hH hx
 |n+1,.lp xs,μ,F,w,H,u,y,H',ft,hx,hH,hw,h=>by
   simp only[frz]at h;obtain⟨rfl,rfl⟩:=Ai h;exact Gh.same hH hx
 |n+1,.fn f a c,μ,F,w,H,u,y,H',ft,hx,hH,hw,h=>by
   simp only[frz]at h;obtain⟨rfl,rfl⟩:=Ai h;exact Gh.same hH hx
 |n+1,.any,μ,F,w,H,u,y,H',ft,hx,hH,hw,h=>by
   simp only[frz]at h;obtain⟨rfl,rfl⟩:=Ai h;exact Gh.same hH hx
theorem Fa:∀(n:Nat) (l:List AV) {μ:Mu} {F:AG} {w:World} {H:AH} {us:List Value} {y:List AV} {H':AH} {ft:Foot},RepList μ F w l us->HRep μ F w H.get->H.wf->frzL n l H=Θ (y,H',ft)->Gh μ F w H H' λμ' F'=>RepList μ' F' w y us
 |n,[],μ,F,w,H,us,y,H',ft,hx,hH,hw,h=>by
  unfold frzL at h;obtain⟨rfl,rfl⟩:=Ai h;exact Gh.same hH hx
 |0,_::_,μ,F,w,H,us,y,H',ft,hx,hH,hw,h=>by
  unfold frzL at h;exact(Ah h).elim
 |n+1,x::r,μ,F,w,H,us,y,H',ft,hx,hH,hw,h=>by
  unfold frzL at h;obtain⟨x',H1,f1,f2,h1,h2⟩:=bind_some h;obtain⟨r',H2,f3,f4,h3,h4⟩:=bind_some h2;obtain⟨rfl,rfl⟩:=Ai h4;simp only[RepList]at hx;obtain⟨u,t,rfl,hu,ht⟩:=hx;obtain⟨n1,w1⟩:=Th n x hw h1;obtain⟨n2,w2⟩:=P1 n r w1 h3;refine Gh.trans n1 n2 (Io n x hu hH hw h1) λμ1 F1 l1 hH1 _ hx1=>?_
  refine(Fa n r (ht.later' l1) hH1 w1 h3).mono λμ2 F2 l2 hr2=>?_
  simp only[RepList];exact⟨u,t,rfl,hx1.later l2,hr2⟩
end
