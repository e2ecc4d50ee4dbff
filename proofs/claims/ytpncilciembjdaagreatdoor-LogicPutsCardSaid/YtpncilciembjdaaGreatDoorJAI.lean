/- Code with all types' siz -/
import Derived.Test.YtpncilciembjdaaGreatDoorJAH
set_option linter.all false
open Array renaming toArray_toList->Avk
open Bool renaming false->Ξ,true->U,and_eq_true->Atk,false_eq_true->Auc
open Int renaming ofNat->AuW
open List renaming all_eq_true->Atr,getElem?_take->AtC,length_drop->Avh,length_take->AtN
open Nat renaming add_assoc->AtM,beq->AtK,ble->Atl,blt->Aup,eq_of_beq_eq_true->Atz,le_refl->η,min->At8,zero_add->Ato,zero_le->AtI
open Option renaming none->Θ,some->Δ,bind_some->AtQ,map_none->Avm,map_some->AtS
namespace Go.Proofs.YtpncilciembjdaaGreatDoor
open Option.some renaming injEq->θ
open Go.RowKit
structure Ar0 where
 add:IntKind->Int->Int->Int
 sub:IntKind->Int->Int->Int
 mul:IntKind->Int->Int->Int
 quo:IntKind->Int->Int->Int
 rem:IntKind->Int->Int->Int
 bits:BinOp->IntKind->Int->Int->Int
 shl:IntKind->Int->Int->Int
 shr:IntKind->Int->Int->Int
 conv:IntKind->Int->Int
 lt:Int->Int->Bool
 le:Int->Int->Bool
 eq:Int->Int->Bool
 max:Int->Int->Int
 min:Int->Int->Int
 beq:Bool->Bool->Bool
 band:Bool->Bool->Bool
 seq:ByteArray->ByteArray->Bool
 slt:ByteArray->ByteArray->Bool
 slen:ByteArray->Nat
 cat:ByteArray->ByteArray->ByteArray
 sat:ByteArray->Nat->Int
 ssub:ByteArray->Nat->Nat->ByteArray
inductive Ar where
 |mk (r:Ar0)
 |no
def Ar.add(A:Ar)(x0:IntKind)(x1:Int)(x2:Int):Int:=match A with
 |.mk r=>r.add x0 x1 x2
 |.no=>0
def Ar.sub(A:Ar)(x0:IntKind)(x1:Int)(x2:Int):Int:=match A with
 |.mk r=>r.sub x0 x1 x2
 |.no=>0
def Ar.mul(A:Ar)(x0:IntKind)(x1:Int)(x2:Int):Int:=match A with
 |.mk r=>r.mul x0 x1 x2
 |.no=>0
def Ar.quo(A:Ar)(x0:IntKind)(x1:Int)(x2:Int):Int:=match A with
 |.mk r=>r.quo x0 x1 x2
 |.no=>0
def Ar.rem(A:Ar)(x0:IntKind)(x1:Int)(x2:Int):Int:=match A with
 |.mk r=>r.rem x0 x1 x2
 |.no=>0
def Ar.bits(A:Ar)(x0:BinOp)(x1:IntKind)(x2:Int)(x3:Int):Int:=match A with
 |.mk r=>r.bits x0 x1 x2 x3
 |.no=>0
def Ar.shl(A:Ar)(x0:IntKind)(x1:Int)(x2:Int):Int:=match A with
 |.mk r=>r.shl x0 x1 x2
 |.no=>0
def Ar.shr(A:Ar)(x0:IntKind)(x1:Int)(x2:Int):Int:=match A with
 |.mk r=>r.shr x0 x1 x2
 |.no=>0
def Ar.conv(A:Ar)(x0:IntKind)(x1:Int):Int:=match A with
 |.mk r=>r.conv x0 x1
 |.no=>0
def Ar.lt(A:Ar)(x0:Int)(x1:Int):Bool:=match A with
 |.mk r=>r.lt x0 x1
 |.no=>Ξ
def Ar.le(A:Ar)(x0:Int)(x1:Int):Bool:=match A with
 |.mk r=>r.le x0 x1
 |.no=>Ξ
def Ar.eq(A:Ar)(x0:Int)(x1:Int):Bool:=match A with
 |.mk r=>r.eq x0 x1
 |.no=>Ξ
def Ar.max(A:Ar)(x0:Int)(x1:Int):Int:=match A with
 |.mk r=>r.max x0 x1
 |.no=>0
def Ar.min(A:Ar)(x0:Int)(x1:Int):Int:=match A with
 |.mk r=>r.min x0 x1
 |.no=>0
def Ar.not(_:Ar)(b:Bool):Bool:=!b
def Ar.beq(A:Ar)(x0:Bool)(x1:Bool):Bool:=match A with
 |.mk r=>r.beq x0 x1
 |.no=>Ξ
def Ar.band(A:Ar)(x0:Bool)(x1:Bool):Bool:=match A with
 |.mk r=>r.band x0 x1
 |.no=>Ξ
def Ar.seq(A:Ar)(x0:ByteArray)(x1:ByteArray):Bool:=match A with
 |.mk r=>r.seq x0 x1
 |.no=>Ξ
def Ar.slt(A:Ar)(x0:ByteArray)(x1:ByteArray):Bool:=match A with
 |.mk r=>r.slt x0 x1
 |.no=>Ξ
def Ar.slen(A:Ar)(x0:ByteArray):Nat:=match A with
 |.mk r=>r.slen x0
 |.no=>0
def Ar.cat(A:Ar)(x0:ByteArray)(x1:ByteArray):ByteArray:=match A with
 |.mk r=>r.cat x0 x1
 |.no=>ByteArray.empty
def Ar.sat(A:Ar)(x0:ByteArray)(x1:Nat):Int:=match A with
 |.mk r=>r.sat x0 x1
 |.no=>0
def Ar.ssub(A:Ar)(x0:ByteArray)(x1:Nat)(x2:Nat):ByteArray:=match A with
 |.mk r=>r.ssub x0 x1 x2
 |.no=>ByteArray.empty
def RH(b:BinOp)(k:IntKind)(x y:Int):Int:=match b with
 |.and=>k.wrap (BitVec.ofInt k.bits x &&& BitVec.ofInt k.bits y).toNat
 |.or=>k.wrap (BitVec.ofInt k.bits x ||| BitVec.ofInt k.bits y).toNat
 |.xor=>k.wrap (BitVec.ofInt k.bits x ^^^ BitVec.ofInt k.bits y).toNat
 |_=>k.wrap (BitVec.ofInt k.bits x &&& ~~~BitVec.ofInt k.bits y).toNat
def GA:Ar0 where
 add k x y:=k.wrap (x+y)
 sub k x y:=k.wrap (x-y)
 mul k x y:=k.wrap (x*y)
 quo k x y:=k.wrap (x.tdiv y)
 rem _ x y:=x.tmod y
 bits b k x y:=RH b k x y
 shl k x y:=k.wrap (x*2 ^ (At8 y.toNat k.bits))
 shr k x y:=x.fdiv (2 ^ (At8 y.toNat k.bits))
 conv k x:=k.wrap x
 lt x y:=decide (x<y)
 le x y:=decide (x<=y)
 eq x y:=x == y
 max x y:=if x<y then y else x
 min x y:=if y<x then y else x
 beq a b:=a == b
 band a b:=a&&b
 seq a b:=a.toList == b.toList
 slt a b:=Op.bytesLess a.toList b.toList
 slen a:=a.size
 cat a b:=a++b
 sat a i:=match a[i]? with
  |some c=>AuW c.toNat
  |none=>0
 ssub a l h:=a.extract l h
def Ah:Ar:=.mk GA
inductive MO where
 |mv (x:Operand)
 |pick (c a b:Operand)
 |alloc (z:AA)
 |box (x:Operand)
 |buildS (z:AA) (pl:List (Nat × Nat)) (ps:List (Nat × Operand))
 |buildR (z:AA) (e:Nat) (ps:List (Nat × Operand))
 |buildSl (z:AA) (e n:Nat) (ps:List (Nat × Operand))
 |ld (row:Bool) (n:Nat) (a:Operand)
 |st (n:Nat) (a x:Operand)
 |nilck (x:Operand)
 |bin (ek:Nat) (b:BinOp) (x y:Operand)
 |eqs (neg:Bool) (ks:Ae) (x y:Operand)
 |not (x:Operand)
 |neg (x:Operand)
 |mkfn (f:Fn) (a c:List Operand)
 |slice (e:Nat) (x:Operand) (lo hi:Option Operand)
 |faddr (off:Nat) (a:Operand)
 |field (row:Bool) (off n:Nat) (x:Operand)
 |iaddr (e:Nat) (x i:Operand)
 |aaddr (n e:Nat) (x i:Operand)
 |index (n e:Nat) (row:Bool) (sz:Nat) (x i:Operand)
 |ext (x:Operand) (i:Nat)
 |mksl (z:AA) (e bytes:Nat) (l c:Operand)
 |app (e bytes:Nat) (s x:Operand)
 |appz (z:AA) (e bytes:Nat) (s x:Operand)
 |cpy (e:Nat) (d x:Operand)
 |clr (z:AA) (e:Nat) (x:Operand)
 |len (sl:Bool) (x:Operand)
 |sidx (x i:Operand)
 |sslice (x:Operand) (lo hi:Option Operand)
 |iconv (k:IntKind) (x:Operand)
 |str (x:Operand)
 |mx (x y:Operand)
 |mn (x y:Operand)
 |callF (f:FuncId) (args:List Operand)
 |callV (ents:Nat) (x:Operand) (args:List Operand)
 |bad
structure MOp where
 dst:Option Nat
 op:MO
 g:Option (Nat × Bool)
structure LpH where
 n:Nat
 live:List Bool
 ad:List (Nat × Nat)
 fz:Ae
 outs:List (Nat × (List Bool × (Ae × Ae)))
inductive MC where
 |skip
 |reg (ops:List MOp) (bf:Option (Ae))
 |seq (a b:MC)
 |cond (c:Operand) (a b:MC)
 |block (id:Nat) (c:MC)
 |loop (i:Nat) (h:LpH)
 |exit (id:Nat)
 |ret
 |bad
section
variable (A:Ar)
def loadM(row:Bool)(n:Nat)(a:AV):AM AV:=match row with
 |true=>(rdAt a n).bind λcs=>AM.ret (.agg cs)
 |false=>(rdAt a 1).bind λcs=>AM.opt (U2 cs)
def storeM(n:Nat)(a x:AV):AM AV:=match a with
 |.ptr b o=>
  if x.cells.length=n/\x.cells.all AV.one=U then
   (AM.getB b).bind λk=>if k.st=U/\o+n<=k.cells.length/\(!k.ex||AU x.cells)=U then(AM.setB b { k with cells:=AG k.cells o x.cells }).bind λ_=>AM.ret AV.undef else AM.fail
  else AM.fail
 |_=>AM.fail
def S3(row:Bool)(off n:Nat)(cs:Aa):Option AV:=match row with
 |true=>Δ (.agg ((cs.drop off).take n))
 |false=>cs[off]?
def UC(row:Bool)(off n:Nat)(x:AV):Option AV:=match x with
 |.agg cs=>S3 row off n cs
 |_=>Θ
def KI(place:Nat->Option (Nat × Nat))(z:AA)(ps:List (Nat × AV)):Option AV:=
 if ps.any (λp=>GP p.2) then Θ else(EP place (z.map .v) ps).map .agg
def buildSlM(z:AA)(e n:Nat)(ps:List (Nat × AV)):AM AV:=
 if n*e<=16777216/\n<=maxLen/\ps.any (λp=>GP p.2)=Ξ then
  match EP (λi=>Δ (i*e,e)) (B5 (z.map .v) (n*e)) ps with
  |some cs=>if AU cs=U then(AM.newB ⟨cs,U,U⟩).bind λb=>AM.ret (.sl b 0 n e) else(AM.newB ⟨cs,U,Ξ⟩).bind λb=>AM.ret (.sl b 0 n e)
  |none=>AM.fail
 else AM.fail
def S1:List Aa->Nat->Option Aa
 |[],_=>Θ
 |x::_,0=>Δ x
 |_::r,n+1=>S1 r n
theorem QP:∀(xs:List Aa) (n:Nat),S1 xs n=xs[n]?
 |[],_=>by simp[S1]
 |x::r,0=>by simp[S1]
 |x::r,n+1=>by simp[S1,QP r n]
def NI(e:Nat)(x ix:AV):Option AV:=match ix.idx with
 |some i=>(match x with
  |.sl b o n e'=>(match Aup i n with
   |true=>if e'=e then Δ (.ptr b (o+i*e)) else Θ
   |false=>Θ)
  |.ls xs=>(match S1 xs i with
   |some cs=>(match AtK cs.length e with
    |true=>Δ (.lp cs)
    |false=>Θ)
   |none=>Θ)
  |_=>Θ)
 |none=>Θ
def Qd(n e:Nat)(x ix:AV):Option AV:=match ix.idx with
 |some i=>(match Aup i n with
  |true=>NY x (i*e)
  |false=>Θ)
 |none=>Θ
def NK(n e:Nat)(row:Bool)(sz:Nat)(x ix:AV):Option AV:=match x,ix.idx with
 |.agg cs,Δ i=>(match Aup i n with
  |true=>S3 row (i*e) sz cs
  |false=>Θ)
 |_,_=>Θ
def HD:List Aa->Nat->List Aa
 |[],_=>[]
 |_::_,0=>[]
 |x::r,n+1=>x::HD r n
def Ha:List Aa->Nat->List Aa
 |[],_=>[]
 |x::r,0=>x::r
 |_::r,n+1=>Ha r n
def Bb:List Aa->Nat
 |[]=>0
 |_::r=>Bb r+1
def Fs(e:Nat):List Aa->Bool
 |[]=>U
 |x::r=>AtK x.length e&&Fs e r
def Mo(n:Nat):Option AV->Option Nat
 |some x=>x.idx
 |none=>Δ n
def Ou(e:Nat)(x:AV)(lo hi:Option AV):Option AV:=match x with
 |.sl b o n e'=>(match Mo 0 lo,Mo n hi with
  |some l,Δ h=>(match Atl l h,Atl h n,AtK e' e with
   |true,U,U=>Δ (.sl b (o+l*e) (h-l) e)
   |_,_,_=>Θ)
  |_,_=>Θ)
 |.ls xs=>(match Mo 0 lo,Mo (Bb xs) hi with
  |some l,Δ h=>(match Atl l h,Atl h (Bb xs),Fs e xs with
   |true,U,U=>Δ (.ls (Ha (HD xs h) l))
   |_,_,_=>Θ)
  |_,_=>Θ)
 |_=>Θ
def AlD(sl:Bool)(x:AV):Option AV:=match sl with
 |true=>(match x with
  |.sl _ _ n _=>Δ (.v (.int .i64 (AuW n)))
  |.ls xs=>Δ (.v (.int .i64 (AuW (Bb xs))))
  |.v (.slice Θ 0 0)=>Δ (.v (.int .i64 (AuW 0)))
  |_=>Θ)
 |false=>(match x with
  |.v (.string s)=>Δ (.v (.int .i64 (AuW (A.slen s))))
  |_=>Θ)
def eqL:Ae->Aa->Aa->Option Bool
 |[],[],[]=>Δ U
 |1::ks,.v (.bool a)::r,.v (.bool b)::q=>(match eqL ks r q with
  |some t=>Δ (A.band (A.beq a b) t)
  |none=>Θ)
 |0::ks,.v (.int k a)::r,.v (.int k' b)::q=>if k=k' then(match eqL ks r q with
  |some t=>Δ (A.band (A.eq a b) t)
  |none=>Θ) else Θ
 |2::ks,.v (.string a)::r,.v (.string b)::q=>(match eqL ks r q with
  |some t=>Δ (A.band (A.seq a b) t)
  |none=>Θ)
 |_,_,_=>Θ
def Ald(neg:Bool)(ks:Ae)(x y:AV):Option AV:=match x,y with
 |.agg xs,.agg ys=>(match eqL A ks xs ys with
  |some t=>(match neg with
   |true=>Δ (.v (.bool (A.not t)))
   |false=>Δ (.v (.bool t)))
  |none=>Θ)
 |_,_=>Θ
def eqM(ek:Nat)(x y:AV):Option Bool:=match ek,x,y with
 |4,.v (.bool a),.v (.bool b)=>Δ (A.beq a b)
 |1,.ptr ..,.v (.pointer Θ)=>Δ Ξ
 |1,.lp ..,.v (.pointer Θ)=>Δ Ξ
 |1,.v (.pointer Θ),.v (.pointer Θ)=>Δ U
 |2,.sl _ _ (_+1) _,.v (.slice Θ 0 0)=>Δ Ξ
 |2,.v (.slice Θ 0 0),.v (.slice Θ 0 0)=>Δ U
 |3,.fn ..,.v .nilFunc=>Δ Ξ
 |3,.v .nilFunc,.v .nilFunc=>Δ U
 |_,_,_=>Θ
def Jp(b:BinOp)(x y:AV):Option AV:=match x,y with
 |.v (.int k a),.v (.int k' c)=>(match b with
  |.shl=>(match A.lt c 0 with
   |true=>Θ
   |false=>Δ (.v (.int k (A.shl k a c))))
  |.shr=>(match A.lt c 0 with
   |true=>Θ
   |false=>Δ (.v (.int k (A.shr k a c))))
  |b=>if k=k' then(match b with
   |.and=>Δ (.v (.int k (A.bits .and k a c)))
   |.or=>Δ (.v (.int k (A.bits .or k a c)))
   |.xor=>Δ (.v (.int k (A.bits .xor k a c)))
   |.andNot=>Δ (.v (.int k (A.bits .andNot k a c)))
   |.quo=>(match A.eq c 0 with
    |true=>Θ
    |false=>Δ (.v (.int k (A.quo k a c))))
   |.rem=>(match A.eq c 0 with
    |true=>Θ
    |false=>Δ (.v (.int k (A.rem k a c))))
   |.add=>Δ (.v (.int k (A.add k a c)))
   |.sub=>Δ (.v (.int k (A.sub k a c)))
   |.mul=>Δ (.v (.int k (A.mul k a c)))
   |.eql=>Δ (.v (.bool (A.eq a c)))
   |.neq=>Δ (.v (.bool (A.not (A.eq a c))))
   |.lss=>Δ (.v (.bool (A.lt a c)))
   |.leq=>Δ (.v (.bool (A.le a c)))
   |.gtr=>Δ (.v (.bool (A.lt c a)))
   |.geq=>Δ (.v (.bool (A.le c a)))
   |_=>Θ) else Θ)
 |.v (.string a),.v (.string c)=>(match b with
   |.add=>(match Atl (A.slen a+A.slen c) 9223372036854775807 with
    |true=>Δ (.v (.string (A.cat a c)))
    |false=>Θ)
   |.eql=>Δ (.v (.bool (A.seq a c)))
   |.neq=>Δ (.v (.bool (A.not (A.seq a c))))
   |.lss=>Δ (.v (.bool (A.slt a c)))
   |.geq=>Δ (.v (.bool (A.not (A.slt a c))))
   |_=>Θ)
 |_,_=>Θ
def AdG(ek:Nat)(b:BinOp)(x y:AV):Option AV:=match ek,b with
 |0,_=>Jp A b x y
 |_,.eql=>(eqM A ek x y).map λt=>.v (.bool t)
 |_,.neq=>(eqM A ek x y).map λt=>.v (.bool (A.not t))
 |_,_=>Θ
def AdA(f:Int->Int->Int)(x y:AV):Option AV:=match x,y with
 |.v (.int k a),.v (.int k' c)=>if k=k' then Δ (.v (.int k (f a c))) else Θ
 |_,_=>Θ
def Ts(x i:AV):Option AV:=match x,i.idx with
 |.v (.string s),Δ i=>(match Aup i (A.slen s) with
  |true=>Δ (.v (.int .u8 (A.sat s i)))
  |false=>Θ)
 |_,_=>Θ
def Kg(x:AV)(lo hi:Option AV):Option AV:=match x with
 |.v (.string s)=>(match Mo 0 lo,Mo (A.slen s) hi with
  |some l,Δ h=>(match Atl l h,Atl h (A.slen s) with
   |true,U=>Δ (.v (.string (A.ssub s l h)))
   |_,_=>Θ)
  |_,_=>Θ)
 |_=>Θ
def ZJ(k:IntKind)(x:AV):Option AV:=match x with
 |.v (.int _ n)=>Δ (.v (.int k (A.conv k n)))
 |_=>Θ
def Apk(x:AV):Option AV:=match x with
 |.v (.bool b)=>Δ (.v (.bool (A.not b)))
 |_=>Θ
def Apj(x:AV):Option AV:=match x with
 |.v (.int k n)=>Δ (.v (.int k (A.sub k 0 n)))
 |_=>Θ
def Ip:List Aa->Aa
 |[]=>[]
 |x::r=>x++Ip r
def newsM(e:Nat)(x:AV):AM (Nat × Aa):=match x with
 |.sl b o n e'=>if e'=e then(AM.getB b).bind λk=>match Atl (o+n*e) k.cells.length,(k.ex||AU ((k.cells.drop o).take (n*e))) with
   |true,U=>AM.ret (n,(k.cells.drop o).take (n*e))
   |_,_=>AM.fail
   else AM.fail
 |.ls xs=>(match Fs e xs with
  |true=>AM.ret (Bb xs,Ip xs)
  |false=>AM.fail)
 |.v (.slice Θ 0 0)=>AM.ret (0,[])
 |_=>AM.fail
def I9:Aa->Bool
 |[]=>U
 |x::r=>x.one&&I9 r
def QM(z:AA)(e:Nat)(x:AV):AM (Nat × Aa):=match x.idx with
 |some m=>(match Atl m 9223372036854775807 with
  |true=>AM.ret (m,B5 (z.map .v) (m*e))
  |false=>AM.fail)
 |none=>AM.fail
def appR(e bytes:Nat)(s:AV)(r:Nat × Aa):AM AV:=
 match AtK r.1 0 with
 |true=>if OS s=U then AM.ret s else AM.fail
 |false=>match I9 r.2 with
  |false=>AM.fail
  |true=>(match s with
   |.v (.slice Θ 0 0)=>(match Atl (r.1*bytes) 140737488355328,Atl r.1 maxLen with
    |true,U=>(AM.newB ⟨r.2,U,U⟩).bind λb=>AM.ret (.sl b 0 r.1 e)
    |_,_=>AM.fail)
   |.sl b o n e'=>(match AtK e' e,Atl ((n+r.1)*bytes) 140737488355328,Atl (n+r.1) maxLen with
    |true,U,U=>(AM.getB b).bind λk=>match k.ex,k.st,AtK (o+n*e) k.cells.length with
     |true,U,U=>(AM.delB b).bind λ_=>(AM.newB ⟨(k.cells.take (o+n*e)).drop o++r.2,U,U⟩).bind λb'=>AM.ret (.sl b' 0 (n+r.1) e)
     |true,Ξ,U=>(AM.setB b { k with ex:=Ξ }).bind λ_=>(AM.newB ⟨(k.cells.take (o+n*e)).drop o++r.2,Ξ,U⟩).bind λb'=>AM.ret (.sl b' 0 (n+r.1) e)
     |true,U,Ξ=>(match Atl (o+n*e) k.cells.length with
      |true=>(AM.delB b).bind λ_=>(AM.newB ⟨(k.cells.take (o+n*e)).drop o++r.2,U,U⟩).bind λb'=>AM.ret (.sl b' 0 (n+r.1) e)
      |false=>AM.fail)
     |_,_,_=>AM.fail
    |_,_,_=>AM.fail)
   |_=>AM.fail)
def appM(e bytes:Nat)(s x:AV):AM AV:=(newsM e x).bind λr=>appR e bytes s r
def appzM(z:AA)(e bytes:Nat)(s x:AV):AM AV:=(QM z e x).bind λr=>appR e bytes s r
def mkslM(z:AA)(e bytes:Nat)(l c:AV):AM AV:=match l.idx,c.idx with
 |some n,Δ m=>(match Atl n m,Atl (m*bytes) 140737488355328,Atl m maxLen with
  |true,U,U=>(AM.newB ⟨B5 (z.map .v) (n*e),U,U⟩).bind λb=>AM.ret (.sl b 0 n e)
  |_,_,_=>AM.fail)
 |_,_=>AM.fail
def cpyM(e:Nat)(d x:AV):AM AV:=match d with
 |.sl b o n e'=>(match AtK e' e with
  |true=>(newsM e x).bind λr=>match I9 (r.2.take (At8 r.1 n*e)) with
   |true=>(AM.getB b).bind λk=>match k.st,Atl (o+n*e) k.cells.length with
    |true,U=>(AM.setB b { k with cells:=AG k.cells o (r.2.take (At8 r.1 n*e)) }).bind λ_=>AM.ret (.v (.int .i64 (AuW (At8 r.1 n))))
    |_,_=>AM.fail
   |false=>AM.fail
  |false=>AM.fail)
 |_=>AM.fail
def clrM(z:AA)(e:Nat)(x:AV):AM AV:=match x with
 |.sl b o n e'=>(match AtK e' e with
  |true=>(AM.getB b).bind λk=>match k.st,Atl (o+n*e) k.cells.length with
   |true,U=>(AM.setB b { k with cells:=AG k.cells o (B5 (z.map .v) (n*e)) }).bind λ_=>AM.ret (.tup [])
   |_,_=>AM.fail
  |false=>AM.fail)
 |_=>AM.fail
def strM(x:AV):AM AV:=match OS x with
 |true=>(newsM 1 x).bind λr=>AM.opt ((bytesOf r.2).map λl=>.v (.string ⟨l.toArray⟩))
 |false=>AM.fail
def JW(T:Aa):List (Nat × Operand)->List (Nat × AV)
 |[]=>[]
 |(i,x)::r=>(i,AW T x)::JW T r
def OU(T:Aa):List Operand->Aa
 |[]=>[]
 |x::r=>AW T x::OU T r
def mop(Γ:FuncId->Aa->AM AV)(o:MO)(T:Aa):AM AV:=match o with
 |.mv x=>AM.ret (AW T x)
 |.pick c a b=>(match AW T c with
  |.v (.bool t)=>(match t with
   |true=>AM.ret (AW T a)
   |false=>AM.ret (AW T b))
  |_=>AM.fail)
 |.alloc z=>(AM.newB ⟨z.map .v,U,Ξ⟩).bind λb=>AM.ret (.ptr b 0)
 |.box x=>boxA (AW T x)
 |.buildS z pl ps=>AM.opt (KI (pl[·]?) z (JW T ps))
 |.buildR z e ps=>AM.opt (KI (λi=>Δ (i*e,e)) z (JW T ps))
 |.buildSl z e n ps=>buildSlM z e n (JW T ps)
 |.ld row n a=>loadM row n (AW T a)
 |.st n a x=>storeM n (AW T a) (AW T x)
 |.nilck x=>(match AW T x with
  |.ptr b o=>AM.ret (.ptr b o)
  |.lp cs=>AM.ret (.lp cs)
  |.fn (.func f) a c=>AM.ret (.fn (.func f) a c)
  |_=>AM.fail)
 |.bin ek b x y=>AM.opt (AdG A ek b (AW T x) (AW T y))
 |.eqs neg ks x y=>AM.opt (Ald A neg ks (AW T x) (AW T y))
 |.not x=>AM.opt (Apk A (AW T x))
 |.neg x=>AM.opt (Apj A (AW T x))
 |.mkfn f a c=>AM.ret (.fn f (OU T a) (OU T c))
 |.slice e x lo hi=>AM.opt (Ou e (AW T x) (lo.map (AW T)) (hi.map (AW T)))
 |.faddr off a=>AM.opt (NY (AW T a) off)
 |.field row off n x=>AM.opt (UC row off n (AW T x))
 |.iaddr e x i=>AM.opt (NI e (AW T x) (AW T i))
 |.aaddr n e x i=>AM.opt (Qd n e (AW T x) (AW T i))
 |.index n e row sz x i=>AM.opt (NK n e row sz (AW T x) (AW T i))
 |.ext x i=>AM.opt (Jy (AW T x) i)
 |.mksl z e bytes l c=>mkslM z e bytes (AW T l) (AW T c)
 |.app e bytes s x=>appM e bytes (AW T s) (AW T x)
 |.appz z e bytes s x=>appzM z e bytes (AW T s) (AW T x)
 |.cpy e d x=>cpyM e (AW T d) (AW T x)
 |.clr z e x=>clrM z e (AW T x)
 |.len sl x=>AM.opt (AlD A sl (AW T x))
 |.sidx x i=>AM.opt (Ts A (AW T x) (AW T i))
 |.sslice x lo hi=>AM.opt (Kg A (AW T x) (lo.map (AW T)) (hi.map (AW T)))
 |.iconv k x=>AM.opt (ZJ A k (AW T x))
 |.str x=>strM (AW T x)
 |.mx x y=>AM.opt (AdA (A.max) (AW T x) (AW T y))
 |.mn x y=>AM.opt (AdA (A.min) (AW T x) (AW T y))
 |.callF f args=>Γ f (OU T args)
 |.callV ents x args=>(match AW T x with
  |.fn (.func g) a cs=>(match ents.testBit g with
   |true=>Γ g (a++OU T args++cs)
   |false=>AM.fail)
  |_=>AM.fail)
 |.bad=>AM.fail
def TK(T:Aa)(g:Option (Nat × Bool)):Option Bool:=match g with
 |none=>Δ U
 |some (d,want)=>match T[d]? with
  |some (.v (.bool b))=>(match want with
   |true=>Δ b
   |false=>Δ (A.not b))
  |some (.v (.tuple _))=>Δ Ξ
  |_=>Θ
def coreM(Γ:FuncId->Aa->AM AV)(o:MOp)(T:Aa):AM AV:=match TK A T o.g with
 |some t=>(match t with
  |true=>mop A Γ o.op T
  |false=>AM.ret AV.undef)
 |none=>AM.fail
def runM(Γ:FuncId->Aa->AM AV):List MOp->Aa->AH->Option (Aa × AH × List Foot)
 |[],T,H=>Δ (T,H,[])
 |o::r,T,H=>match coreM A Γ o T H with
  |none=>Θ
  |some (v,H1,f)=>match runM Γ r (Ck T o.dst v) H1 with
   |none=>Θ
   |some (T2,H2,fs)=>Δ (T2,H2,f::fs)
def regM(Γ:FuncId->Aa->AM AV)(ops:List MOp)(bf:Option (Ae))(T:Aa):AM (AX × Aa):=λH=>match runM A Γ ops T H with
 |none=>Θ
 |some (T',H',fs)=>match bf with
  |none=>Δ ((.normal,T'),H',⟨fs.flatMap (·.rd),fs.flatMap (·.wr)⟩)
  |some bf=>(match Et bf fs with
   |true=>Δ ((.normal,T'),H',⟨fs.flatMap (·.rd),fs.flatMap (·.wr)⟩)
   |false=>Θ)
def Cu{α:Type}:List Bool->List α->List α
 |true::l,x::r=>x::Cu l r
 |false::l,_::r=>Cu l r
 |_,_=>[]
def B1:List Bool->Nat->Aa->Aa
 |_,0,_=>[]
 |true::l,n+1,x::xs=>x::B1 l n xs
 |true::l,n+1,[]=>.any::B1 l n []
 |false::l,n+1,xs=>.any::B1 l n xs
 |[],n+1,_=>.any::B1 [] n []
def axN:AX->Nat
 |.exit i=>i+1
 |_=>0
def Ad3:List (Nat × (List Bool × (Ae × Ae)))->Nat->List Bool × (Ae × Ae)
 |[],_=>([],([],[]))
 |(k,m)::r,n=>match AtK k n with
  |true=>m
  |false=>Ad3 r n
def LpH.out(h:LpH)(x:AX):List Bool:=(Ad3 h.outs (axN x)).1
def LpH.fzo(h:LpH)(x:AX):Ae:=(Ad3 h.outs (axN x)).2.1
def LpH.dlo(h:LpH)(x:AX):Ae:=(Ad3 h.outs (axN x)).2.2
def SY(T:Aa)(t:Nat):Bool:=match T[t]? with
 |some (.v z)=>KY z
 |_=>Ξ
theorem AbA{T:Aa}{t:Nat}(h:SY T t=U):T[t]? = Δ (.v (.slice Θ 0 0)):=by
 grind [SY,Ib]
def Fi(cs:Aa)(i:Nat):Bool:=match cs[i]? with
 |some (.v z)=>KY z
 |_=>Ξ
def adoptB1(b i e:Nat):AM Unit:=(AM.getB b).bind λk=>match k.ex,Fi k.cells i with
 |false,U=>(AM.newB ⟨[],U,U⟩).bind λc=>(AM.getB b).bind λk2=>(match k2.ex,Fi k2.cells i with
  |false,U=>AM.setB b { k2 with cells:=k2.cells.set i (.sl c 0 0 e) }
  |_,_=>AM.fail)
 |_,_=>AM.ret ()
def nilB(b i:Nat):AM Unit:=(AM.getB b).bind λk=>match k.ex,Fi k.cells i with
 |false,U=>AM.setB b { k with cells:=k.cells.set i (.ls []) }
 |_,_=>AM.ret ()
def adoptB(b i e:Nat):AM Unit:=match AtK e 0 with
 |true=>nilB b i
 |false=>adoptB1 b i e
def O5(T:Aa)(t:Nat):Option (Nat × Nat):=match Atl 1000000 t with
 |true=>(match T[t % 1000000]? with
  |some (.ptr b o)=>Δ (b,o+(t / 1000000-1))
  |_=>Θ)
 |false=>Θ
def adoptM:List (Nat × Nat)->Aa->AM Aa
 |[],T=>AM.ret T
 |(t,e)::r,T=>match SY T t with
  |true=>(AM.newB ⟨[],U,U⟩).bind λb=>adoptM r (T.set t (.sl b 0 0 e))
  |false=>(match O5 T t with
   |some q=>(adoptB q.1 q.2 e).bind λ_=>adoptM r T
   |none=>adoptM r T)
def Bk:Nat->Nat->Aa->List Aa
 |0,_,_=>[]
 |n+1,e,l=>l.take e::Bk n e (l.drop e)
def Abz(z:Value):AV:=match KY z with
 |true=>.ls []
 |false=>.v z
def frz0(x:AV):AM AV:=match x with
 |.v z=>AM.ret (Abz z)
 |.sl ..=>AM.fail
 |.agg _=>AM.fail
 |.tup _=>AM.fail
 |x=>AM.ret x
mutual
def frz:Nat->AV->AM AV
 |0,x=>frz0 x
 |n+1,x=>match x with
  |.v z=>AM.ret (Abz z)
  |.sl b o m e=>(AM.getB b).bind λk=>match Atl (o+m*e) k.cells.length with
   |false=>AM.fail
   |true=>(match k.st with
    |true=>AM.setB b { k with st:=Ξ }
    |false=>AM.ret ()).bind λ_=>match (k.ex||AU ((k.cells.drop o).take (m*e))) with
     |true=>AM.ret (.ls (Bk m e ((k.cells.drop o).take (m*e))))
     |false=>(frzL n ((k.cells.drop o).take (m*e))).bind λcs=>match AU cs with
      |true=>AM.ret (.ls (Bk m e cs))
      |false=>AM.fail
  |.agg cs=>(frzL n cs).bind λcs=>AM.ret (.agg cs)
  |.tup cs=>(frzL n cs).bind λcs=>AM.ret (.tup cs)
  |x=>AM.ret x
def frzL:Nat->Aa->AM Aa
 |_,[]=>AM.ret []
 |0,_::_=>AM.fail
 |n+1,x::r=>(frz n x).bind λx=>(frzL n r).bind λr=>AM.ret (x::r)
end
def frzB(b:Nat):AM Unit:=(AM.getB b).bind λk=>match k.ex,k.st with
 |false,U=>(frzL 1000 k.cells).bind λcs=>(AM.getB b).bind λk2=>(match k2.ex,AtK cs.length k2.cells.length with
  |false,U=>AM.setB b { k2 with cells:=cs }
  |_,_=>AM.fail)
 |_,_=>AM.ret ()
def frzT:Ae->Aa->AM Aa
 |[],T=>AM.ret T
 |t::r,T=>match T[t]? with
  |some (.ptr b _)=>(frzB b).bind λ_=>frzT r T
  |some x=>(frz 1000 x).bind λy=>frzT r (T.set t y)
  |none=>frzT r T
def evC(Γ:FuncId->Aa->AM AV)(Λ:Nat->Aa->AM (AX × Aa)):MC->Aa->AM (AX × Aa)
 |.skip,T=>AM.ret (.normal,T)
 |.reg ops bf,T=>regM A Γ ops bf T
 |.seq a b,T=>(evC Γ Λ a T).bind λr=>match r.1 with
  |.normal=>evC Γ Λ b r.2
  |ax=>AM.ret (ax,r.2)
 |.cond c a b,T=>(match AW T c with
  |.v (.bool t)=>(match t with
   |true=>evC Γ Λ a T
   |false=>evC Γ Λ b T)
  |_=>AM.fail)
 |.block id c,T=>(evC Γ Λ c T).bind λr=>match r.1 with
  |.exit i=>if i=id then AM.ret (.normal,r.2) else AM.ret (.exit i,r.2)
  |ax=>AM.ret (ax,r.2)
 |.loop i h,T=>(adoptM h.ad T).bind λT=>(frzT h.fz T).bind λT=>match AtK T.length h.n with
  |true=>(Λ i (Cu h.live T)).bind λr=>AM.ret (r.1,B1 (h.out r.1) h.n r.2)
  |false=>AM.fail
 |.exit id,T=>AM.ret (.exit id,T)
 |.ret,T=>AM.ret (.ret,T)
 |.bad,_=>AM.fail
end
mutual
def AV.ids:AV->Ae
 |.v _=>[]
 |.ptr b _=>[b]
 |.sl b _ _ _=>[b]
 |.ls _=>[]
 |.lp _=>[]
 |.agg cs=>Ek cs
 |.tup cs=>Ek cs
 |.fn _ a c=>Ek a++Ek c
 |.any=>[]
def Ek:Aa->Ae
 |[]=>[]
 |x::r=>x.ids++Ek r
end
mutual
def AV.ren(τ:Nat->Nat):AV->AV
 |.v x=>.v x
 |.ptr b o=>.ptr (τ b) o
 |.sl b o n e=>.sl (τ b) o n e
 |.ls xs=>.ls xs
 |.lp cs=>.lp cs
 |.agg cs=>.agg (GX τ cs)
 |.tup cs=>.tup (GX τ cs)
 |.fn f a c=>.fn f (GX τ a) (GX τ c)
 |.any=>.any
def GX(τ:Nat->Nat):Aa->Aa
 |[]=>[]
 |x::r=>x.ren τ::GX τ r
end
def ABlk.ren(τ:Nat->Nat)(k:ABlk):ABlk:=match k.ex with
 |true=>k
 |false=>{ k with cells:=GX τ k.cells }
def ABlk.ids(k:ABlk):Ae:=match k.ex with
 |true=>[]
 |false=>Ek k.cells
inductive BO where
 |keep
 |del
 |set (k:ABlk)
def BO.ids:BO->Ae
 |.set k=>k.ids
 |_=>[]
def BO.ren(τ:Nat->Nat):BO->BO
 |.keep=>.keep
 |.del=>.del
 |.set k=>.set (k.ren τ)
abbrev DF:=Aa->List ABlk->Option (AV × List BO)
inductive Key where
 |fn (f:Nat)
 |lp (f i:Nat)
inductive Orc where
 |mk (f:Key->Aa->List ABlk->Option (AV × List BO))
 |no
def Orc.ask(D:Orc)(k:Key)(args:Aa)(bs:List ABlk):Option (AV × List BO):=match D with
 |.mk f=>f k args bs
 |.no=>Θ
def E6(b:Nat):Ae->Bool
 |[]=>Ξ
 |c::r=>match AtK b c with
  |true=>U
  |false=>E6 b r
def idx(b:Nat):Ae->Nat
 |[]=>0
 |c::r=>match AtK b c with
  |true=>0
  |false=>idx b r+1
def trav:Nat->Ae->Ae->AM (Ae)
 |_,[],acc=>AM.ret acc
 |0,_::_,_=>AM.fail
 |n+1,b::r,acc=>match E6 b acc with
  |true=>trav n r acc
  |false=>(AM.getB b).bind λk=>trav n (r++k.ids) (acc++[b])
def readAll:Ae->AM (List ABlk)
 |[]=>AM.ret []
 |b::r=>(AM.getB b).bind λk=>(readAll r).bind λl=>AM.ret (k::l)
def nextB:AM Nat:=λH=>Δ (H.next,H,⟨[],[]⟩)
def writeAll(σ:Nat->Nat):Ae->List BO->AM (List BO)
 |[],out=>AM.ret out
 |_::_,[]=>AM.fail
 |b::r,o::out=>(match o with
  |.keep=>AM.ret ()
  |.del=>AM.delB b
  |.set k=>AM.setB b (k.ren σ)).bind λ_=>writeAll σ r out
def newAll(σ:Nat->Nat):List BO->AM Unit
 |[]=>AM.ret ()
 |.set k::out=>(AM.newB (k.ren σ)).bind λ_=>newAll σ out
 |_::_=>AM.fail
def XW:Ae->Nat->Option Nat
 |[],_=>Θ
 |x::_,0=>Δ x
 |_::r,n+1=>XW r n
def GL(L:Ae)(n c:Nat):Nat:=match XW L c with
 |some b=>b
 |none=>n+(c-L.length)
def OM(n:Nat):Ae->Bool
 |[]=>U
 |c::r=>match Aup c n with
  |true=>OM n r
  |false=>Ξ
def RJ(n:Nat):List BO->Bool
 |[]=>U
 |o::r=>match OM n o.ids with
  |true=>RJ n r
  |false=>Ξ
def callD(D:DF)(args:Aa):AM AV:=
 (trav 4096 (Ek args) []).bind λL=>(readAll L).bind λbs=>
  (AM.opt (D (GX (λb=>idx b L) args) (bs.map (ABlk.ren λb=>idx b L)))).bind λr=>
   match OM r.2.length r.1.ids,RJ r.2.length r.2 with
   |true,U=>nextB.bind λn=>(writeAll (GL L n) L r.2).bind λout=>(newAll (GL L n) out).bind λ_=>AM.ret (r.1.ren (GL L n))
   |_,_=>AM.fail
def C6:Nat->List ABlk->List (Nat × ABlk)
 |_,[]=>[]
 |n,k::r=>(n,k)::C6 (n+1) r
def U3(H:AH)(wr:Ae)(b:Nat):BO:=match E6 b wr with
 |false=>.keep
 |true=>(match H.get b with
  |some k=>.set k
  |none=>.del)
def AhM(H:AH)(b:Nat):BO:=match H.get b with
 |some k=>.set k
 |none=>.del
def DV:Nat->Nat->Ae
 |_,0=>[]
 |a,n+1=>a::DV (a+1) n
def Eu(m:Aa->AM AV):DF:=λargs bs=>match m args ⟨C6 0 bs,bs.length,Θ⟩ with
 |some (r,H',ft)=>Δ (r,(DV 0 bs.length).map (U3 H' ft.wr)++(DV bs.length (H'.next-bs.length)).map (AhM H'))
 |none=>Θ
def U1:List BO->Nat->Option BO
 |[],_=>Θ
 |x::_,0=>Δ x
 |_::r,n+1=>U1 r n
def Fx(k:Nat)(out:List BO):Nat->Ae->Ae->Option (Ae)
 |_,[],acc=>Δ acc
 |0,_::_,_=>Θ
 |n+1,b::r,acc=>match Aup b k with
  |true=>Fx k out n r acc
  |false=>match E6 b acc with
   |true=>Fx k out n r acc
   |false=>match U1 out b with
    |some (.set kb)=>Fx k out n (r++kb.ids) (acc++[b])
    |_=>Θ
def Xx(k:Nat)(acc:Ae)(b:Nat):Nat:=match Aup b k with
 |true=>b
 |false=>k+idx b acc
def IG:List BO->Nat->List BO
 |[],_=>[]
 |_::_,0=>[]
 |x::r,n+1=>x::IG r n
def UN:List BO->Ae
 |[]=>[]
 |o::r=>o.ids++UN r
def S4(τ:Nat->Nat)(out:List BO):Ae->List BO
 |[]=>[]
 |b::r=>(match U1 out b with
  |some o=>o.ren τ
  |none=>.del)::S4 τ out r
def AbT(τ:Nat->Nat):List BO->List BO
 |[]=>[]
 |o::r=>o.ren τ::AbT τ r
def Nn(D:DF):DF:=λargs bs=>match D args bs with
 |none=>Θ
 |some (r,out)=>match Fx bs.length out 4096 (r.ids++UN (IG out bs.length)) []with
  |none=>Θ
  |some acc=>Δ (r.ren (Xx bs.length acc),AbT (Xx bs.length acc) (IG out bs.length)++S4 (Xx bs.length acc) out acc)
def AbJ(own:List (Nat × Nat))(f i:Nat):Bool:=match own with
 |[]=>Ξ
 |(g,j)::r=>match AtK f g,AtK i j with
  |true,U=>U
  |_,_=>AbJ r f i
def frzA(own:List (Nat × Nat))(f:Nat):Nat->Aa->AM Aa
 |_,[]=>AM.ret []
 |i,x::r=>match AbJ own f i with
  |true=>(frzA own f (i+1) r).bind λr=>AM.ret (x::r)
  |false=>(frz 1000 x).bind λx=>(frzA own f (i+1) r).bind λr=>AM.ret (x::r)
def touchS(x:AV):AM AV:=match x with
 |.sl b o n e=>(AM.getB b).bind λk=>match k.ex with
  |true=>(AM.delB b).bind λ_=>(AM.newB k).bind λc=>AM.ret (.sl c o n e)
  |false=>AM.ret (.sl b o n e)
 |x=>AM.ret x
def touchL:Aa->AM Aa
 |[]=>AM.ret []
 |x::r=>(touchS x).bind λx=>(touchL r).bind λr=>AM.ret (x::r)
def touchB(b:Nat):AM Unit:=(AM.getB b).bind λk=>match k.ex,k.st with
 |false,U=>(touchL k.cells).bind λcs=>(AM.getB b).bind λk2=>(match k2.ex,AtK cs.length k2.cells.length with
  |false,U=>AM.setB b { k2 with cells:=cs }
  |_,_=>AM.fail)
 |true,U=>AM.setB b k
 |_,_=>AM.ret ()
def touchI:Ae->AM Unit
 |[]=>AM.ret ()
 |b::r=>(touchB b).bind λ_=>touchI r
def touchV(x:AV):AM AV:=match x with
 |.sl b o n e=>touchS (.sl b o n e)
 |.agg cs=>(touchL cs).bind λcs=>(touchI (Ek cs)).bind λ_=>AM.ret (.agg cs)
 |x=>(touchI x.ids).bind λ_=>AM.ret x
def touchA:List Bool->Aa->AM Aa
 |_,[]=>AM.ret []
 |true::m,x::r=>(touchI x.ids).bind λ_=>(touchA m r).bind λr=>AM.ret (x::r)
 |false::m,x::r=>(touchV x).bind λx=>(touchA m r).bind λr=>AM.ret (x::r)
 |[],x::r=>(touchV x).bind λx=>(touchA [] r).bind λr=>AM.ret (x::r)
def LpH.nt(h:LpH)(x:AX):List Bool:=Cu (h.out x) ((DV 0 h.n).map λt=>E6 (1000000+t) (h.dlo x))
def delC(b i:Nat):AM Unit:=(AM.getB b).bind λk=>match k.cells[i]? with
 |some (.sl c _ _ _)=>AM.delB c
 |_=>AM.ret ()
def delT:Ae->Aa->AM Unit
 |[],_=>AM.ret ()
 |t::r,T=>match T[t]? with
  |some (.sl b _ _ _)=>(AM.delB b).bind λ_=>delT r T
  |some (.ptr b _)=>(AM.delB b).bind λ_=>delT r T
  |_=>(match O5 T t with
   |some q=>(delC q.1 q.2).bind λ_=>delT r T
   |none=>delT r T)
inductive MRes where
 |tmp (t:Nat)
 |cell (t:Nat) (row:Bool) (n:Nat)
structure MFn where
 nt:Nat
 res:List MRes
 body:MC
 loops:List (LpH × MC)
 own:Bool
 tch:Bool
def resM(T:Aa):List MRes->AM Aa
 |[]=>AM.ret []
 |.tmp t::r=>(resM T r).bind λl=>AM.ret ((T[t]?).getD AV.undef::l)
 |.cell x row n::r=>(loadM row n ((T[x]?).getD AV.undef)).bind λv=>(resM T r).bind λl=>AM.ret (v::l)
def Zr:AX->AV
 |.normal=>.v (.bool Ξ)
 |.ret=>.v (.bool U)
 |.exit i=>.v (.int .i64 (AuW i))
 |.goto _=>.any
def T5:AV->Option AX
 |.v (.bool U)=>Δ .ret
 |.v (.bool Ξ)=>Δ .normal
 |.v (.int .i64 (.ofNat i))=>Δ (.exit i)
 |_=>Θ
section
variable (A:Ar) (D:Orc) (own:List (Nat × Nat))
def callsM(f:FuncId)(args:Aa):AM AV:=(frzA own f 0 args).bind λl=>callD (D.ask (.fn f)) l
def loopsM(f i:Nat)(xs:Aa):AM (AX × Aa):=(callD (D.ask (.lp f i)) xs).bind λr=>match r with
 |.tup (x::ys)=>(match T5 x with
  |some ax=>AM.ret (ax,ys)
  |none=>AM.fail)
 |_=>AM.fail
def fnM(f:Nat)(mf:MFn)(args:Aa):AM AV:=(evC A (callsM D own) (loopsM D f) mf.body (Qv mf.nt args)).bind λr=>match r.1 with
 |.exit _=>AM.fail
 |.goto _=>AM.fail
 |_=>(resM r.2 mf.res).bind λl=>(match mf.own with
  |true=>AM.ret (Iw l)
  |false=>frz 1000 (Iw l)).bind λv=>match mf.tch with
   |true=>(touchI (Ek args)).bind λ_=>AM.ret v
   |false=>AM.ret v
def lpM(f i:Nat)(h:LpH)(c:MC)(xs:Aa):AM AV:=(evC A (callsM D own) (loopsM D f) c (B1 h.live h.n xs)).bind λr=>match r.1 with
 |.normal=>(frzT h.fz r.2).bind λT=>(loopsM D f i (Cu h.live T)).bind λq=>AM.ret (.tup (Zr q.1::q.2))
 |.goto _=>AM.fail
 |ax=>(frzT (h.fzo ax) r.2).bind λT=>(delT (h.dlo ax) T).bind λ_=>(touchA (h.nt ax) (Cu (h.out ax) T)).bind λys=>AM.ret (.tup (Zr ax::ys))
end
section
variable (P:Program)
def QQ(t:TypeId):Option Nat:=match P.underlying t with
 |some .bool=>Δ 1
 |some (.int _)=>Δ 0
 |some .string=>Δ 2
 |_=>Θ
def Pk:List Field->Nat->Option (Ae)
 |[],_=>Δ []
 |f::r,n=>if(f.offset == n&&f.name != "_"&&(Cb P f.type == Δ Ξ))=U then(match QQ P f.type,Pk r (n+1) with
  |some k,Δ ks=>Δ (k::ks)
  |_,_=>Θ) else Θ
def eqS(t:TypeId):Option (Ae):=match P.underlying t with
 |some (.struct fs)=>if(!P.stoodInHeld t&&!P.eqGuardType P.depth t)=U then Pk P fs.toList 0 else Θ
 |_=>Θ
def FM(t:TypeId):Nat:=match P.underlying t with
 |some (.pointer _)=>1
 |some (.slice _)=>2
 |some (.func ..)=>3
 |some .bool=>4
 |some (.int _)=>0
 |some .string=>0
 |_=>9
def LJ(t:TypeId):Option (Nat × AA × Nat):=match Cf P t with
 |some et=>(match P.info? et,CJ P et with
  |some i,Δ z=>if z.cells.size=i.size/\0<i.size then Δ (i.size,z.cells.toList,i.bytes) else Θ
  |_,_=>Θ)
 |none=>Θ
def Ud(ents:Nat)(o:Op):MO:=match o with
 |.move x=>.mv x
 |.assign x=>.mv x
 |.pick c a b=>.pick c a b
 |.alloc t=>(match CJ P t with
  |some z=>.alloc z.cells.toList
  |none=>.bad)
 |.box _ x=>.box x
 |.build t ps=>(match CJ P t,CB P t with
  |some z,Δ fs=>(match Ih P fs.toList with
   |some pl=>.buildS z.cells.toList pl ps.toList
   |none=>.bad)
  |some z,Θ=>(match MY P t with
   |some et=>(match Dq P et with
    |some e=>.buildR z.cells.toList e ps.toList
    |none=>.bad)
   |none=>.bad)
  |_,_=>.bad)
 |.buildSlice t n ps=>(match Cf P t with
  |some et=>(match Dq P et,CJ P et with
   |some e,Δ z=>.buildSl z.cells.toList e n ps.toList
   |_,_=>.bad)
  |none=>.bad)
 |.load t a=>(match Cb P t,Dq P t with
  |some U,Δ n=>.ld U n a
  |some Ξ,_=>.ld Ξ 0 a
  |_,_=>.bad)
 |.store t a x=>(match Dq P t with
  |some n=>.st n a x
  |none=>.bad)
 |.nilCheck x=>.nilck x
 |.binOp b t x y _=>(match eqS P t with
  |some ks=>(match b with
   |.eql=>.eqs Ξ ks x y
   |.neq=>.eqs U ks x y
   |_=>.bad)
  |none=>(match FM P t with
   |9=>.bad
   |k=>.bin k b x y))
 |.unOp .not _ x=>.not x
 |.unOp .neg _ x=>.neg x
 |.makeFunc f a c=>.mkfn f a.toList c.toList
 |.slice t x lo hi Θ=>(match Cf P t with
  |some et=>(match Dq P et with
   |some e=>.slice e x lo hi
   |none=>.bad)
  |none=>if BU P t then .sslice x lo hi else .bad)
 |.fieldAddr t a f=>(match CB P t with
  |some fs=>(match fs[f]? with
   |some fd=>(match Dq P fd.type with
    |some (_+1)=>.faddr fd.offset a
    |_=>.bad)
   |none=>.bad)
  |none=>.bad)
 |.field t x f=>(match CB P t with
  |some fs=>(match fs[f]? with
   |some fd=>(match Cb P fd.type,Dq P fd.type with
    |some U,Δ n=>.field U fd.offset n x
    |some Ξ,_=>.field Ξ fd.offset 0 x
    |_,_=>.bad)
   |none=>.bad)
  |none=>.bad)
 |.indexAddr t x i=>(match Cf P t,OL P t with
  |some et,_=>(match Dq P et with
   |some e=>.iaddr e x i
   |none=>.bad)
  |none,Δ (n,et)=>(match Dq P et with
   |some e=>.aaddr n e x i
   |none=>.bad)
  |_,_=>.bad)
 |.index t x i=>(match OL P t with
  |some (n,et)=>(match Dq P et,Cb P et with
   |some e,Δ U=>.index n e U e x i
   |some e,Δ Ξ=>.index n e Ξ 0 x i
   |_,_=>.bad)
  |none=>if BU P t then .sidx x i else .bad)
 |.convert s d x=>(match P.underlying s,P.underlying d with
  |some (.int _),Δ (.int k)=>.iconv k x
  |_,_=>(match Du P s,BU P d with
   |true,U=>.str x
   |_,_=>.bad))
 |.extract x i=>.ext x i
 |.makeSlice t l c=>(match LJ P t with
  |some (e,z,by')=>.mksl z e by' l c
  |none=>.bad)
 |.call c=>(match c.callee with
  |.builtin .append=>(match c.args.toList,c.argTypes.toList with
   |[s,x],[t,u]=>(match LJ P t,CT P u with
    |some (e,_,by'),U=>.app e by' s x
    |some (e,z,by'),Ξ=>(match KX P u with
     |true=>.appz z e by' s x
     |false=>.bad)
    |_,_=>.bad)
   |_,_=>.bad)
  |.builtin .copy=>(match c.args.toList,c.argTypes.toList with
   |[d,x],[t,u]=>(match Cf P t,CT P u with
    |some et,U=>(match Dq P et with
     |some e=>.cpy e d x
     |none=>.bad)
    |_,_=>.bad)
   |_,_=>.bad)
  |.builtin .clear=>(match c.args.toList,c.argTypes.toList with
   |[x],[t]=>(match Cf P t with
    |some et=>(match Dq P et,CJ P et with
     |some e,Δ z=>if z.cells.size=e/\0<e/\(z.cells.toList.map AV.v).all AV.one=U then .clr z.cells.toList e x else .bad
     |_,_=>.bad)
    |none=>.bad)
   |_,_=>.bad)
  |.builtin .len=>(match c.args.toList,c.argTypes.toList with
   |[x],[t]=>if CT P t then .len U x else if BU P t then .len Ξ x else .bad
   |_,_=>.bad)
  |.builtin .max=>(match c.args.toList with
   |[x,y]=>.mx x y
   |_=>.bad)
  |.builtin .min=>(match c.args.toList with
   |[x,y]=>.mn x y
   |_=>.bad)
  |.builtin _=>.bad
  |.value f=>(match f with
   |.func g=>if FI P g then .callF g c.args.toList else .bad
   |_=>.callV ents f c.args.toList)
  |.invoke ..=>.bad)
 |_=>.bad
def ZI(ops:Array Oper)(g:Option (Nat × Bool)):Option (Option (Nat × Bool)):=match g with
 |none=>Δ Θ
 |some (j,want)=>match (ops[j]?).bind (·.dst) with
  |some d=>Δ (Δ (d,want))
  |none=>Θ
def Iz(ents:Nat)(ops:Array Oper)(o:Oper):MOp:=match ZI ops o.guard with
 |some g=>⟨o.dst,Ud P ents o.op,g⟩
 |none=>⟨o.dst,.bad,Θ⟩
abbrev Jm:=List LpH
def BC(ents:Nat)(hs:Jm):Code->Nat->MC × List (LpH × MC)
 |.skip,_=>(.skip,[])
 |.region _ ops d,_=>(.reg (ops.toList.map (Iz P ents ops)) (if d then Δ (RE ops) else Θ),[])
 |.seq a b,n=>match BC ents hs a n with
  |(ma,la)=>match BC ents hs b (n+la.length) with
   |(mb,lb)=>(.seq ma mb,la++lb)
 |.cond c a b,n=>match BC ents hs a n with
  |(ma,la)=>match BC ents hs b (n+la.length) with
   |(mb,lb)=>(.cond c ma mb,la++lb)
 |.block id c,n=>match BC ents hs c n with
  |(mc,lc)=>(.block id mc,lc)
 |.loop c,n=>match BC ents hs c (n+1),hs[n]? with
  |(mc,lc),Δ h=>(.loop n h,(h,mc)::lc)
  |(mc,lc),Θ=>(.bad,(⟨0,[],[],[],[]⟩,mc)::lc)
 |.exit id,_=>(.exit id,[])
 |.ret,_=>(.ret,[])
 |_,_=>(.bad,[])
def IA(rs:List ResultVar):List MRes:=rs.map λr=>match r with
 |.tmp t=>.tmp t
 |.cell t ty=>match Cb P ty,Dq P ty with
  |some U,Δ n=>.cell t U n
  |some Ξ,_=>.cell t Ξ 0
  |_,_=>.tmp 1000000
end
section
variable {P:Program}
@[simp] theorem Cl{α:Type}(a:α):Ay P (pure a:Sem α)=Δ a:=rfl
@[simp] theorem Adt{α:Type}(a:α):Ay P (Sem.pure a:Sem α)=Δ a:=rfl
theorem IE{α β:Type}(k:α->Sem β):∀(s:Sem α),Ay P (s.bind k)=(Ay P s).bind λa=>Ay P (k a)
 |.pure a=>rfl
 |.program f=>by simp only[Sem.bind,Ay];exact IE k (f P)
 |.load ..=>rfl
 |.store ..=>rfl
 |.new ..=>rfl
 |.shape ..=>rfl
 |.freeze ..=>rfl
 |.frozen ..=>rfl
 |.getObj ..=>rfl
 |.setObj ..=>rfl
 |.choose ..=>rfl
 |.sys ..=>rfl
 |.mark ..=>rfl
 |.halt ..=>rfl
@[simp] theorem Aw{α β:Type}(s:Sem α)(k:α->Sem β):Ay P (s >>= k)=(Ay P s).bind λa=>Ay P (k a):=IE k s
@[simp] theorem Mp:Ay P program=Δ P:=rfl
theorem AS{t:TypeId}{d:TypeDesc}(h:P.underlying t=Δ d):Ay P (underlying t)=Δ d:=by
 unfold underlying;simp[h]
theorem NQ{t:TypeId}(h:FM P t=1):∃ e,P.underlying t=Δ (.pointer e):=by
 grind [FM]
theorem Wd{t:TypeId}(h:FM P t=2):∃ e,P.underlying t=Δ (.slice e):=by
 grind [FM]
theorem Wc{t:TypeId}(h:FM P t=3):∃ a b c,P.underlying t=Δ (.func a b c):=by
 grind [FM]
theorem XJ{t:TypeId}(h:FM P t=4):P.underlying t=Δ .bool:=by
 grind [FM]
theorem Pq{o:Oper}{b:BinOp}{t yt:TypeId}{x y:Operand}(ho:o.op=.binOp b t x y yt){ρ:Operand->AV}{u v z:Value}(hx:(ρ x).toVal=Δ u)(hy:(ρ y).toVal=Δ v)
  (h:Ay P (do eqGuard b t x y u v;binOp b t u v)=Δ z):CC P o ρ=Δ (En z):=by
 have e1:BV ρ x=u:=by unfold BV;rw[hx];rfl
 have e2:BV ρ y=v:=by unfold BV;rw[hy];rfl
 have c:(B6 o.op&&o.op.operands.toList.all λx=>(ρ x).toVal.isSome)=U:=by
  grind [Op.operands,B6]
 unfold CC;rw[Ac c];have:Ay P (execOp (BV ρ) o)=Δ (.value z):=by
  unfold execOp;rw[ho];simp only[e1,e2];rw[Aw,h];rfl
 rw[this];rfl
theorem Np{o:Oper}{b:BinOp}{t yt:TypeId}{x y:Operand}(ho:o.op=.binOp b t x y yt){ρ:Operand->AV}{u v z:Value}(hx:ρ x=.v u)(hy:ρ y=.v v)
  (h:Ay P (do eqGuard b t x y u v;binOp b t u v)=Δ z):CC P o ρ=Δ (En z):=Pq ho (by rw[hx];rfl) (by rw[hy];rfl) h
theorem AaF{o:Oper}{t:TypeId}{x:Operand}(ho:o.op=.unOp .not t x){ρ:Operand->AV}{c:Bool}(hx:ρ x=.v (.bool c)):CC P o ρ=Δ (.v (.bool !c)):=by
 have e1:BV ρ x=.bool c:=by unfold BV;rw[hx];rfl
 have cc:(B6 o.op&&o.op.operands.toList.all λx=>(ρ x).toVal.isSome)=U:=by
  grind [AV.toVal,Op.operands,B6]
 unfold CC;rw[Ac cc];have:Ay P (execOp (BV ρ) o)=Δ (.value (.bool !c)):=by
  unfold execOp;rw[ho];simp only[e1];rw[Aw];rfl
 rw[this];rfl
theorem AaE{o:Oper}{t:TypeId}{x:Operand}(ho:o.op=.unOp .neg t x){ρ:Operand->AV}{k:IntKind}{n:Int}(hx:ρ x=.v (.int k n)):CC P o ρ=Δ (.v (.int k (Ah.sub k 0 n))):=by
 have e1:BV ρ x=.int k n:=by unfold BV;rw[hx];rfl
 have cc:(B6 o.op&&o.op.operands.toList.all λx=>(ρ x).toVal.isSome)=U:=by
  grind [AV.toVal,Op.operands,B6]
 unfold CC;rw[Ac cc];have:Ay P (execOp (BV ρ) o)=Δ (.value (.int k (Ah.sub k 0 n))):=by
  unfold execOp;rw[ho];simp only[e1];rw[Aw];rfl
 rw[this];rfl
theorem XC{b:BinOp}{t:TypeId}{x y:Operand}{k k':IntKind}{a c:Int}:Ay P (eqGuard b t x y (.int k a) (.int k' c))=Δ ():=by
 simp_all [eqGuard]
theorem XD{b:BinOp}{t:TypeId}{x y:Operand}{a c:ByteArray}:Ay P (eqGuard b t x y (.string a) (.string c))=Δ ():=by
 simp_all [eqGuard]
theorem AdB{o:Oper}{b:BinOp}{t yt:TypeId}{x y:Operand}(ho:o.op=.binOp b t x y yt){ρ:Operand->AV}{k k':IntKind}{a c:Int}(hx:ρ x=.v (.int k a))(hy:ρ y=.v (.int k' c)){z:Value}(hz:Ay P (binOp b t (.int k a) (.int k' c))=Δ z):CC P o ρ=Δ (En z):=
 Np ho hx hy (by rw[Aw,XC];exact hz)
theorem Xb{o:Oper}{b:BinOp}{t yt:TypeId}{x y:Operand}(ho:o.op=.binOp b t x y yt){ρ:Operand->AV}{r:AV}(h:Jp Ah b (ρ x) (ρ y)=Δ r):CC P o ρ=Δ r/\Fj P t (ρ x) (ρ y)=Ξ:=by
 unfold Jp at h;split at h
 .rename_i k a k' c hx hy
  refine⟨?_,by rw[hx,hy];rfl⟩;have key:∀ z,Ay P (binOp b t (.int k a) (.int k' c))=Δ z->CC P o ρ=Δ (En z):=λz hz=>AdB ho hx hy hz
  have shf:∀{op:BinOp} {v:Value},¬ c<0->(∀ n,n=At8 c.toNat k.bits->Ay P (match op with
    |.shl=>(pure (.int k (k.wrap (a*2 ^ n))):Sem Value)
    |.shr=>pure (.int k (a.fdiv (2 ^ n)))
    |_=>stuck "shift: << >> expected")=Δ v)->Ay P (Op.shift op k a k' c)=Δ v:=λ{op v} hc hv=>by
   unfold Op.shift;rw[Ad hc];exact hv _ rfl
  have div:∀{op:BinOp} {v:Value},¬ c=0->Ay P (match op with
    |.quo=>(pure (.int k (k.wrap (a.tdiv c))):Sem Value)
    |.rem=>pure (.int k (a.tmod c))
    |_=>stuck "intDiv: / % expected")=Δ v->Ay P (Op.intDiv op k a c)=Δ v:=λ{op v} hc hv=>by
   grind [Op.intDiv]
  cases b with
  |shl=>
   simp only at h
   cases e:Ah.lt c 0 with
   |true=>rw[e]at h;cases h
   |false=>
    rw[e]at h;simp only[θ]at h;subst h;have hc:¬ c<0:=of_decide_eq_false e;exact key (.int k (Ah.shl k a c)) (by
     show Ay P (Op.shift .shl k a k' c)=_
     exact shf hc λn hn=>by rw[hn];rfl)
  |shr=>
   simp only at h
   cases e:Ah.lt c 0 with
   |true=>rw[e]at h;cases h
   |false=>
    rw[e]at h;simp only[θ]at h;subst h;have hc:¬ c<0:=of_decide_eq_false e;exact key (.int k (Ah.shr k a c)) (by
     show Ay P (Op.shift .shr k a k' c)=_
     exact shf hc λn hn=>by rw[hn];rfl)
  |_=>
   simp only at h;split at h
   .rename_i hk
    subst hk
    try simp only[θ,reduceCtorEq]at h
    first
     | (subst h
        first
         |exact key (.int k (k.wrap (a+c))) (by simp[binOp,Op.intArith])
         |exact key (.int k (k.wrap (a-c))) (by simp[binOp,Op.intArith])
         |exact key (.int k (k.wrap (a*c))) (by simp[binOp,Op.intArith])
         |exact key (.int k (Ah.bits .and k a c)) (by simp[binOp,Op.intBits,Ah,GA,Ar.bits,RH])
         |exact key (.int k (Ah.bits .or k a c)) (by simp[binOp,Op.intBits,Ah,GA,Ar.bits,RH])
         |exact key (.int k (Ah.bits .xor k a c)) (by simp[binOp,Op.intBits,Ah,GA,Ar.bits,RH])
         |exact key (.int k (Ah.bits .andNot k a c)) (by simp[binOp,Op.intBits,Ah,GA,Ar.bits,RH])
         |exact key (.bool (a == c)) (by simp[binOp,Op.intCmp])
         |exact key (.bool (a != c)) (by simp[binOp,Op.intCmp])
         |exact key (.bool (decide (a<c))) (by simp[binOp,Op.intCmp])
         |exact key (.bool (decide (a<=c))) (by simp[binOp,Op.intCmp])
         |exact key (.bool (decide (c<a))) (by simp[binOp,Op.intCmp])
         |exact key (.bool (decide (c<=a))) (by simp[binOp,Op.intCmp]))
     | (cases e:Ah.eq c 0 with
        |true=>rw[e]at h;cases h
        |false=>
         rw[e]at h;simp only[θ]at h;subst h;have hc:¬ c=0:=λe0=>by subst e0;exact absurd e (by simp[Ah,GA,Ar.eq])
         first
          |exact key (.int k (Ah.quo k a c)) (by
            have:binOp .quo t (.int k a) (.int k c)=Op.intDiv .quo k a c:=by simp[binOp]
            rw[this];exact div hc rfl)
          |exact key (.int k (Ah.rem k a c)) (by
            have:binOp .rem t (.int k a) (.int k c)=Op.intDiv .rem k a c:=by simp[binOp]
            rw[this];exact div hc rfl))
   .cases h
 .rename_i a c hx hy
  refine⟨?_,by rw[hx,hy];rfl⟩;have key:∀ z,Ay P (binOp b t (.string a) (.string c))=Δ z->CC P o ρ=Δ (En z):=λz hz=>Np ho hx hy (by rw[Aw,XD];exact hz)
  cases b with
  |add=>
   simp only at h
   cases e:Atl (Ah.slen a+Ah.slen c) 9223372036854775807 with
   |false=>rw[e]at h;cases h
   |true=>
    rw[e]at h;simp only[θ]at h;subst h;have e1:a.size+c.size<=9223372036854775807:=Nat.le_of_ble_eq_true e;refine key (.string (a++c)) ?_;simp only[binOp,Op.stringOp];rw[Ad (by
     have:IntKind.i64.max=9223372036854775807:=by decide
     rw[this];omega)]
    rfl
  |eql=>simp only[θ]at h;subst h;exact key (.bool (a.toList == c.toList)) (by simp[binOp,Op.stringOp])
  |neq=>simp only[θ]at h;subst h;exact key (.bool !(a.toList == c.toList)) (by simp[binOp,Op.stringOp])
  |lss=>simp only[θ]at h;subst h;exact key (.bool (Op.bytesLess a.toList c.toList)) (by simp[binOp,Op.stringOp])
  |geq=>simp only[θ]at h;subst h;exact key (.bool !(Op.bytesLess a.toList c.toList)) (by simp[binOp,Op.stringOp])
  |_=>cases h
 .cases h
def Xa(P:Program)(o:Oper)(b:BinOp)(t:TypeId)(x y:Operand)(ρ:Operand->AV):AM AV:=if Fj P t (ρ x) (ρ y)=U then(match b with
   |.eql=>AM.ret (.v (.bool Ξ))
   |.neq=>AM.ret (.v (.bool U))
   |_=>AM.fail) else AM.opt (CC P o ρ)
theorem AdO{t:TypeId}{x y:Operand}{u v:Value}(hu:∀ us vs,¬ (u=.agg us/\v=.agg vs))(hn:u≠.nilIface){b:BinOp}:Ay P (eqGuard b t x y u v)=Δ ():=by
 have key:Ay P (match u,v with
  |.nilIface,.nilIface=>do
   if(x matches .const _)||(y matches .const _) then return
   if ←Op.eqGuardIn Op.maxDepth t u v then unsupported (.noEntry "binop/eql: two nil values of an interface type with methods, neither of them the literal nil")
  |.agg _,.agg _=>do
   if !(←program).eqGuardType (←program).depth t then return
   if ←Op.eqGuardIn Op.maxDepth t u v then unsupported (.noEntry "binop/eql: two nil values of an interface type with methods, in a part of a struct or an array")
  |_,_=>pure ())=Δ ():=by
  simp_all
 unfold eqGuard
 cases b<;>first
  |rfl
  |exact key
theorem Qs{o:Oper}{b:BinOp}{t yt:TypeId}{x y:Operand}(ho:o.op=.binOp b t x y yt){ρ:Operand->AV}{u v:Value}{c:Bool}(hx:ρ x=.v u)(hy:ρ y=.v v)
  (hu:∀ us vs,¬ (u=.agg us/\v=.agg vs)) (hn:u≠.nilIface) (hi:∀ k a k' c,¬ (u=.int k a/\v=.int k' c)) (hfl:∀ k a,u≠.float k a) (hc:∀ k a c,u≠.complex k a c) (hs:∀ a,u≠.string a)
  (h:Ay P (Op.equal t u v)=Δ c) (hb:b=.eql\/b=.neq):CC P o ρ=Δ (.v (.bool (if b=.eql then c else !c))):=by
 have:CC P o ρ=Δ (En (.bool (if b=.eql then c else !c))):=by
  refine Np ho hx hy ?_;rw[Aw,AdO hu hn];rcases hb with rfl|rfl
  .cases u<;>first
    |(exfalso;first|exact hfl _ _ rfl|exact hc _ _ _ rfl|exact hs _ rfl)
    |(cases v<;>first
      |(exfalso;exact hi _ _ _ _ ⟨rfl,rfl⟩)
      |(simp only[AtQ,Go.binOp,Aw,h,Cl];rfl))
  .cases u<;>first
    |(exfalso;first|exact hfl _ _ rfl|exact hc _ _ _ rfl|exact hs _ rfl)
    |(cases v<;>first
      |(exfalso;exact hi _ _ _ _ ⟨rfl,rfl⟩)
      |(simp only[AtQ,Go.binOp,Aw,h,Cl];rfl))
 exact this
theorem Xs{t:TypeId}(hu:P.underlying t=Δ .bool)(d:Nat)(a c:Bool):Ay P (Op.equalIn (d+1) t (.bool a) (.bool c))=Δ (a == c):=by
 unfold Op.equalIn;rw[Aw,AS hu];rfl
theorem Aap{t e:TypeId}(hu:P.underlying t=Δ (.pointer e))(d:Nat):Ay P (Op.equalIn (d+1) t (.pointer Θ) (.pointer Θ))=Δ U:=by
 unfold Op.equalIn;rw[Aw,AS hu];rfl
theorem AdN{t e:TypeId}(hu:P.underlying t=Δ (.slice e))(d:Nat):Ay P (Op.equalIn (d+1) t (.slice Θ 0 0) (.slice Θ 0 0))=Δ U:=by
 unfold Op.equalIn;rw[Aw,AS hu];rfl
theorem AdM{t:TypeId}{a b:Array TypeId}{c:Bool}(hu:P.underlying t=Δ (.func a b c))(d:Nat):Ay P (Op.equalIn (d+1) t .nilFunc .nilFunc)=Δ U:=by
 unfold Op.equalIn;rw[Aw,AS hu];rfl
theorem R3{o:Oper}{b:BinOp}{t yt:TypeId}{x y:Operand}(ho:o.op=.binOp b t x y yt){ρ:Operand->AV}{ek:Nat}(hk:FM P t=ek){c:Bool}(h:eqM Ah ek (ρ x) (ρ y)=Δ c)(hb:b=.eql\/b=.neq) :
  Xa P o b t x y ρ=AM.ret (.v (.bool (if b=.eql then c else !c))):=by
 unfold eqM at h;unfold Xa;split at h<;>simp only[θ,reduceCtorEq]at h<;>try subst h
 .-- bool
  rename_i a c hx hy;have hu:=XJ hk;rw[Ad (by rw[hx,hy];simp[Fj])];have:Ay P (Op.equal t (.bool a) (.bool c))=Δ (a == c):=Xs hu 9999 a c;rw[Qs ho hx hy (by simp) (by simp) (by simp) (by simp) (by simp) (by simp) this hb];rfl
 .rename_i hx hy
  obtain⟨e,hu⟩:=NQ hk;rw[Ac (by rw[hx,hy];simp[Fj,hu])];rcases hb with rfl|rfl<;>rfl
 .rename_i hx hy
  obtain⟨e,hu⟩:=NQ hk;rw[Ac (by rw[hx,hy];simp[Fj,hu])];rcases hb with rfl|rfl<;>rfl
 .rename_i hx hy
  obtain⟨e,hu⟩:=NQ hk;rw[Ad (by rw[hx,hy];simp[Fj])];have:Ay P (Op.equal t (.pointer Θ) (.pointer Θ))=Δ U:=Aap hu 9999;rw[Qs ho hx hy (by simp) (by simp) (by simp) (by simp) (by simp) (by simp) this hb];rfl
 .rename_i hx hy
  obtain⟨e,hu⟩:=Wd hk;rw[Ac (by rw[hx,hy];simp[Fj,hu])];rcases hb with rfl|rfl<;>rfl
 .rename_i hx hy
  obtain⟨e,hu⟩:=Wd hk;rw[Ad (by rw[hx,hy];simp[Fj])];have:Ay P (Op.equal t (.slice Θ 0 0) (.slice Θ 0 0))=Δ U:=AdN hu 9999;rw[Qs ho hx hy (by simp) (by simp) (by simp) (by simp) (by simp) (by simp) this hb];rfl
 .rename_i hx hy
  obtain⟨e,e2,e3,hu⟩:=Wc hk;rw[Ac (by rw[hx,hy];simp[Fj,hu])];rcases hb with rfl|rfl<;>rfl
 .rename_i hx hy
  obtain⟨e,e2,e3,hu⟩:=Wc hk;rw[Ad (by rw[hx,hy];simp[Fj])];have:Ay P (Op.equal t .nilFunc .nilFunc)=Δ U:=AdM hu 9999;rw[Qs ho hx hy (by simp) (by simp) (by simp) (by simp) (by simp) (by simp) this hb];rfl
def IP:Nat->Value->Value->Option Bool
 |1,.bool a,.bool b=>Δ (a == b)
 |0,.int k a,.int k' b=>if k=k' then Δ (a == b) else Θ
 |2,.string a,.string b=>Δ (a == b)
 |_,_,_=>Θ
def DP:Ae->AA->AA->Option Bool
 |[],[],[]=>Δ U
 |k::ks,u::us,v::vs=>(match IP k u v,DP ks us vs with
  |some a,Δ b=>Δ (a&&b)
  |_,_=>Θ)
 |_,_,_=>Θ
theorem HQ(a b:ByteArray):(a == b)=(a.data == b.data):=by
 cases a;cases b;rfl
theorem RM(a b:ByteArray):(a.toList == b.toList)=(a == b):=by
 simp_all [Go.ByteArray.toList_eq,HQ]
theorem Jx:∀{ks:Ae} {xs ys:Aa} {c:Bool},eqL Ah ks xs ys=Δ c->∃ us vs,GZ xs=Δ us/\GZ ys=Δ vs/\DP ks us vs=Δ c
 |[],[],[],c,h=>by simp only[eqL,θ]at h;subst h;exact⟨[],[],rfl,rfl,rfl⟩
 |ks,xs,ys,c,h=>by
  unfold eqL at h;split at h
  .simp only[θ]at h;subst h;exact⟨[],[],rfl,rfl,rfl⟩
  .rename_i ks a r b q
   cases e:eqL Ah ks r q with
   |none=>rw[e]at h;cases h
   |some t=>
    rw[e]at h;simp only[θ]at h;subst h;obtain⟨us,vs,h1,h2,h3⟩:=Jx e;exact⟨.bool a::us,.bool b::vs,by simp only[GZ,h1],by simp only[GZ,h2],by simp only[DP,IP,h3];rfl⟩
  .rename_i ks k a r k' b q
   split at h
   .rename_i hk
    cases e:eqL Ah ks r q with
    |none=>rw[e]at h;cases h
    |some t=>
     rw[e]at h;simp only[θ]at h;subst h;obtain⟨us,vs,h1,h2,h3⟩:=Jx e;exact⟨.int k a::us,.int k' b::vs,by simp only[GZ,h1],by simp only[GZ,h2],by simp only[DP,IP,h3,Ac hk];rfl⟩
   .cases h
  .rename_i ks a r b q
   cases e:eqL Ah ks r q with
   |none=>rw[e]at h;cases h
   |some t=>
    rw[e]at h;simp only[θ]at h;subst h;obtain⟨us,vs,h1,h2,h3⟩:=Jx e;refine⟨.string a::us,.string b::vs,by simp only[GZ,h1],by simp only[GZ,h2],?_⟩;simp only[DP,IP,h3]
    show Δ ((a == b)&&t)=Δ ((a.toList == b.toList)&&t)
    rw[RM]
  .cases h
theorem Xu{t:TypeId}{k:Nat}(hk:QQ P t=Δ k){u v:Value}{c:Bool}(h:IP k u v=Δ c)(d:Nat):Ay P (Op.equalIn (d+1) t u v)=Δ c:=by
 unfold IP at h;unfold QQ at hk;split at h
 .simp only[θ]at h
  subst h;split at hk<;>simp only[θ,reduceCtorEq]at hk<;>try (exact absurd hk (by decide))
  rename_i hu;unfold Op.equalIn;rw[Aw,AS hu];rfl
 .split at h
  .rename_i ek
   simp only[θ]at h;subst h;split at hk<;>simp only[θ,reduceCtorEq]at hk<;>try (exact absurd hk (by decide))
   rename_i hu;unfold Op.equalIn;rw[Aw,AS hu];simp only[AtQ,ek,if_true];rfl
  .cases h
 .simp only[θ]at h
  subst h;split at hk<;>simp only[θ,reduceCtorEq]at hk<;>try (exact absurd hk (by decide))
  rename_i hu;unfold Op.equalIn;rw[Aw,AS hu];rfl
 .cases h
theorem PL{t:TypeId}(h:Cb P t=Δ Ξ){cs:Array Value}{n:Nat}{u:Value}(hu:cs[n]? = Δ u):Ay P (part t cs n)=Δ u:=by
 unfold part;have:Ay P (isAgg t)=Δ Ξ:=by
  unfold isAgg;unfold Cb at h
  cases e:P.underlying t with
  |none=>rw[e]at h;cases h
  |some d=>
   rw[e]at h;simp only[AtS,θ]at h;rw[Aw,AS e]
   cases d<;>first | (simp[Aa2]at h;done) | rfl
 rw[Aw,this];simp[hu]
theorem KP{o:Oper}{ρ:Operand->AV}{z:Value}(hn:B6 o.op=U)(ha:(o.op.operands.toList.all λx=>(ρ x).toVal.isSome)=U)(h:Ay P (execOp (BV ρ) o)=Δ (.value z)):CC P o ρ=Δ (En z):=by
 unfold CC;rw[Ac (by rw[hn,ha];rfl),h];rfl
theorem Fr{ρ:Operand->AV}{x:Operand}{u:Value}(h:ρ x=.v u):BV ρ x=u:=by unfold BV;rw[h];rfl
theorem Jw{xs ys:Array Value}(d:Nat):∀(fs:List Field) (n:Nat) {ks:Ae} {us vs:AA} {c:Bool},Pk P fs n=Δ ks->DP ks us vs=Δ c->(∀(i:Nat) u,us[i]? = Δ u->xs[n+i]? = Δ u)->(∀(i:Nat) u,vs[i]? = Δ u->ys[n+i]? = Δ u)->Ay P (Op.eqFields (d+1) xs ys fs)=Δ c
 |[],n,ks,us,vs,c,hf,hc,hx,hy=>by
  simp only[Pk,θ]at hf;subst hf
  cases us<;>cases vs<;>simp only[DP,θ,reduceCtorEq]at hc
  subst hc;rfl
 |f::r,n,ks,us,vs,c,hf,hc,hx,hy=>by
  simp only[Pk]at hf;split at hf
  .rename_i h1
   simp only[Atk,beq_iff_eq,bne_iff_ne]at h1;obtain⟨⟨h1,h2⟩,h3⟩:=h1
   cases e1:QQ P f.type with
   |none=>rw[e1]at hf;cases hf
   |some k=>
    cases e2:Pk P r (n+1) with
    |none=>rw[e1,e2]at hf;cases hf
    |some ks'=>
     rw[e1,e2]at hf;simp only[θ]at hf;subst hf
     cases us with
     |nil=>simp[DP]at hc
     |cons u us=>
      cases vs with
      |nil=>simp[DP]at hc
      |cons v vs=>
       simp only[DP]at hc
       cases e3:IP k u v with
       |none=>rw[e3]at hc;cases hc
       |some a=>
        cases e4:DP ks' us vs with
        |none=>rw[e3,e4]at hc;cases hc
        |some b=>
         rw[e3,e4]at hc;simp only[θ]at hc;subst hc;have ih:=Jw d r (n+1) e2 e4 (λi u hi=>by have:=hx (i+1) u (by simpa using hi);rwa [show n+1+i=n+(i+1) by omega]) (λi u hi=>by have:=hy (i+1) u (by simpa using hi);rwa [show n+1+i=n+(i+1) by omega]);unfold Op.eqFields;rw[Ac h2,h1,Aw,PL h3 (show xs[n]? = Δ u from hx 0 u rfl)];simp only[AtQ];rw[Aw,PL h3 (show ys[n]? = Δ v from hy 0 v rfl)];simp only[AtQ];rw[Aw,Xu e1 e3 d];simp only[AtQ]
         cases a with
         |true=>simpa using ih
         |false=>simp
  .cases hf
theorem R2{t:TypeId}{fs:Array Field}(ht:P.underlying t=Δ (.struct fs))(hp:P.stoodInHeld t=Ξ)(d:Nat)(xs ys:Array Value):Ay P (Op.equalIn (d+1) t (.agg xs) (.agg ys))=Ay P (Op.eqFields d xs ys fs.toList):=by
 unfold Op.equalIn;rw[Aw,AS ht];simp only[AtQ,Aw,Mp,hp,Auc,if_false];rw[←Array.forIn_toList];generalize fs.toList=l;clear ht
 induction l with
 |nil=>simp[Op.eqFields]
 |cons f fs ih=>
  simp only[List.forIn_cons,Op.eqFields];split
  .simp only[Aw]
   cases Ay P (part f.type xs f.offset) with
   |none=>rfl
   |some a=>
    simp only[AtQ,Aw]
    cases Ay P (part f.type ys f.offset) with
    |none=>rfl
    |some b=>
     simp only[AtQ,Aw]
     cases Ay P (Op.equalIn d f.type a b) with
     |none=>rfl
     |some r=>
      cases r
      .simp
      .simpa using ih
  .simpa using ih
theorem Pf{o:Oper}{b:BinOp}{t yt:TypeId}{x y:Operand}(ho:o.op=.binOp b t x y yt){ρ:Operand->AV}{ks:Ae}(hk:eqS P t=Δ ks){r:AV}{neg:Bool}(hb:b=if neg then .neq else .eql)(h:Ald Ah neg ks (ρ x) (ρ y)=Δ r):Xa P o b t x y ρ=AM.ret r:=by
 unfold Ald at h;split at h
 .rename_i xs ys ex ey
  cases e:eqL Ah ks xs ys with
  |none=>rw[e]at h;cases h
  |some c=>
   rw[e]at h;obtain⟨us,vs,h1,h2,h3⟩:=Jx e;unfold eqS at hk;split at hk
   .rename_i fs hu
    split at hk
    .rename_i hc
     simp only[Atk,Bool.not_eq_true']at hc;have key:Ay P (Op.equalIn 10000 t (.agg us.toArray) (.agg vs.toArray))=Δ c:=by
      rw[R2 hu hc.1 9999];exact Jw 9998 fs.toList 0 hk h3 (λi u hi=>by rw[Ato];simpa using hi) (λi u hi=>by rw[Ato];simpa using hi)
     have g:CC P o ρ=Δ (En (.bool (if neg then !c else c))):=by
      refine Pq ho (u:=.agg us.toArray) (v:=.agg vs.toArray) (by rw[ex];simp only[AV.toVal,h1]) (by rw[ey];simp only[AV.toVal,h2]) ?_;have g1:Ay P (eqGuard b t x y (.agg us.toArray) (.agg vs.toArray))=Δ ():=by
       unfold eqGuard;rw[hb]
       cases neg<;>simp[hc.2]
      rw[Aw,g1];simp only[AtQ];rw[hb]
      cases neg
      .show Ay P (binOp .eql t (.agg us.toArray) (.agg vs.toArray))=_
       have:binOp .eql t (.agg us.toArray) (.agg vs.toArray)=(do let r ←Op.equalIn 10000 t (.agg us.toArray) (.agg vs.toArray);pure (.bool r)):=rfl;rw[this,Aw,key];rfl
      .show Ay P (binOp .neq t (.agg us.toArray) (.agg vs.toArray))=_
       have:binOp .neq t (.agg us.toArray) (.agg vs.toArray)=(do let r ←Op.equalIn 10000 t (.agg us.toArray) (.agg vs.toArray);pure (.bool !r)):=rfl;rw[this,Aw,key];rfl
     unfold Xa;rw[Ad (by rw[ex,ey];simp[Fj]),g]
     cases neg<;>(simp only[θ]at h;rw[←h];rfl)
    .cases hk
   .cases hk
 .cases h
theorem Xm{o:Oper}{b:BinOp}{t yt:TypeId}{x y:Operand}(ho:o.op=.binOp b t x y yt){ρ:Operand->AV}{r:AV}(h:AdG Ah (FM P t) b (ρ x) (ρ y)=Δ r):Xa P o b t x y ρ=AM.ret r:=by
 unfold AdG at h;split at h
 .obtain⟨h1,h2⟩:=Xb (P:=P) ho h
  unfold Xa;rw[Ad (by rw[h2];simp),h1];rfl
 .rename_i hk
  cases e:eqM Ah (FM P t) (ρ x) (ρ y) with
  |none=>rw[e]at h;cases h
  |some c=>
   rw[e]at h;simp only[AtS,θ]at h;subst h;rw[R3 ho rfl e (.inl rfl)];rfl
 .cases e:eqM Ah (FM P t) (ρ x) (ρ y) with
  |none=>rw[e]at h;cases h
  |some c=>
   rw[e]at h;simp only[AtS,θ]at h;subst h;rw[R3 ho rfl e (.inr rfl)];rfl
 .cases h
end
def Le{α:Type}(m m':AM α):Prop:=∀ H r,m H=Δ r->m' H=Δ r
section
variable {α β:Type}
theorem Le.refl(m:AM α):Le m m:=λ_ _ h=>h
theorem Le.fail(m:AM α):Le AM.fail m:=λ_ _ h=>by cases h
theorem Le.bind{m m':AM α}{f f':α->AM β}(h:Le m m')(k:∀ a,Le (f a) (f' a)):Le (m.bind f) (m'.bind f'):=λH r e=>by
 unfold AM.bind at e ⊢;rcases e1:m H with _|⟨a,H1,f1⟩<;>rw[e1]at e
 .cases e
 simp only at e;rcases e2:f a H1 with _|⟨b,H2,f2⟩<;>rw[e2]at e
 .cases e
 simp only at e;rw[h H _ e1];simp only;rw[k a H1 _ e2];exact e
theorem Le.opt{o o':Option α}(h:∀ a,o=Δ a->o'=Δ a):Le (AM.opt o) (AM.opt o'):=λH r e=>by
 cases o with
 |none=>cases e
 |some a=>rw[h a rfl];exact e
theorem Le.ret{o:Option α}{m:AM α}(h:∀ a,o=Δ a->m=AM.ret a):Le (AM.opt o) m:=λH r e=>by
 cases o with
 |none=>cases e
 |some a=>rw[h a rfl];exact e
theorem Le.trans{m m1 m2:AM α}(h:Le m m1)(k:Le m1 m2):Le m m2:=λH r e=>k H r (h H r e)
end
section
variable {P:Program}
theorem Gr:∀ xs,Bb xs=xs.length
 |[]=>rfl
 |x::r=>by simp[Bb,Gr r]
theorem F5:∀ xs n,HD xs n=xs.take n
 |[],_=>by simp[HD]
 |x::r,0=>by simp[HD]
 |x::r,n+1=>by simp[HD,F5 r n]
theorem FH:∀ xs n,Ha xs n=xs.drop n
 |[],_=>by simp[Ha]
 |x::r,0=>by simp[Ha]
 |x::r,n+1=>by simp[Ha,FH r n]
theorem Jt:∀ xs,Ip xs=xs.flatten
 |[]=>rfl
 |x::r=>by simp[Ip,Jt r]
theorem Fl:∀ xs,I9 xs=xs.all AV.one
 |[]=>rfl
 |x::r=>by simp[I9,Fl r]
theorem AkX(a b:Nat):AtK a b=(a == b):=Bool.eq_iff_iff.2 (by simp)
theorem HE(e:Nat):∀ xs,Fs e xs=xs.all λcs=>cs.length == e
 |[]=>rfl
 |x::r=>by simp[Fs,HE e r,AkX]
theorem Ig(T:Aa):∀ l,OU T l=l.map (AW T)
 |[]=>rfl
 |x::r=>by simp[OU,Ig T r]
theorem JX(T:Aa):∀ l,JW T l=l.map λp=>(p.1,AW T p.2)
 |[]=>rfl
 |(i,x)::r=>by simp[JW,JX T r]
theorem MB{t:TypeId}{row:Bool}{n:Nat}(h1:Cb P t=Δ row)(h2:row=U->Dq P t=Δ n)(a:AV):Le (loadM row n a) (loadA P t a):=by
 unfold loadM loadA;rw[h1]
 cases row with
 |true=>rw[h2 rfl];exact Le.refl _
 |false=>exact Le.refl _
theorem Abd{t:TypeId}{n:Nat}(h:Dq P t=Δ n)(a x:AV):Le (storeM n a x) (storeA P t a x):=by
 unfold storeM storeA;rw[h]
 cases a<;>exact Le.refl _
theorem WD{t:TypeId}{row:Bool}{n:Nat}(h1:Cb P t=Δ row)(h2:row=U->Dq P t=Δ n)(cs:Aa)(off:Nat):S3 row off n cs=PK P t cs off:=by
 unfold S3 PK;rw[h1]
 cases row with
 |true=>rw[h2 rfl]
 |false=>rfl
theorem AaV{t et:TypeId}{e:Nat}(h1:Cf P t=Δ et)(h2:Dq P et=Δ e){x ix r:AV}(h:NI e x ix=Δ r):DB P t x ix=Δ r:=by
 unfold NI at h;unfold DB;rw[h1]
 cases e1:ix.idx with
 |none=>rw[e1]at h;cases h
 |some i=>
  rw[e1]at h;simp only at h
  cases x<;>try (cases h)
  .rename_i b o n e'
   simp only at h ⊢;split at h
   .rename_i hlt
    split at h
    .rename_i he
     subst he;have:i+1<=n:=by simpa[Aup]using hlt
     have:i<n:=by omega
     rw[Ac ⟨this,h2⟩];exact h
    .cases h
   .cases h
  .rename_i xs
   simp only[QP]at h ⊢
   cases e2:xs[i]? with
   |none=>rw[e2]at h;cases h
   |some cs=>
    rw[e2]at h;simp only at h ⊢;split at h
    .rename_i hb
     have:cs.length=e:=by simpa using hb
     rw[Ac (by rw[h2,this])];exact h
    .cases h
theorem Acq{t et:TypeId}{e:Nat}(h1:Cf P t=Δ et)(h2:Dq P et=Δ e){x r:AV}{lo hi:Option AV}(h:Ou e x lo hi=Δ r):Jh P t x lo hi=Δ r:=by
 have om:∀ n o,Mo n o=Ea n o:=λn o=>by cases o<;>rfl
 unfold Ou at h;unfold Jh;rw[h1];simp only[om,Gr,F5,FH,HE]at h
 cases x<;>try (cases h)
 .rename_i b o n e'
  simp only at h ⊢;split at h
  .rename_i l hh e1 e2
   rw[e1,e2];simp only;split at h
   .rename_i c1 c2 c3
    have c3':e'=e:=by simpa using c3
    subst c3';rw[Ac ⟨by simpa using c1,by simpa using c2,h2⟩];exact h
   .cases h
  .cases h
 .rename_i xs
  simp only at h ⊢;split at h
  .rename_i l hh e1 e2
   rw[e1,e2];simp only;split at h
   .rename_i c1 c2 c3
    have c4:(xs.all λcs=>Dq P et == Δ cs.length)=U:=Atr.2 λcs hcs=>by
     have:=Atr.1 c3 cs hcs;rw[h2];simp at this ⊢;exact this.symm
    rw[Ac ⟨by simpa using c1,by simpa using c2,by rw[h2];rfl,c4⟩];exact h
   .cases h
  .cases h
theorem QD(e:Nat)(x:AV):Le (newsM e x) (newsA e x):=by
 unfold newsM newsA;split
 .dsimp only
  split
  .refine Le.bind (Le.refl _) λk=>?_
   split
   .rename_i c1 c2
    rw[Ac ⟨by simpa using c1,c2⟩];exact Le.refl _
   .exact Le.fail _
  .exact Le.fail _
 .simp only[Gr,Jt,HE]
  split
  .rename_i c
   rw[Ac c];exact Le.refl _
  .exact Le.fail _
 .exact Le.refl _
 .exact Le.fail _
theorem IU{t:TypeId}{e b:Nat}{z:AA}(h:LJ P t=Δ (e,z,b)):∃ et i zz,Cf P t=Δ et/\P.info? et=Δ i/\CJ P et=Δ zz/\i.zero=Δ zz/\zz.cells.size=i.size/\0<i.size/\e=i.size/\z=zz.cells.toList/\b=i.bytes:=by
 unfold LJ at h;split at h
 .rename_i et h1
  split at h
  .rename_i i zz h2 h3
   split at h
   .rename_i h4
    simp only[θ,Prod.mk.injEq]at h;refine⟨et,i,zz,h1,h2,h3,?_,h4.1,h4.2,h.1.symm,h.2.1.symm,h.2.2.symm⟩;unfold CJ at h3;rw[h2]at h3;simp only at h3;split at h3
    .split at h3
     .rename_i e5 _;rw[e5];exact h3
     .cases h3
    .cases h3
   .cases h
  .cases h
 .cases h
theorem XL{t u:TypeId}{e b:Nat}{z:AA}(h:LJ P t=Δ (e,z,b))(hu:CT P u=U)(s x:AV):Le (appM e b s x) (appendA P [t,u] s x):=by
 obtain⟨et,i,zz,h1,h2,h3,h4,h5,h6,rfl,_,rfl⟩:=IU h;have hn:FA P u=U:=by
  unfold CT at hu;unfold FA;split at hu
  .rename_i e1;rw[e1]
  .cases hu
 unfold appM appendA;simp only[h1,h2,h4];rw[Ac (show zz.cells.size=i.size/\0<i.size from ⟨h5,h6⟩)];refine Le.bind (by unfold newsU;rw[hn];exact QD _ _) λr=>?_
 unfold appR;split
 .rename_i c
  rw[Ac (show r.1=0 by simpa using c)];exact Le.refl _
 .rename_i c
  rw[Ad (show ¬ r.1=0 by intro e;rw[e]at c;simp at c)];rw[Fl];split
  .exact Le.fail _
  .rename_i c1
   rw[Ac c1];split
   .dsimp only
    split
    .rename_i c2 c3
     rw[Ac ⟨rfl,by simpa using c2,by simpa using c3⟩];exact Le.refl _
    .exact Le.fail _
   .dsimp only
    split
    .rename_i c2 c3 c4
     rw[Ac ⟨by simpa using c2,by simpa using c3,by simpa using c4⟩];have c2':=Atz c2;subst c2';refine Le.bind (Le.refl _) λk=>?_
     split
     .rename_i d1 d2 d3
      have d3':=Atz d3;rw[Ac ⟨d1,by omega,.inl d2⟩,Ac d2,d2];exact Le.refl _
     .rename_i d1 d2 d3
      have d3':=Atz d3;rw[Ac ⟨d1,by omega,.inr d3'⟩,Ad (by rw[d2];simp),d2];exact Le.refl _
     .rename_i d1 d2 d3
      split
      .rename_i d4
       rw[Ac ⟨d1,by simpa using d4,.inl d2⟩,Ac d2,d2];exact Le.refl _
      .exact Le.fail _
     .exact Le.fail _
    .exact Le.fail _
   .exact Le.fail _
theorem Ad4{t u:TypeId}{e b:Nat}{z:AA}(h:LJ P t=Δ (e,z,b))(hu:KX P u=U)(s x:AV):Le (appzM z e b s x) (appendA P [t,u] s x):=by
 obtain⟨et,i,zz,h1,h2,h3,h4,h5,h6,rfl,rfl,rfl⟩:=IU h;have hn:FA P u=Ξ:=by
  unfold KX at hu;unfold FA;split at hu
  .rename_i e1;rw[e1]
  .cases hu
 unfold appzM appendA;simp only[h1,h2,h4];rw[Ac (show zz.cells.size=i.size/\0<i.size from ⟨h5,h6⟩)];refine Le.bind ?_ λr=>?_
 .unfold newsU QM newsZ
  rw[hn,hu];dsimp only;obtain⟨_,_,_,hfl⟩:=DD h3
  cases x.idx with
  |none=>exact Le.fail _
  |some m=>
   dsimp only;split
   .rename_i c1
    rw [Ac ⟨by     have:m<=9223372036854775807:=by simpa using c1
                   omega,hfl⟩]
    exact Le.refl _
   .exact Le.fail _
 unfold appR;split
 .rename_i c
  rw[Ac (show r.1=0 by simpa using c)];exact Le.refl _
 .rename_i c
  rw[Ad (show ¬ r.1=0 by intro e;rw[e]at c;simp at c)];rw[Fl];split
  .exact Le.fail _
  .rename_i c1
   rw[Ac c1];split
   .dsimp only
    split
    .rename_i c2 c3
     rw[Ac ⟨rfl,by simpa using c2,by simpa using c3⟩];exact Le.refl _
    .exact Le.fail _
   .dsimp only
    split
    .rename_i c2 c3 c4
     rw[Ac ⟨by simpa using c2,by simpa using c3,by simpa using c4⟩];have c2':=Atz c2;subst c2';refine Le.bind (Le.refl _) λk=>?_
     split
     .rename_i d1 d2 d3
      have d3':=Atz d3;rw[Ac ⟨d1,by omega,.inl d2⟩,Ac d2,d2];exact Le.refl _
     .rename_i d1 d2 d3
      have d3':=Atz d3;rw[Ac ⟨d1,by omega,.inr d3'⟩,Ad (by rw[d2];simp),d2];exact Le.refl _
     .rename_i d1 d2 d3
      split
      .rename_i d4
       rw[Ac ⟨d1,by simpa using d4,.inl d2⟩,Ac d2,d2];exact Le.refl _
      .exact Le.fail _
     .exact Le.fail _
    .exact Le.fail _
   .exact Le.fail _
theorem Ad6{t:TypeId}{e b:Nat}{z:AA}(h:LJ P t=Δ (e,z,b))(l c:AV):Le (mkslM z e b l c) (makeSliceA P t l c):=by
 obtain⟨et,i,zz,h1,h2,h3,h4,h5,h6,rfl,rfl,rfl⟩:=IU h;unfold mkslM makeSliceA;rw[h1];split
 .rename_i n m e1 e2
  rw[e1,e2];dsimp only;rw[h2,h3];dsimp only;split
  .rename_i c1 c2 c3
   rw[Ac ⟨by simpa using c1,by simpa using c2,by simpa using c3,h5,h6⟩];exact Le.refl _
  .exact Le.fail _
 .exact Le.fail _
theorem Ad5{t u et:TypeId}{e:Nat}(h1:Cf P t=Δ et)(h2:Dq P et=Δ e)(d x:AV):Le (cpyM e d x) (copyA P [t,u] d x):=by
 unfold cpyM copyA;simp only[h1];split
 .split
  .rename_i c
   have c':=Atz c;subst c';dsimp only;rw[Ac h2];refine Le.bind (QD _ _) λr=>?_
   simp only[Fl];split
   .rename_i c1
    rw[Ac c1];refine Le.bind (Le.refl _) λk=>?_
    split
    .rename_i c2 c3
     rw[Ac ⟨c2,by simpa using c3⟩];exact Le.refl _
    .exact Le.fail _
   .exact Le.fail _
  .exact Le.fail _
 .exact Le.fail _
theorem Abb{t et:TypeId}{e:Nat}{z:Value}(h1:Cf P t=Δ et)(h2:Dq P et=Δ e)(h3:CJ P et=Δ z)(h4:z.cells.size=e/\0<e/\(z.cells.toList.map AV.v).all AV.one=U)(x:AV):Le (clrM z.cells.toList e x) (clearA P [t] x):=by
 unfold clrM clearA;simp only[h1]
 cases x with
 |sl b o n e'=>
  simp only[h3];split
  .rename_i c
   have c':=Atz c;subst c';rw[Ac ⟨h2,h4⟩];refine Le.bind (Le.refl _) λk=>?_
   split
   .rename_i c2 c3
    rw[Ac ⟨c2,by simpa using c3⟩];exact Le.refl _
   .exact Le.fail _
  .exact Le.fail _
 |_=>exact Le.fail _
theorem Nq{o:Oper}{c:Call}{b:Builtin}{x:Operand}(ho:o.op=.call c)(hc:c.callee=.builtin b)(ha:c.args.toList=[x]){ρ:Operand->AV}{u z:Value}(hx:ρ x=.v u)
  (h:∀ cs,Ay P (builtin b c.argTypes o.type cs #[u])=Δ (.value z)):CC P o ρ=Δ (En z):=by
 have e1:BV ρ x=u:=by unfold BV;rw[hx];rfl
 have ha':c.args=#[x]:=by rw[←Avk (xs:=c.args),ha]
 have cc:(B6 o.op&&o.op.operands.toList.all λx=>(ρ x).toVal.isSome)=U:=by
  rw[ho];simp[B6,Op.operands,Call.operands,hc,ha',hx,AV.toVal]
 unfold CC;rw[Ac cc];have:Ay P (execOp (BV ρ) o)=Δ (.value z):=by
  unfold execOp;rw[ho];simp only[resolve,hc,ha',Aw,Cl,AtQ,invoke];have e3:#[x].map (BV ρ)=#[u]:=by simp[e1]
  rw[e3];exact h _
 rw[this];rfl
theorem Nr{o:Oper}{c:Call}{b:Builtin}{x y:Operand}(ho:o.op=.call c)(hc:c.callee=.builtin b)(ha:c.args.toList=[x,y]){ρ:Operand->AV}{u v z:Value}(hx:ρ x=.v u)(hy:ρ y=.v v)
  (h:∀ cs,Ay P (builtin b c.argTypes o.type cs #[u,v])=Δ (.value z)):CC P o ρ=Δ (En z):=by
 have e1:BV ρ x=u:=by unfold BV;rw[hx];rfl
 have e2:BV ρ y=v:=by unfold BV;rw[hy];rfl
 have ha':c.args=#[x,y]:=by rw[←Avk (xs:=c.args),ha]
 have cc:(B6 o.op&&o.op.operands.toList.all λx=>(ρ x).toVal.isSome)=U:=by
  rw[ho];simp[B6,Op.operands,Call.operands,hc,ha',hx,hy,AV.toVal]
 unfold CC;rw[Ac cc];have:Ay P (execOp (BV ρ) o)=Δ (.value z):=by
  unfold execOp;rw[ho];simp only[resolve,hc,ha',Aw,Cl,AtQ,invoke];have e3:#[x,y].map (BV ρ)=#[u,v]:=by simp[e1,e2]
  rw[e3];exact h _
 rw[this];rfl
def Ix(P:Program)(ents:Nat):Prop:=∀ g,ents.testBit g=U->FI P g=U
theorem Aba{t:TypeId}{zz:Value}(hz:CJ P t=Δ zz)(T:Aa)(ps:List (Nat × Operand)) :
  (∀{fs:Array Field} {pl:List (Nat × Nat)},CB P t=Δ fs->Ih P fs.toList=Δ pl->KI (pl[·]?) zz.cells.toList (JW T ps)=IM P t (ps.map λp=>(p.1,AW T p.2))) ∧
  (∀{et:TypeId} {e:Nat},CB P t=Θ->MY P t=Δ et->Dq P et=Δ e->KI (λi=>Δ (i*e,e)) zz.cells.toList (JW T ps)=IM P t (ps.map λp=>(p.1,AW T p.2))):=by
 refine⟨λh1 h2=>?_,λh1 h2 h3=>?_⟩
 .unfold KI IM
  rw[h1,JX];unfold Mx;rw[hz,h1];simp only[h2]
 .unfold KI IM
  rw[h1,JX];unfold Mw;rw[hz,h2];simp only[h3]
theorem UR{t et:TypeId}{e:Nat}{zz:Value}(h1:Cf P t=Δ et)(h2:Dq P et=Δ e)(h3:CJ P et=Δ zz)(n:Nat)(T:Aa)(ps:List (Nat × Operand)) :
  buildSlM zz.cells.toList e n (JW T ps)=buildSliceA P t n (ps.map λp=>(p.1,AW T p.2)):=by
 unfold buildSlM buildSliceA;rw[h1];simp only[h2,h3,JX];rfl
theorem Abc{o:Oper}{c:Call}{x:Operand}{t:TypeId}{sl:Bool}(ho:o.op=.call c)(hc:c.callee=.builtin .len)(ha:c.args.toList=[x])(ht:c.argTypes.toList=[t])
  (hs:if sl=U then CT P t=U else CT P t=Ξ/\BU P t=U) (ρ:Operand->AV) :
  Le (AM.opt (AlD Ah sl (ρ x))) (if CT P t=U then(match Ad7 (ρ x) with
     |some r=>AM.ret r
     |none=>AM.opt (CC P o ρ)) else AM.opt (CC P o ρ)):=by
 have ht':c.argTypes=#[t]:=by rw[←Avk (xs:=c.argTypes),ht]
 refine Le.ret λr h=>?_
 unfold AlD at h
 cases sl with
 |true=>
  rw[Ac rfl]at hs;rw[Ac hs];simp only at h;split at h<;>simp only[θ,reduceCtorEq]at h<;>subst h
  .rename_i e;rw[e];rfl
  .rename_i e;rw[e,Gr];rfl
  .rename_i e
   have hu:∃ et,P.underlying t=Δ (.slice et):=by
    unfold CT at hs;split at hs
    .exact⟨_,‹_›⟩
    .cases hs
   obtain⟨et,hu⟩:=hu;have hg:CC P o ρ=Δ (En (.int .i64 0)):=Nq ho hc ha e λcs=>by
    rw[ht'];simp only[builtin,Builtin.len_,Aw];simp[AS hu,goInt]
   rw[e,hg];rfl
 |false=>
  rw[Ad (by simp)]at hs;rw[Ad (by rw[hs.1];simp)];simp only at h;split at h<;>simp only[θ,reduceCtorEq]at h
  subst h;rename_i s e;have hu:P.underlying t=Δ .string:=by
   have:=hs.2;unfold BU at this;split at this
   .assumption
   .cases this
  have hg:CC P o ρ=Δ (En (.int .i64 s.size)):=Nq ho hc ha e λcs=>by
   rw[ht'];simp only[builtin,Builtin.len_,Aw];simp[AS hu,goInt]
  rw[hg];rfl
theorem Aa9{o:Oper}{c:Call}{x y:Operand}{b:Builtin}(ho:o.op=.call c)(hc:c.callee=.builtin b)(ha:c.args.toList=[x,y])(ρ:Operand->AV){f:Int->Int->Int}
  (hb:(b=.max/\f=Ah.max)\/(b=.min/\f=Ah.min)):Le (AM.opt (AdA f (ρ x) (ρ y))) (AM.opt (CC P o ρ)):=by
 refine Le.opt λr h=>?_
 unfold AdA at h;split at h
 .rename_i k a k' d hx hy
  split at h
  .rename_i hk
   subst hk;simp only[θ]at h;subst h;rcases hb with⟨rfl,rfl⟩|⟨rfl,rfl⟩
   .exact Nr (z:=.int k (Ah.max a d)) ho hc ha hx hy λcs=>by
     simp[builtin,Builtin.max_,Builtin.max2,Ah,GA,Ar.max]
   .exact Nr (z:=.int k (Ah.min a d)) ho hc ha hx hy λcs=>by
     simp[builtin,Builtin.min_,Builtin.min2,Ah,GA,Ar.min]
  .cases h
 .cases h
end
section
variable {P:Program} {Γ:FuncId->Aa->AM AV} {ents:Nat}
theorem AaX{x:AV}{i:Nat}(h:x.idx=Δ i):∃ k,x=.v (.int k (.ofNat i)):=by
 unfold AV.idx at h;split at h
 .simp_all
 .cases h
theorem Ef{k:IntKind}{i n:Nat}(h:i<=n)(c:BoundsCode):Ay P (Instr.sliceBound (.int k (.ofNat i)) n c)=Δ i:=by
 unfold Instr.sliceBound asIntOf;rw[Aw];simp only[Cl,AtQ];rw[Ac ⟨by simp,by simpa using h⟩];rfl
theorem Q6{o:Oper}{t:TypeId}{x:Operand}{lo hi:Option Operand}(ho:o.op=.slice t x lo hi Θ)(ht:P.underlying t=Δ .string){ρ:Operand->AV}{r:AV}(h:Kg Ah (ρ x) (lo.map ρ) (hi.map ρ)=Δ r):CC P o ρ=Δ r:=by
 unfold Kg at h;split at h
 .rename_i s es
  split at h
  .rename_i l hh e1 e2
   split at h
   .rename_i c1 c2
    simp only[θ]at h;subst h;have c1:l<=hh:=by simpa using c1
    have c2:hh<=s.size:=by
     have:Atl hh s.size=U:=c2;simpa using this
    have hlo:(lo=Θ/\l=0)\/∃ y k,lo=Δ y/\ρ y=.v (.int k (.ofNat l)):=by
     cases lo with
     |none=>simp only[Avm,Mo,θ]at e1;exact .inl ⟨rfl,e1.symm⟩
     |some y=>
      simp only[AtS,Mo]at e1;obtain⟨k,hk⟩  :=AaX e1;exact .inr ⟨y,k,rfl,hk⟩
    have hhi:(hi=Θ/\hh=s.size)\/∃ y k,hi=Δ y/\ρ y=.v (.int k (.ofNat hh)):=by
     cases hi with
     |none=>
      simp only[Avm,Mo,θ]at e2;exact .inl ⟨rfl,e2.symm⟩
     |some y=>
      simp only[AtS,Mo]at e2;obtain⟨k,hk⟩  :=AaX e2;exact .inr ⟨y,k,rfl,hk⟩
    have hb:Ay P (Instr.sliceBounds Ξ s.size s.size (lo.map (BV ρ)) (hi.map (BV ρ)) Θ)=Δ (l,hh,s.size):=by
     rcases hlo with⟨rfl,rfl⟩|⟨y,k,rfl,hy⟩<;>rcases hhi with⟨rfl,rfl⟩|⟨z,k',rfl,hz⟩
     .rfl
     .simp only[Avm,AtS,Fr hz,Instr.sliceBounds,Aw,Cl,AtQ,Ef c2]
     .simp only[Avm,AtS,Fr hy,Instr.sliceBounds,Aw,Cl,AtQ,Ef c1]
     .simp only[AtS,Fr hy,Fr hz,Instr.sliceBounds,Aw,Cl,AtQ,Ef c1,Ef c2]
    refine KP (z:=.string (s.extract l hh)) (by rw[ho];rfl) ?_ ?_
    .rw[ho]
     rcases hlo with⟨rfl,_⟩|⟨y,k,rfl,hy⟩<;>rcases hhi with⟨rfl,_⟩|⟨z,k',rfl,hz⟩<;>simp_all [Op.operands,AV.toVal]
    .unfold execOp
     rw[ho]
     show Ay P (Instr.sliceAt t (BV ρ x) (lo.map (BV ρ)) (hi.map (BV ρ)) Θ >>= λy=>pure (Next.value y))=_
     rw[Aw,Fr es];have:Ay P (Instr.sliceAt t (.string s) (lo.map (BV ρ)) (hi.map (BV ρ)) Θ)=Δ (.string (s.extract l hh)):=by
      unfold Instr.sliceAt;rw[Aw,AS ht];simp only[AtQ];unfold Instr.slice;rw[Aw,AS ht];simp only[AtQ,Option.isSome_none,Auc,if_false];rw[Aw,hb];rfl
     rw[this];rfl
   .cases h
  .cases h
 .cases h
theorem Vt{o:Oper}{t:TypeId}{x i:Operand}(ho:o.op=.index t x i)(ht:P.underlying t=Δ .string){ρ:Operand->AV}{r:AV}(h:Ts Ah (ρ x) (ρ i)=Δ r):CC P o ρ=Δ r:=by
 unfold Ts at h;split at h
 .rename_i s j es ei
  split at h
  .rename_i c1
   simp only[θ]at h;subst h;obtain⟨k,hk⟩  :=AaX ei;have c1:j<s.size:=by
    have:Aup j s.size=U:=c1;have:j+1<=s.size:=by simpa[Aup]using this
    omega
   have e1:s[j]? = Δ (s[j]'c1):=by simp[c1]
   refine KP (z:=.int .u8 (s[j]'c1).toNat) (by rw[ho];rfl) (by rw[ho];simp[Op.operands,es,hk,AV.toVal]) ?_ |>.trans ?_
   .unfold execOp
    rw[ho]
    show Ay P (Instr.index t (BV ρ x) (BV ρ i) >>= λy=>pure (Next.value y))=_
    rw[Aw,Fr es,Fr hk];have:Ay P (Instr.index t (.string s) (.int k (.ofNat j)))=Δ (.int .u8 (s[j]'c1).toNat):=by
     unfold Instr.index asIntOf;rw[Aw];simp only[Cl,AtQ];rw[Aw,AS ht];simp only[AtQ];have:(if 0<=(AuW j) then s[(AuW j).toNat]? else Θ)=Δ (s[j]'c1):=by
      grind
     rw[this];rfl
    rw[this];rfl
   .have:Ah.sat s j=AuW (s[j]'c1).toNat:=by
     show (match s[j]? with
      |some c=>AuW c.toNat
      |none=>0)=_
     rw[e1]
    rw[this];rfl
  .cases h
 .cases h
theorem Ue{o:Oper}{s d:TypeId}{x:Operand}(ho:o.op=.convert s d x){k k0:IntKind}(hs:P.underlying s=Δ (.int k0))(hd:P.underlying d=Δ (.int k)){ρ:Operand->AV}{r:AV}(h:ZJ Ah k (ρ x)=Δ r):CC P o ρ=Δ r:=by
 unfold ZJ at h;split at h
 .rename_i k1 n e
  simp only[θ]at h;subst h;refine KP (z:=.int k (k.wrap n)) (by rw[ho];rfl) (by rw[ho];simp[Op.operands,e,AV.toVal]) ?_;unfold execOp;rw[ho]
  show Ay P (convert s d (BV ρ x) >>= λy=>pure (Next.value y))=_
  rw[Aw,Fr e];have:Ay P (convert s d (.int k1 n))=Δ (.int k (k.wrap n)):=by
   unfold convert;rw[Aw,AS hs];simp only[AtQ];rw[Aw,AS hd];rfl
  rw[this];rfl
 .cases h
theorem AhC(hE:Ix P ents)(o:Oper)(T:Aa):Le (mop Ah Γ (Ud P ents o.op) T) (aop P Γ o (AW T)):=by
 unfold aop
 cases ho:o.op<;>simp only[Ud]
 case move x=>exact Le.refl _
 case assign x=>exact Le.refl _
 case pick c a b=>
  simp only[mop];split
  .grind [Le.refl]
  .exact Le.fail _
 case alloc t=>
  unfold allocA
  cases e:CJ P t with
  |none=>exact Le.fail _
  |some z=>exact Le.refl _
 case box t x=>exact Le.refl _
 case build t ps=>
  cases e:CJ P t with
  |none=>exact Le.fail _
  |some z=>
   obtain⟨k1,k2⟩:=Aba e T ps.toList
   cases e1:CB P t with
   |some fs=>
    simp only
    cases e2:Ih P fs.toList with
    |none=>exact Le.fail _
    |some pl=>
     simp only[mop];rw[k1 e1 e2];exact Le.refl _
   |none=>
    simp only
    cases e2:MY P t with
    |none=>exact Le.fail _
    |some et=>
     simp only
     cases e3:Dq P et with
     |none=>exact Le.fail _
     |some s=>
      simp only[mop];rw[k2 e1 e2 e3];exact Le.refl _
 case buildSlice t n ps=>
  cases e:Cf P t with
  |none=>exact Le.fail _
  |some et=>
   simp only
   cases e2:Dq P et with
   |none=>exact Le.fail _
   |some s=>
    cases e3:CJ P et with
    |none=>exact Le.fail _
    |some z=>
     simp only[mop];rw[UR e e2 e3];exact Le.refl _
 case load t a=>
  cases e:Cb P t with
  |none=>exact Le.fail _
  |some b=>
   cases b with
   |true=>
    cases e2:Dq P t with
    |none=>exact Le.fail _
    |some n=>exact MB e (λ_=>e2) _
   |false=>exact MB (n:=0) e (λh=>by cases h) _
 case store t a x=>
  cases e:Dq P t with
  |none=>exact Le.fail _
  |some n=>exact Abd e _ _
 case nilCheck x=>
  simp only[mop];split<;>first
   |exact Le.fail _
   |(rename_i e;rw[e];exact Le.refl _)
 case binOp b t x y yt=>
  split
  .rename_i ks hk
   split
   .exact Le.ret λr h=>Pf ho hk (neg:=Ξ) rfl h
   .exact Le.ret λr h=>Pf ho hk (neg:=U) rfl h
   .exact Le.fail _
  .split
   .exact Le.fail _
   .rename_i k hk
    exact Le.ret λr h=>Xm ho h
 case unOp u t x=>
  cases u<;>simp only<;>try exact Le.fail _
  case not=>
   exact Le.opt λr h=>by
    unfold Apk at h;split at h
    .rename_i c e
     simp only[θ]at h;subst h;rw[AaF ho e];rfl
    .cases h
  case neg=>
   exact Le.opt λr h=>by
    unfold Apj at h;split at h
    .grind [θ,AaE]
    .cases h
 case makeFunc f a c=>
  simp only[mop,Ig];exact Le.refl _
 case slice t x lo hi mx=>
  cases mx with
  |some m=>exact Le.fail _
  |none=>
   simp only
   cases e:Cf P t with
   |none=>
    simp only;split
    .rename_i hst
     refine Le.ret λr h=>?_
     have ht:P.underlying t=Δ .string:=by
      grind [BU]
     have hn:Jh P t (AW T x) (lo.map (AW T)) (hi.map (AW T))=Θ:=by
      unfold Jh;rw[e];split<;>rename_i q<;>first|cases q|rfl
     rw[hn];simp only;rw[Q6 ho ht h];rfl
    .exact Le.fail _
   |some et=>
    simp only
    cases e2:Dq P et with
    |none=>exact Le.fail _
    |some s=>
     refine Le.ret λr h=>?_
     rw[Acq e e2 h]
 case fieldAddr t a f=>
  cases e:CB P t with
  |none=>exact Le.fail _
  |some fs=>
   simp only
   cases e2:fs[f]? with
   |none=>exact Le.fail _
   |some fd=>
    simp only;split
    .rename_i n e3
     refine Le.opt λr h=>?_
     unfold Gl;rw[e];simp only[e2,e3];exact h
    .exact Le.fail _
 case field t x f=>
  cases e:CB P t with
  |none=>exact Le.fail _
  |some fs=>
   simp only
   cases e2:fs[f]? with
   |none=>exact Le.fail _
   |some fd=>
    simp only;have key:∀{row:Bool} {n:Nat},Cb P fd.type=Δ row->(row=U->Dq P fd.type=Δ n)->Le (AM.opt (UC row fd.offset n (AW T x))) (AM.opt (Nj P t (AW T x) f)):=λh1 h2=>by
     refine Le.opt λr h=>?_
     unfold UC at h;unfold Nj;rw[e];split at h
     .grind [WD]
     .cases h
    cases e3:Cb P fd.type with
    |none=>exact Le.fail _
    |some b=>
     cases b with
     |true=>
      cases e4:Dq P fd.type with
      |none=>exact Le.fail _
      |some n=>exact key e3 λ_=>e4
     |false=>exact key e3 λh=>by cases h
 case indexAddr t x i=>
  cases e:Cf P t with
  |some et=>
   simp only
   cases e2:Dq P et with
   |none=>exact Le.fail _
   |some s=>
    refine Le.ret λr h=>?_
    rw[AaV e e2 h]
  |none=>
   have e0:DB P t (AW T x) (AW T i)=Θ:=by
    unfold DB;rw[e];split<;>first|rfl|simp_all
   cases e1:OL P t with
   |none=>exact Le.fail _
   |some ne=>
    obtain⟨n,et⟩:=ne;simp only
    cases e2:Dq P et with
    |none=>exact Le.fail _
    |some s=>
     simp only[mop];rw[e0];refine Le.opt λr h=>?_
     unfold Qd at h;unfold Jo;rw[e1];split at h
     .rename_i j ej
      rw[ej];simp only[e2];split at h
      .simp_all
      .cases h
     .cases h
 case index t x i=>
  cases e1:OL P t with
  |none=>
   simp only;split
   .rename_i hst
    refine Le.ret λr h=>?_
    have ht:P.underlying t=Δ .string:=by
     grind [BU]
    have hn:Hf P t (AW T x) (AW T i)=Θ:=by
     unfold Hf;rw[e1];split
     .rename_i q _
      cases q
     .rfl
    rw[hn];simp only;rw[Vt ho ht h];rfl
   .exact Le.fail _
  |some ne=>
   obtain⟨n,et⟩:=ne
   show Le (mop Ah Γ (match Dq P et,Cb P et with
    |some e,Δ U=>MO.index n e U e x i
    |some e,Δ Ξ=>MO.index n e Ξ 0 x i
    |_,_=>MO.bad) T) _
   have key:∀{row:Bool} {s m:Nat},Cb P et=Δ row->Dq P et=Δ s->(row=U->m=s)->Le (AM.opt (NK n s row m (AW T x) (AW T i))) (match Hf P t (AW T x) (AW T i) with
     |some r=>AM.ret r
     |none=>AM.opt (CC P o (AW T))):=λ{row s m} h1 h2 h3=>by
    refine Le.ret λr h=>?_
    have:Hf P t (AW T x) (AW T i)=Δ r:=by
     unfold NK at h;unfold Hf;rw[e1];split at h
     .rename_i cs j ej1 ej2
      simp only[ej1,ej2,h2];split at h
      .rename_i hlt
       have:j+1<=n:=by simpa[Aup]using hlt
       rw[Ac (by omega),←WD (n:=m) h1 (λhr=>by rw[h3 hr];exact h2)];exact h
      .cases h
     .cases h
    rw[this]
   cases e2:Dq P et with
   |none=>exact Le.fail _
   |some s=>
    cases e3:Cb P et with
    |none=>exact Le.fail _
    |some b=>
     cases b with
     |true=>exact key e3 e2 λ_=>rfl
     |false=>exact key e3 e2 λh=>by cases h
 case extract x i=>exact Le.refl _
 case makeSlice t l c=>
  cases e:LJ P t with
  |none=>exact Le.fail _
  |some ezb=>
   obtain⟨s,z,b⟩:=ezb;exact Ad6 e _ _
 case call c=>
  cases hc:c.callee with
  |invoke=>exact Le.fail _
  |value f=>
   simp only
   cases f with
   |func g=>
    simp only;split
    .simp_all [mop,AW,Le.refl,List.append_nil,List.nil_append,Ac,Ig]
    .exact Le.fail _
   |tmp t=>
    simp only[mop,Ig];split
    .rename_i g a cs e
     rw[e];simp only;split
     .rename_i hb
      rw[Ac (hE g hb)];exact Le.refl _
     .exact Le.fail _
    .exact Le.fail _
   |const v=>
    simp only[mop,Ig];split
    .rename_i g a cs e
     rw[e];simp only;split
     .rename_i hb
      rw[Ac (hE g hb)];exact Le.refl _
     .exact Le.fail _
    .exact Le.fail _
   |global v=>
    simp only[mop,Ig];split
    .rename_i g a cs e
     rw[e];simp only;split
     .rename_i hb
      rw[Ac (hE g hb)];exact Le.refl _
     .exact Le.fail _
    .exact Le.fail _
  |builtin b=>
   cases b<;>simp only<;>try exact Le.fail _
   .-- append
    split
    .rename_i s x t u ea et
     rw[ea];simp only[et];split
     .rename_i e b' h1 h2
      exact XL h1 h2 _ _
     .rename_i e z b' h1 h2
      split
      .rename_i h3
       exact Ad4 h1 h3 _ _
      .exact Le.fail _
     .exact Le.fail _
    .exact Le.fail _
   .-- clear
    split
    .rename_i x t ea et
     rw[ea];simp only[et];split
     .rename_i ett h1
      split
      .rename_i e z h2 h3
       split
       .rename_i h4
        exact Abb h1 h2 h3 h4 _
       .exact Le.fail _
      .exact Le.fail _
     .exact Le.fail _
    .exact Le.fail _
   .-- copy
    split
    .rename_i s x t u ea et
     rw[ea];simp only[et];split
     .rename_i ett h1 h2
      cases e2:Dq P ett with
      |none=>exact Le.fail _
      |some s=>exact Ad5 h1 e2 _ _
     .exact Le.fail _
    .exact Le.fail _
   .-- len
    split
    .rename_i x t ea et
     rw[ea,et];split
     .rename_i h1
      exact Abc ho hc ea et (by rw[Ac rfl];exact h1) _
     .rename_i h1
      split
      .rename_i h2
       exact Abc ho hc ea et (by rw[Ad (by simp)];exact⟨by simpa using h1,h2⟩) _
      .exact Le.fail _
    .exact Le.fail _
   .split
    .rename_i x y ea
     exact Aa9 ho hc ea _ (.inl ⟨rfl,rfl⟩)
    .exact Le.fail _
   .split
    .rename_i x y ea
     exact Aa9 ho hc ea _ (.inr ⟨rfl,rfl⟩)
    .exact Le.fail _
 case convert s d x=>
  split
  .rename_i k0 k hs hd
   have b1:Du P s=Ξ:=by
    unfold Du Cf;rw[hs]
   have b2:BU P s=Ξ:=by
    unfold BU;rw[hs]
   rw[Ad (by rw[b1];simp),b2,Bool.false_and];refine Le.ret λr h=>?_
   have:=Ue ho hs hd h;simp only;rw[this];rfl
  .cases b1:Du P s with
   |false=>exact Le.fail _
   |true=>
    cases b2:BU P d with
    |false=>exact Le.fail _
    |true=>
     simp only[mop,strM]
     cases b3:OS (AW T x) with
     |false=>exact Le.fail _
     |true=>
      rw[Ac (by first|exact⟨trivial,trivial,rfl⟩|exact⟨trivial,trivial,b3⟩|simp_all)];exact Le.bind (QD _ _) λ_=>Le.refl _
 all_goals exact Le.fail _
end
section
variable {A:Ar}
theorem Loc.loadM(row:Bool)(n:Nat)(a:AV):Loc (loadM row n a):=by
 unfold Go.Proofs.YtpncilciembjdaaGreatDoor.loadM
 cases row
 .grind [Loc.bind,Loc.opt,Loc.rdAt]
 .grind [Loc.bind,Loc.rdAt,Loc.ret]
theorem Loc.storeM(n:Nat)(a x:AV):Loc (storeM n a x):=by
 unfold Go.Proofs.YtpncilciembjdaaGreatDoor.storeM;split
 .exact Loc.ite (Loc.bind (Loc.getB _) λk=>Loc.ite (Loc.bind (Loc.setB _ _) λ_=>Loc.ret _) Loc.fail) Loc.fail
 .exact Loc.fail
theorem Loc.buildSlM(z:AA)(e n:Nat)(ps:List (Nat × AV)):Loc (buildSlM z e n ps):=by
 grind [Go.Proofs.YtpncilciembjdaaGreatDoor.buildSlM,Loc.bind,Loc.fail,Loc.newB,Loc.ret]
theorem Loc.newsM(e:Nat)(x:AV):Loc (newsM e x):=by
 unfold Go.Proofs.YtpncilciembjdaaGreatDoor.newsM;split
 .grind [Loc.bind,Loc.fail,Loc.getB,Loc.ret]
 .grind [Loc.fail,Loc.ret]
 .exact Loc.ret _
 .exact Loc.fail
theorem Loc.appR(e b:Nat)(s:AV)(r:Nat × Aa):Loc (appR e b s r):=by
 unfold Go.Proofs.YtpncilciembjdaaGreatDoor.appR
 repeat' split
 all_goals first
  |exact Loc.fail
  |exact Loc.ret _
  |exact Loc.bind (Loc.newB _) λ_=>Loc.ret _
  |refine Loc.bind (Loc.getB _) λk=>?_
 repeat' split
 all_goals first
  |exact Loc.fail
  |exact Loc.bind (Loc.delB _) λ_=>Loc.bind (Loc.newB _) λ_=>Loc.ret _
  |exact Loc.bind (Loc.setB _ _) λ_=>Loc.bind (Loc.newB _) λ_=>Loc.ret _
theorem Loc.appM(e b:Nat)(s x:AV):Loc (appM e b s x):=Loc.bind (Loc.newsM _ _) λr=>Loc.appR _ _ _ _
theorem Loc.appzM(z:AA)(e b:Nat)(s x:AV):Loc (appzM z e b s x):=by
 refine Loc.bind ?_ λr=>Loc.appR _ _ _ _
 unfold QM
 repeat' split
 all_goals first
  |exact Loc.fail
  |exact Loc.ret _
theorem Loc.mkslM(z:AA)(e b:Nat)(l c:AV):Loc (mkslM z e b l c):=by
 grind [Go.Proofs.YtpncilciembjdaaGreatDoor.mkslM,Loc.bind,Loc.fail,Loc.newB,Loc.ret]
theorem Loc.cpyM(e:Nat)(d x:AV):Loc (cpyM e d x):=by
 unfold Go.Proofs.YtpncilciembjdaaGreatDoor.cpyM;split
 .grind [Loc.bind,Loc.fail,Loc.getB,Loc.newsM,Loc.ret,Loc.setB]
 .exact Loc.fail
theorem Loc.clrM(z:AA)(e:Nat)(x:AV):Loc (clrM z e x):=by
 unfold Go.Proofs.YtpncilciembjdaaGreatDoor.clrM;split
 .grind [Loc.bind,Loc.fail,Loc.getB,Loc.ret,Loc.setB]
 .exact Loc.fail
theorem Loc.strM(x:AV):Loc (strM x):=by
 grind [Go.Proofs.YtpncilciembjdaaGreatDoor.strM,Loc.bind,Loc.fail,Loc.newsM,Loc.opt]
theorem Loc.mop{Γ:FuncId->Aa->AM AV}(hΓ:∀ f args,Loc (Γ f args))(o:MO)(T:Aa):Loc (mop A Γ o T):=by
 unfold Go.Proofs.YtpncilciembjdaaGreatDoor.mop
 repeat' split
 all_goals first
  |exact Loc.fail
  |exact Loc.ret _
  |exact Loc.opt _
  |exact Loc.boxA _
  |exact Loc.bind (Loc.newB _) λ_=>Loc.ret _
  |exact Loc.buildSlM _ _ _ _
  |exact Loc.loadM _ _ _
  |exact Loc.storeM _ _ _
  |exact Loc.mkslM _ _ _ _ _
  |exact Loc.appM _ _ _ _
  |exact Loc.appzM _ _ _ _ _
  |exact Loc.cpyM _ _ _
  |exact Loc.clrM _ _ _
  |exact Loc.strM _
  |exact hΓ _ _
theorem Loc.coreM{Γ:FuncId->Aa->AM AV}(hΓ:∀ f args,Loc (Γ f args))(o:MOp)(T:Aa):Loc (coreM A Γ o T):=by
 grind [Go.Proofs.YtpncilciembjdaaGreatDoor.coreM,Loc.fail,Loc.mop,Loc.ret]
def chainM(A:Ar)(Γ:FuncId->Aa->AM AV)(l:List MOp)(T:Aa):AM (Aa × List Foot):=λH=>match runM A Γ l T H with
 |some (T',H',fs)=>Δ ((T',fs),H',⟨fs.flatMap (·.rd),fs.flatMap (·.wr)⟩)
 |none=>Θ
theorem RN(Γ:FuncId->Aa->AM AV)(o:MOp)(r:List MOp)(T:Aa) :
  chainM A Γ (o::r) T=(logged (coreM A Γ o T)).bind λvf=>(chainM A Γ r (Ck T o.dst vf.1)).bind λq=>AM.ret (q.1,vf.2::q.2):=by
 funext H
 simp only[chainM,runM,AM.bind,logged,AM.ret];rcases Go.Proofs.YtpncilciembjdaaGreatDoor.coreM A Γ o T H with _|⟨v,H1,f⟩
 .rfl
 simp only;rcases runM A Γ r (Ck T o.dst v) H1 with _|⟨T2,H2,fs⟩
 .rfl
 .simp
theorem Loc.chainM{Γ:FuncId->Aa->AM AV}(hΓ:∀ f args,Loc (Γ f args)):∀(l:List MOp) (T:Aa),Loc (chainM A Γ l T)
 |[],T=>by
  have:Go.Proofs.YtpncilciembjdaaGreatDoor.chainM A Γ [] T=AM.ret (T,[]):=by funext H;simp[Go.Proofs.YtpncilciembjdaaGreatDoor.chainM,runM,AM.ret]
  rw[this];exact Loc.ret _
 |o::r,T=>by
  rw[RN];exact Loc.bind (Loc.logged (Loc.coreM hΓ o T)) λ_=>Loc.bind (Loc.chainM hΓ r _) λ_=>Loc.ret _
theorem Ah8(Γ:FuncId->Aa->AM AV)(ops:List MOp)(bf:Option (Ae))(T:Aa) :
  regM A Γ ops bf T=(chainM A Γ ops T).bind λr=>match bf with
   |none=>AM.ret (.normal,r.1)
   |some bf=>(match Et bf r.2 with
    |true=>AM.ret (.normal,r.1)
    |false=>AM.fail):=by
 funext H
 unfold Go.Proofs.YtpncilciembjdaaGreatDoor.regM Go.Proofs.YtpncilciembjdaaGreatDoor.chainM AM.bind
 cases e0:runM A Γ ops T H with
 |none=>simp[e0]
 |some r=>
  obtain⟨T',H',fs⟩:=r
  cases bf with
  |none=>simp[AM.ret,e0]
  |some bf=>cases e:Et bf fs<;>simp[AM.ret,AM.fail,e,e0]
theorem Loc.regM{Γ:FuncId->Aa->AM AV}(hΓ:∀ f args,Loc (Γ f args))(ops:List MOp)(bf:Option (Ae))(T:Aa):Loc (regM A Γ ops bf T):=by
 grind [Loc.bind,Loc.chainM,Loc.fail,Loc.ret,Ah8]
theorem Loc.adoptB1(b i e:Nat):Loc (adoptB1 b i e):=by
 grind [Go.Proofs.YtpncilciembjdaaGreatDoor.adoptB1,Loc.bind,Loc.fail,Loc.getB,Loc.newB,Loc.ret,Loc.setB]
theorem Loc.nilB(b i:Nat):Loc (nilB b i):=by
 grind [Go.Proofs.YtpncilciembjdaaGreatDoor.nilB,Loc.bind,Loc.getB,Loc.ret,Loc.setB]
theorem Loc.adoptB(b i e:Nat):Loc (adoptB b i e):=by
 grind [Go.Proofs.YtpncilciembjdaaGreatDoor.adoptB,Loc.adoptB1,Loc.nilB]
theorem Loc.adoptM:∀(l:List (Nat × Nat)) (T:Aa),Loc (adoptM l T)
 |[],T=>Loc.ret _
 |(t,e)::r,T=>by
  unfold Go.Proofs.YtpncilciembjdaaGreatDoor.adoptM;split
  .exact Loc.bind (Loc.newB _) λb=>Loc.adoptM r _
  .split
   .exact Loc.bind (Loc.adoptB _ _ _) λ_=>Loc.adoptM r T
   .exact Loc.adoptM r T
theorem Loc.frz0(x:AV):Loc (frz0 x):=by
 unfold Go.Proofs.YtpncilciembjdaaGreatDoor.frz0;split<;>first
  |exact Loc.ret _
  |exact Loc.fail
mutual
theorem Loc.frz:∀(n:Nat) (x:AV),Loc (frz n x)
 |0,x=>by
  unfold Go.Proofs.YtpncilciembjdaaGreatDoor.frz;exact Loc.frz0 x
 |n+1,x=>by
  unfold Go.Proofs.YtpncilciembjdaaGreatDoor.frz;split
  .exact Loc.ret _
  .refine Loc.bind (Loc.getB _) λk=>?_
   split
   .exact Loc.fail
   .refine Loc.bind ?_ λ_=>?_
    .split
     .exact Loc.setB _ _
     .exact Loc.ret _
    .split
     .exact Loc.ret _
     .refine Loc.bind (Loc.frzL n _) λcs=>?_
      split
      .exact Loc.ret _
      .exact Loc.fail
  .exact Loc.bind (Loc.frzL n _) λ_=>Loc.ret _
  .exact Loc.bind (Loc.frzL n _) λ_=>Loc.ret _
  .exact Loc.ret _
theorem Loc.frzL:∀(n:Nat) (l:Aa),Loc (frzL n l)
 |n,[]=>by
  unfold Go.Proofs.YtpncilciembjdaaGreatDoor.frzL;exact Loc.ret _
 |0,_::_=>by
  unfold Go.Proofs.YtpncilciembjdaaGreatDoor.frzL;exact Loc.fail
 |n+1,x::r=>by
  unfold Go.Proofs.YtpncilciembjdaaGreatDoor.frzL;exact Loc.bind (Loc.frz n x) λ_=>Loc.bind (Loc.frzL n r) λ_=>Loc.ret _
end
theorem Loc.frzB(b:Nat):Loc (frzB b):=by
 grind [Go.Proofs.YtpncilciembjdaaGreatDoor.frzB,Loc.bind,Loc.fail,Loc.frzL,Loc.getB,Loc.ret,Loc.setB]
theorem Loc.frzT:∀(l:Ae) (T:Aa),Loc (frzT l T)
 |[],T=>Loc.ret _
 |t::r,T=>by
  unfold Go.Proofs.YtpncilciembjdaaGreatDoor.frzT;split
  .exact Loc.bind (Loc.frzB _) λ_=>Loc.frzT r T
  .exact Loc.bind (Loc.frz _ _) λ_=>Loc.frzT r _
  .exact Loc.frzT r T
theorem Loc.evC{Γ:FuncId->Aa->AM AV}{Λ:Nat->Aa->AM (AX × Aa)}(hΓ:∀ f args,Loc (Γ f args))(hΛ:∀ i T,Loc (Λ i T)):∀(c:MC) (T:Aa),Loc (evC A Γ Λ c T)
 |.skip,T=>Loc.ret _
 |.reg ops bf,T=>Loc.regM hΓ _ _ _
 |.seq a b,T=>by
  unfold Go.Proofs.YtpncilciembjdaaGreatDoor.evC;refine Loc.bind (Loc.evC hΓ hΛ a T) λr=>?_
  split
  .exact Loc.evC hΓ hΛ b _
  .exact Loc.ret _
 |.cond c a b,T=>by
  unfold Go.Proofs.YtpncilciembjdaaGreatDoor.evC;split
  .split
   .exact Loc.evC hΓ hΛ a T
   .exact Loc.evC hΓ hΛ b T
  .exact Loc.fail
 |.block id c,T=>by
  unfold Go.Proofs.YtpncilciembjdaaGreatDoor.evC;refine Loc.bind (Loc.evC hΓ hΛ c T) λr=>?_
  split
  .simp_all [Loc.ite,Loc.ret]
  .exact Loc.ret _
 |.loop i h,T=>by
  grind [Go.Proofs.YtpncilciembjdaaGreatDoor.evC,Loc.adoptM,Loc.bind,Loc.fail,Loc.frzT,Loc.ret]
 |.exit id,T=>Loc.ret _
 |.ret,T=>Loc.ret _
 |.bad,_=>Loc.fail
theorem Loc.delC(b i:Nat):Loc (delC b i):=by
 grind [Go.Proofs.YtpncilciembjdaaGreatDoor.delC,Loc.bind,Loc.delB,Loc.getB,Loc.ret]
theorem Loc.delT:∀(l:Ae) (T:Aa),Loc (delT l T)
 |[],T=>Loc.ret _
 |t::r,T=>by
  unfold Go.Proofs.YtpncilciembjdaaGreatDoor.delT;split
  .exact Loc.bind (Loc.delB _) λ_=>Loc.delT r T
  .exact Loc.bind (Loc.delB _) λ_=>Loc.delT r T
  .split
   .exact Loc.bind (Loc.delC _ _) λ_=>Loc.delT r T
   .exact Loc.delT r T
theorem Loc.touchS(x:AV):Loc (touchS x):=by
 unfold Go.Proofs.YtpncilciembjdaaGreatDoor.touchS;split
 .grind [Loc.bind,Loc.delB,Loc.getB,Loc.newB,Loc.ret]
 .exact Loc.ret _
theorem Loc.touchL:∀ l:Aa,Loc (touchL l)
 |[]=>Loc.ret _
 |x::r=>by
  unfold Go.Proofs.YtpncilciembjdaaGreatDoor.touchL;exact Loc.bind (Loc.touchS x) λ_=>Loc.bind (Loc.touchL r) λ_=>Loc.ret _
theorem Loc.touchB(b:Nat):Loc (touchB b):=by
 grind [Go.Proofs.YtpncilciembjdaaGreatDoor.touchB,Loc.bind,Loc.fail,Loc.getB,Loc.ret,Loc.setB,Loc.touchL]
theorem Loc.touchI:∀ l:Ae,Loc (touchI l)
 |[]=>Loc.ret _
 |b::r=>by
  unfold Go.Proofs.YtpncilciembjdaaGreatDoor.touchI;exact Loc.bind (Loc.touchB b) λ_=>Loc.touchI r
theorem Loc.touchV(x:AV):Loc (touchV x):=by
 unfold Go.Proofs.YtpncilciembjdaaGreatDoor.touchV;split
 .exact Loc.touchS _
 .grind [Loc.bind,Loc.ret,Loc.touchI,Loc.touchL]
 .grind [Loc.bind,Loc.ret,Loc.touchI]
theorem Loc.touchA:∀(m:List Bool) (l:Aa),Loc (touchA m l)
 |m,[]=>by cases m with
  |nil=>exact Loc.ret _
  |cons b m=>cases b<;>exact Loc.ret _
 |true::m,x::r=>by
  unfold Go.Proofs.YtpncilciembjdaaGreatDoor.touchA;exact Loc.bind (Loc.touchI _) λ_=>Loc.bind (Loc.touchA m r) λ_=>Loc.ret _
 |false::m,x::r=>by
  unfold Go.Proofs.YtpncilciembjdaaGreatDoor.touchA;exact Loc.bind (Loc.touchV x) λ_=>Loc.bind (Loc.touchA m r) λ_=>Loc.ret _
 |[],x::r=>by
  unfold Go.Proofs.YtpncilciembjdaaGreatDoor.touchA;exact Loc.bind (Loc.touchV x) λ_=>Loc.bind (Loc.touchA [] r) λ_=>Loc.ret _
end
def Gh(μ:Mu)(F:AP)(w:World)(H H':AH)(Q:Mu->AP->Prop):Prop:=
 ∃ μ' F',Later μ μ' F F' w w/\HRep μ' F' w H'.get/\(∀ b,(b<H.next\/H'.next<=b)->μ' b=μ b)/\Q μ' F'
section
variable {μ:Mu} {F:AP} {w:World} {H H1 H2:AH}
theorem Gh.same{Q:Mu->AP->Prop}(hH:HRep μ F w H.get)(h:Q μ F):Gh μ F w H H Q:=⟨μ,F,Later.refl _ _ _,hH,λ_ _=>rfl,h⟩
theorem Gh.trans{Q:Mu->AP->Prop}(hn1:H.next<=H1.next)(hn2:H1.next<=H2.next){Q1:Mu->AP->Prop}(h:Gh μ F w H H1 Q1)(k:∀ μ' F',Later μ μ' F F' w w->HRep μ' F' w H1.get->(∀ b,(b<H.next\/H1.next<=b)->μ' b=μ b)->Q1 μ' F'->Gh μ' F' w H1 H2 Q):Gh μ F w H H2 Q:=by
 obtain⟨μ1,F1,h1,h2,h3,h4⟩:=h;obtain⟨μ2,F2,k1,k2,k3,k4⟩:=k μ1 F1 h1 h2 h3 h4;refine⟨μ2,F2,h1.trans k1,k2,λb hb=>?_,k4⟩;rw[k3 b (by omega),h3 b (by omega)]
theorem Gh.mono{Q Q':Mu->AP->Prop}(h:Gh μ F w H H1 Q)(k:∀ μ' F',Later μ μ' F F' w w->Q μ' F'->Q' μ' F'):Gh μ F w H H1 Q':=by
 obtain⟨μ1,F1,h1,h2,h3,h4⟩:=h;exact⟨μ1,F1,h1,h2,h3,k _ _ h1 h4⟩
theorem O9:∀(n e:Nat) (l:Aa) (i:Nat),(Bk n e l)[i]? = if i<n then Δ ((l.drop (i*e)).take e) else Θ
 |0,e,l,i=>by simp[Bk]
 |n+1,e,l,0=>by simp[Bk]
 |n+1,e,l,i+1=>by
  simp only[Bk,List.getElem?_cons_succ,O9 n e (l.drop e) i,List.drop_drop,Nat.add_lt_add_iff_right];rw[show e+i*e=(i+1)*e by rw[Nat.add_mul];omega]
theorem Gf:∀(n e:Nat) (l:Aa),(Bk n e l).length=n
 |0,e,l=>rfl
 |n+1,e,l=>by simp[Bk,Gf n]
theorem N4{l:Aa}(h:AU l=U)(n:Nat):AU (l.take n)=U:=by
 grind [List.mem_of_mem_take,BH]
theorem N3{l:Aa}(h:AU l=U)(n:Nat):AU (l.drop n)=U:=by
 grind [List.mem_of_mem_drop,BH]
theorem LX:∀(n e:Nat) {l:Aa},AU l=U->ID (Bk n e l)=U
 |0,e,l,h=>rfl
 |n+1,e,l,h=>by
  have:=LX n e (N3 h e);unfold ID at this ⊢;simp[Bk,N4 h,this]
theorem Ye{g q m e c:Nat}{cs:Aa}(hn:AU cs=U)(hl:cs.length=m*e)(hm:m<=c)(hc:c<=maxLen){u:Value}(hu:u=.slice (Δ ⟨g,q,Θ⟩) m c)(hr:m≠0->RepAt μ F w g cs q):Rep μ F w (.ls (Bk m e cs)) u:=by
 simp only[Rep];refine⟨LX m e hn,Δ ⟨g,q,Θ⟩,c,by rw[Gf];exact hu,by rw[Gf];exact hm,hc,λhne=>⟨g,q,e,rfl,?_⟩⟩;have hm0:m≠0:=λh0=>hne (by rw[h0];rfl)
 have hr:=hr hm0;refine RepRows.mk λi x hx=>?_
 rw[O9]at hx;split at hx
 .rename_i hi
  simp only[θ]at hx;subst hx;have h1:i*e+e<=m*e:=by rw[←Nat.succ_mul];exact Nat.mul_le_mul_right e hi
  refine⟨by rw[AtN,Avh,hl];omega,?_⟩;have h2:=hr.drop (i*e);refine RepAt.mk λj y hy=>?_
  rw[AtC]at hy;split at hy
  .exact h2.get hy
  .cases hy
 .cases hx
theorem FX{b:Nat}{k:ABlk}{u:Unit}{H H':AH}{ft:Foot}(h:AM.setB b k H=Δ (u,H',ft)):H'=H.put b k/\∃ k0,H.get b=Δ k0:=by
 unfold AM.setB at h
 cases e:H.get b with
 |none=>rw[e]at h;cases h
 |some k0=>
  rw[e]at h;simp only[θ,Prod.mk.injEq]at h;exact⟨h.2.1.symm,k0,rfl⟩
theorem R9(n:Nat)(x:AV){y:AV}{H':AH}{ft:Foot}(hw:H.wf)(h:frz n x H=Δ (y,H',ft)):H.next<=H'.next/\H'.wf:=⟨(Loc.frz n x H y H' ft hw h).next,(Loc.frz n x H y H' ft hw h).wf⟩
theorem Pp(n:Nat)(x:Aa){y:Aa}{H':AH}{ft:Foot}(hw:H.wf)(h:frzL n x H=Δ (y,H',ft)):H.next<=H'.next/\H'.wf:=⟨(Loc.frzL n x H y H' ft hw h).next,(Loc.frzL n x H y H' ft hw h).wf⟩
theorem AmN{b:Nat}{k k0:ABlk}(hw:H.wf)(hb:H.get b=Δ k0):(H.put b k).wf:=λc h1 h2=>by
 rw[AH.get_put]
 by_cases hcb:c=b
 .subst hcb
  rw[hw c h1 h2]at hb
  cases hb
 .rw[Ad hcb];exact hw c h1 h2
theorem Oc{z u:Value}(hx:Rep μ F w (.v z) u):Rep μ F w (Abz z) u:=by
 unfold Abz;split
 .rename_i e
  simp only[Rep]at hx ⊢;rw[hx.1,Ib e];exact⟨rfl,Θ,0,rfl,η _,AtI _,λh=>absurd rfl h⟩
 .exact hx
end
mutual
theorem HW:∀(n:Nat) (x:AV) {μ:Mu} {F:AP} {w:World} {H:AH} {u:Value} {y:AV} {H':AH} {ft:Foot},Rep μ F w x u->HRep μ F w H.get->H.wf->frz n x H=Δ (y,H',ft)->Gh μ F w H H' λμ' F'=>Rep μ' F' w y u
 |0,x,μ,F,w,H,u,y,H',ft,hx,hH,hw,h=>by
  simp only[frz]at h
  cases x<;>simp only[frz0]at h<;>first
   |exact(Al h).elim
   | (obtain⟨rfl,rfl⟩:=Ap h
      first
       |exact Gh.same hH hx
       |exact Gh.same hH (Oc hx))
 |n+1,.v z,μ,F,w,H,u,y,H',ft,hx,hH,hw,h=>by
  simp only[frz]at h;obtain⟨rfl,rfl⟩:=Ap h;exact Gh.same hH (Oc hx)
 |n+1,.sl b o m e,μ,F,w,H,u,y,H',ft,hx,hH,hw,h=>by
   simp only[frz]at h;obtain⟨k,H1,f1,f2,h1,h2⟩:=bind_some h;obtain⟨hk,e1⟩:=BP h1;rw[e1]at h2
   cases hle:Atl (o+m*e) k.cells.length with
   |false=>rw[hle]at h2;exact(Al h2).elim
   |true=>
    rw[hle]at h2;have hle':o+m*e<=k.cells.length:=by simpa using hle
    obtain⟨_,H2,f3,f4,h3,h4⟩:=bind_some h2;simp only[Rep]at hx;obtain⟨p,hp,hu⟩:=hx;obtain⟨p',hp',hB⟩:=hH.blk b k hk;rw[hp]at hp'
    cases hp'
    have step:∃ F1,Later μ μ F F1 w w/\HRep μ F1 w H2.get/\(∀ i,i<k.cells.length->F1 p.g (p.o+i))/\H2.next=H.next/\H2.wf:=by
     cases hst:k.st with
     |true=>
      rw[hst]at h3;obtain⟨e2,k0,hk0⟩:=FX h3;obtain⟨g1,g2⟩:=Pu hH hk hp;refine⟨_,g2,?_,λi hi=>.inr ⟨rfl,by omega,by omega⟩,by rw[e2];rfl,by rw[e2];exact AmN hw hk0⟩;have:H2.get=λc=>if c=b then Δ { k with st:=Ξ } else H.get c:=by
       funext c
       rw[e2,AH.get_put]
      rw[this];exact g1
     |false=>
      rw[hst]at h3;obtain⟨_,e2⟩:=Ap h3;rw[e2];exact⟨F,Later.refl _ _ _,hH,λi hi=>hB.kept hst i hi,rfl,hw⟩
    obtain⟨F1,g1,g2,g3,g4,g5⟩:=step;obtain⟨us,r1,r2⟩:=Dl (g:=p.g) (cs:=(k.cells.drop o).take (m*e)) (o:=p.o+o) (μ:=μ) (F:=F1) (w:=w) (by
     intro i x hi;rw[AtC]at hi;split at hi
     .rw[List.getElem?_drop]at hi
      obtain⟨u',q1,q2⟩:=hB.cell (o+i) x hi;exact⟨u',by rw[AtM];exact q1,q2.later g1⟩
     .cases hi)
    have hlen:us.length=m*e:=by
     rw[r1.length,AtN,Avh];omega
    have fin:∀{cs:Aa} {H3:AH},H2.next<=H3.next->AU cs=U->Gh μ F1 w H2 H3 (λμ' F'=>RepList μ' F' w cs us)->Gh μ F w H H3 λμ' F'=>Rep μ' F' w (.ls (Bk m e cs)) u:=by
     intro cs H3 n3 hno hG;refine Gh.trans (H1:=H2) (by omega) n3 (Q1:=λμ' F'=>μ'=μ/\F'=F1) ⟨μ,F1,g1,g2,λ_ _=>rfl,rfl,rfl⟩ ?_;rintro μ' F' _ _ _ ⟨rfl,rfl⟩;refine hG.mono λμ2 F2 l2 hr=>?_
     have hcl:cs.length=m*e:=by rw[←hr.length,hlen]
     rcases hu with⟨rfl,rfl⟩|⟨q,c,rfl,hq,hmc,hcm,hroom⟩
     .simp only[Bk,Rep]
      exact⟨rfl,Θ,0,rfl,η _,AtI _,λh=>absurd rfl h⟩
     .refine Ye hno hcl hmc hcm rfl λhm0=>?_
      have hq':=hq (by omega);rw[hq'];refine RepAt.mk λi x hi=>?_
      obtain⟨v,v1,v2⟩:=hr.get hi;have hi':i<m*e:=by rw[←hcl];exact(List.getElem?_eq_some_iff.1 hi).1
      refine⟨(l2.prot _ _ (by rw[AtM];exact g3 (o+i) (by omega))).1,v,r2 i v v1,v2⟩
    cases hno0:(k.ex||AU ((k.cells.drop o).take (m*e))) with
    |true=>
     rw[hno0]at h4;obtain⟨rfl,rfl⟩:=Ap h4;have hno:AU ((k.cells.drop o).take (m*e))=U:=by
      cases hx:k.ex with
      |true=>exact N4 (N3 (hB.pure hx) _) _
      |false=>rw[hx,Bool.false_or]at hno0;exact hno0
     exact fin (η _) hno (Gh.same g2 r1)
    |false=>
     rw[hno0]at h4;obtain⟨cs,H3,f5,f6,h5,h6⟩:=bind_some h4;have hG:=ER n _ r1 g2 g5 h5;obtain⟨n3,w3⟩:=Pp n _ g5 h5
     cases hno:AU cs with
     |true=>
      rw[hno]at h6;obtain⟨rfl,rfl⟩:=Ap h6;exact fin n3 hno hG
     |false=>rw[hno]at h6;exact(Al h6).elim
 |n+1,.agg cs,μ,F,w,H,u,y,H',ft,hx,hH,hw,h=>by
   simp only[frz]at h;obtain⟨cs',H1,f1,f2,h1,h2⟩:=bind_some h;obtain⟨rfl,rfl⟩:=Ap h2;simp only[Rep]at hx;obtain⟨us,rfl,hr⟩:=hx;refine(ER n _ hr hH hw h1).mono λμ' F' _ hq=>?_
   simp only[Rep];exact⟨us,rfl,hq⟩
 |n+1,.tup cs,μ,F,w,H,u,y,H',ft,hx,hH,hw,h=>by
   simp only[frz]at h;obtain⟨cs',H1,f1,f2,h1,h2⟩:=bind_some h;obtain⟨rfl,rfl⟩:=Ap h2;simp only[Rep]at hx;obtain⟨us,rfl,hr⟩:=hx;refine(ER n _ hr hH hw h1).mono λμ' F' _ hq=>?_
   simp only[Rep];exact⟨us,rfl,hq⟩
 |n+1,.ptr b o,μ,F,w,H,u,y,H',ft,hx,hH,hw,h=>by
   simp only[frz]at h;obtain⟨rfl,rfl⟩:=Ap h;exact Gh.same hH hx
 |n+1,.ls xs,μ,F,w,H,u,y,H',ft,hx,hH,hw,h=>by
   simp only[frz]at h;obtain⟨rfl,rfl⟩:=Ap h;exact Gh.same hH hx
 |n+1,.lp xs,μ,F,w,H,u,y,H',ft,hx,hH,hw,h=>by
   simp only[frz]at h;obtain⟨rfl,rfl⟩:=Ap h;exact Gh.same hH hx
 |n+1,.fn f a c,μ,F,w,H,u,y,H',ft,hx,hH,hw,h=>by
   simp only[frz]at h;obtain⟨rfl,rfl⟩:=Ap h;exact Gh.same hH hx
 |n+1,.any,μ,F,w,H,u,y,H',ft,hx,hH,hw,h=>by
   simp only[frz]at h;obtain⟨rfl,rfl⟩:=Ap h;exact Gh.same hH hx
theorem ER:∀(n:Nat) (l:Aa) {μ:Mu} {F:AP} {w:World} {H:AH} {us:AA} {y:Aa} {H':AH} {ft:Foot},RepList μ F w l us->HRep μ F w H.get->H.wf->frzL n l H=Δ (y,H',ft)->Gh μ F w H H' λμ' F'=>RepList μ' F' w y us
 |n,[],μ,F,w,H,us,y,H',ft,hx,hH,hw,h=>by
  unfold frzL at h;obtain⟨rfl,rfl⟩:=Ap h;exact Gh.same hH hx
 |0,_::_,μ,F,w,H,us,y,H',ft,hx,hH,hw,h=>by
  unfold frzL at h;exact(Al h).elim
 |n+1,x::r,μ,F,w,H,us,y,H',ft,hx,hH,hw,h=>by
  unfold frzL at h;obtain⟨x',H1,f1,f2,h1,h2⟩:=bind_some h;obtain⟨r',H2,f3,f4,h3,h4⟩:=bind_some h2;obtain⟨rfl,rfl⟩:=Ap h4;simp only[RepList]at hx;obtain⟨u,t,rfl,hu,ht⟩:=hx;obtain⟨n1,w1⟩:=R9 n x hw h1;obtain⟨n2,w2⟩:=Pp n r w1 h3;refine Gh.trans n1 n2 (HW n x hu hH hw h1) λμ1 F1 l1 hH1 _ hx1=>?_
  refine(ER n r (ht.later' l1) hH1 w1 h3).mono λμ2 F2 l2 hr2=>?_
  simp only[RepList];exact⟨u,t,rfl,hx1.later l2,hr2⟩
end
