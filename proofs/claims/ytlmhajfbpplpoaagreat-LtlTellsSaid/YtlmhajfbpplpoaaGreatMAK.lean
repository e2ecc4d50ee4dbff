/- The same, computed stric -/
import Derived.Test.YtlmhajfbpplpoaaGreatMAJ
set_option linter.all false
open Array renaming toArray_toList->AxT
open Bool renaming false->Θ,true->U,and_eq_true->AvF,false_eq_true->Awi
open Int renaming ofNat->Axl
open List renaming all_eq_true->AvJ,getElem?_take->Awj,length_drop->AwU,length_take->Av6
open Nat renaming add_assoc->AvQ,beq->Av5,ble->AvL,blt->Awv,eq_of_beq_eq_true->AvY,le_refl->η,min->AwA,zero_add->AvW,zero_le->Awh
open Option renaming none->Δ,some->V,bind_some->Av7,map_none->Axw,map_some->AvP
namespace Go.Proofs.YtlmhajfbpplpoaaGreat
open Option.some renaming injEq->ξ
open Go.RowKit

structure Ar0 where
 add:IntKind->Int->Int->Int
 sub:IntKind->Int->Int->Int
 mul:IntKind->Int->Int->Int
 quo:IntKind->Int->Int->Int
 rem:IntKind->Int->Int->Int
 bits:BinOp->IntKind->Int->Int->Int
 shl:IntKind->Int->Int->Int
 shr:IntKind->Int->Int->Int
 conv:IntKind->Int->Int
 lt:Int->Int->Bool
 le:Int->Int->Bool
 eq:Int->Int->Bool
 max:Int->Int->Int
 min:Int->Int->Int
 beq:Bool->Bool->Bool
 band:Bool->Bool->Bool
 seq:ByteArray->ByteArray->Bool
 slt:ByteArray->ByteArray->Bool
 slen:ByteArray->Nat
 cat:ByteArray->ByteArray->ByteArray
 sat:ByteArray->Nat->Int
 ssub:ByteArray->Nat->Nat->ByteArray
inductive Ar where
 |mk (r:Ar0)
 |no
def Ar.add(A:Ar)(x0:IntKind)(x1:Int)(x2:Int):Int:=match A with
 |.mk r=>r.add x0 x1 x2
 |.no=>0
def Ar.sub(A:Ar)(x0:IntKind)(x1:Int)(x2:Int):Int:=match A with
 |.mk r=>r.sub x0 x1 x2
 |.no=>0
def Ar.mul(A:Ar)(x0:IntKind)(x1:Int)(x2:Int):Int:=match A with
 |.mk r=>r.mul x0 x1 x2
 |.no=>0
def Ar.quo(A:Ar)(x0:IntKind)(x1:Int)(x2:Int):Int:=match A with
 |.mk r=>r.quo x0 x1 x2
 |.no=>0
def Ar.rem(A:Ar)(x0:IntKind)(x1:Int)(x2:Int):Int:=match A with
 |.mk r=>r.rem x0 x1 x2
 |.no=>0
def Ar.bits(A:Ar)(x0:BinOp)(x1:IntKind)(x2:Int)(x3:Int):Int:=match A with
 |.mk r=>r.bits x0 x1 x2 x3
 |.no=>0
def Ar.shl(A:Ar)(x0:IntKind)(x1:Int)(x2:Int):Int:=match A with
 |.mk r=>r.shl x0 x1 x2
 |.no=>0
def Ar.shr(A:Ar)(x0:IntKind)(x1:Int)(x2:Int):Int:=match A with
 |.mk r=>r.shr x0 x1 x2
 |.no=>0
def Ar.conv(A:Ar)(x0:IntKind)(x1:Int):Int:=match A with
 |.mk r=>r.conv x0 x1
 |.no=>0
def Ar.lt(A:Ar)(x0:Int)(x1:Int):Bool:=match A with
 |.mk r=>r.lt x0 x1
 |.no=>Θ
def Ar.le(A:Ar)(x0:Int)(x1:Int):Bool:=match A with
 |.mk r=>r.le x0 x1
 |.no=>Θ
def Ar.eq(A:Ar)(x0:Int)(x1:Int):Bool:=match A with
 |.mk r=>r.eq x0 x1
 |.no=>Θ
def Ar.max(A:Ar)(x0:Int)(x1:Int):Int:=match A with
 |.mk r=>r.max x0 x1
 |.no=>0
def Ar.min(A:Ar)(x0:Int)(x1:Int):Int:=match A with
 |.mk r=>r.min x0 x1
 |.no=>0
def Ar.not(_:Ar)(b:Bool):Bool:=!b
def Ar.beq(A:Ar)(x0:Bool)(x1:Bool):Bool:=match A with
 |.mk r=>r.beq x0 x1
 |.no=>Θ
def Ar.band(A:Ar)(x0:Bool)(x1:Bool):Bool:=match A with
 |.mk r=>r.band x0 x1
 |.no=>Θ
def Ar.seq(A:Ar)(x0:ByteArray)(x1:ByteArray):Bool:=match A with
 |.mk r=>r.seq x0 x1
 |.no=>Θ
def Ar.slt(A:Ar)(x0:ByteArray)(x1:ByteArray):Bool:=match A with
 |.mk r=>r.slt x0 x1
 |.no=>Θ
def Ar.slen(A:Ar)(x0:ByteArray):Nat:=match A with
 |.mk r=>r.slen x0
 |.no=>0
def Ar.cat(A:Ar)(x0:ByteArray)(x1:ByteArray):ByteArray:=match A with
 |.mk r=>r.cat x0 x1
 |.no=>ByteArray.empty
def Ar.sat(A:Ar)(x0:ByteArray)(x1:Nat):Int:=match A with
 |.mk r=>r.sat x0 x1
 |.no=>0
def Ar.ssub(A:Ar)(x0:ByteArray)(x1:Nat)(x2:Nat):ByteArray:=match A with
 |.mk r=>r.ssub x0 x1 x2
 |.no=>ByteArray.empty
def Ul(b:BinOp)(k:IntKind)(x y:Int):Int:=match b with
 |.and=>k.wrap (BitVec.ofInt k.bits x &&& BitVec.ofInt k.bits y).toNat
 |.or=>k.wrap (BitVec.ofInt k.bits x ||| BitVec.ofInt k.bits y).toNat
 |.xor=>k.wrap (BitVec.ofInt k.bits x ^^^ BitVec.ofInt k.bits y).toNat
 |_=>k.wrap (BitVec.ofInt k.bits x &&& ~~~BitVec.ofInt k.bits y).toNat
def Ih:Ar0 where
 add k x y:=k.wrap (x+y)
 sub k x y:=k.wrap (x-y)
 mul k x y:=k.wrap (x*y)
 quo k x y:=k.wrap (x.tdiv y)
 rem _ x y:=x.tmod y
 bits b k x y:=Ul b k x y
 shl k x y:=k.wrap (x*2 ^ (AwA y.toNat k.bits))
 shr k x y:=x.fdiv (2 ^ (AwA y.toNat k.bits))
 conv k x:=k.wrap x
 lt x y:=decide (x<y)
 le x y:=decide (x<=y)
 eq x y:=x == y
 max x y:=if x<y then y else x
 min x y:=if y<x then y else x
 beq a b:=a == b
 band a b:=a&&b
 seq a b:=a.toList == b.toList
 slt a b:=Op.bytesLess a.toList b.toList
 slen a:=a.size
 cat a b:=a++b
 sat a i:=match a[i]? with
  |some c=>Axl c.toNat
  |none=>0
 ssub a l h:=a.extract l h
def Ai:Ar:=.mk Ih
inductive MO where
 |mv (x:Operand)
 |pick (c a b:Operand)
 |alloc (z:AN)
 |box (x:Operand)
 |buildS (z:AN) (pl:List (Nat × Nat)) (ps:List (Nat × Operand))
 |buildR (z:AN) (e:Nat) (ps:List (Nat × Operand))
 |buildSl (z:AN) (e n:Nat) (ps:List (Nat × Operand))
 |ld (row:Bool) (n:Nat) (a:Operand)
 |st (n:Nat) (a x:Operand)
 |nilck (x:Operand)
 |bin (ek:Nat) (b:BinOp) (x y:Operand)
 |eqs (neg:Bool) (ks:Al) (x y:Operand)
 |not (x:Operand)
 |neg (x:Operand)
 |mkfn (f:Fn) (a c:List Operand)
 |slice (e:Nat) (x:Operand) (lo hi:Option Operand)
 |faddr (off:Nat) (a:Operand)
 |field (row:Bool) (off n:Nat) (x:Operand)
 |iaddr (e:Nat) (x i:Operand)
 |aaddr (n e:Nat) (x i:Operand)
 |index (n e:Nat) (row:Bool) (sz:Nat) (x i:Operand)
 |ext (x:Operand) (i:Nat)
 |mksl (z:AN) (e bytes:Nat) (l c:Operand)
 |app (e bytes:Nat) (s x:Operand)
 |appz (z:AN) (e bytes:Nat) (s x:Operand)
 |cpy (e:Nat) (d x:Operand)
 |clr (z:AN) (e:Nat) (x:Operand)
 |len (sl:Bool) (x:Operand)
 |sidx (x i:Operand)
 |sslice (x:Operand) (lo hi:Option Operand)
 |iconv (k:IntKind) (x:Operand)
 |str (x:Operand)
 |mx (x y:Operand)
 |mn (x y:Operand)
 |callF (f:FuncId) (args:List Operand)
 |callV (ents:Nat) (x:Operand) (args:List Operand)
 |bad
structure MOp where
 dst:Option Nat
 op:MO
 g:Option (Nat × Bool)
structure LpH where
 n:Nat
 live:List Bool
 ad:List (Nat × Nat)
 fz:Al
 outs:List (Nat × (List Bool × (Al × Al)))
inductive MC where
 |skip
 |reg (ops:List MOp) (bf:Option (Al))
 |seq (a b:MC)
 |cond (c:Operand) (a b:MC)
 |block (id:Nat) (c:MC)
 |loop (i:Nat) (h:LpH)
 |exit (id:Nat)
 |ret
 |bad
section
variable (A:Ar)
def loadM(row:Bool)(n:Nat)(a:AV):AM AV:=match row with
 |true=>(rdAt a n).bind λcs=>AM.ret (.agg cs)
 |false=>(rdAt a 1).bind λcs=>AM.opt (Ye cs)
def storeM(n:Nat)(a x:AV):AM AV:=match a with
 |.ptr b o=>
  if x.cells.length=n/\x.cells.all AV.one=U then
   (AM.getB b).bind λk=>if k.st=U/\o+n<=k.cells.length/\(!k.ex||A6 x.cells)=U then(AM.setB b { k with cells:=Bv k.cells o x.cells }).bind λ_=>AM.ret AV.undef else AM.fail
  else AM.fail
 |_=>AM.fail
def VU(row:Bool)(off n:Nat)(cs:Ab):Option AV:=match row with
 |true=>V (.agg ((cs.drop off).take n))
 |false=>cs[off]?
def Xy(row:Bool)(off n:Nat)(x:AV):Option AV:=match x with
 |.agg cs=>VU row off n cs
 |_=>Δ
def MF(place:Nat->Option (Nat × Nat))(z:AN)(ps:List (Nat × AV)):Option AV:=
 if ps.any (λp=>IA p.2) then Δ else(FQ place (z.map .v) ps).map .agg
def buildSlM(z:AN)(e n:Nat)(ps:List (Nat × AV)):AM AV:=
 if n*e<=16777216/\n<=maxLen/\ps.any (λp=>IA p.2)=Θ then
  match FQ (λi=>V (i*e,e)) (Cr (z.map .v) (n*e)) ps with
  |some cs=>if A6 cs=U then(AM.newB ⟨cs,U,U⟩).bind λb=>AM.ret (.sl b 0 n e) else(AM.newB ⟨cs,U,Θ⟩).bind λb=>AM.ret (.sl b 0 n e)
  |none=>AM.fail
 else AM.fail
def VN:List Ab->Nat->Option Ab
 |[],_=>Δ
 |x::_,0=>V x
 |_::r,n+1=>VN r n
theorem Tu:∀(xs:List Ab) (n:Nat),VN xs n=xs[n]?
 |[],_=>by simp[VN]
 |x::r,0=>by simp[VN]
 |x::r,n+1=>by simp[VN,Tu r n]
def Pq(e:Nat)(x ix:AV):Option AV:=match ix.idx with
 |some i=>(match x with
  |.sl b o n e'=>(match Awv i n with
   |true=>if e'=e then V (.ptr b (o+i*e)) else Δ
   |false=>Δ)
  |.ls xs=>(match VN xs i with
   |some cs=>(match Av5 cs.length e with
    |true=>V (.lp cs)
    |false=>Δ)
   |none=>Δ)
  |_=>Δ)
 |none=>Δ
def SD(n e:Nat)(x ix:AV):Option AV:=match ix.idx with
 |some i=>(match Awv i n with
  |true=>PF x (i*e)
  |false=>Δ)
 |none=>Δ
def Pu(n e:Nat)(row:Bool)(sz:Nat)(x ix:AV):Option AV:=match x,ix.idx with
 |.agg cs,V i=>(match Awv i n with
  |true=>VU row (i*e) sz cs
  |false=>Δ)
 |_,_=>Δ
def Jo:List Ab->Nat->List Ab
 |[],_=>[]
 |_::_,0=>[]
 |x::r,n+1=>x::Jo r n
def IS:List Ab->Nat->List Ab
 |[],_=>[]
 |x::r,0=>x::r
 |_::r,n+1=>IS r n
def AP:List Ab->Nat
 |[]=>0
 |_::r=>AP r+1
def GH(e:Nat):List Ab->Bool
 |[]=>U
 |x::r=>Av5 x.length e&&GH e r
def Oc(n:Nat):Option AV->Option Nat
 |some x=>x.idx
 |none=>V n
def Ql(e:Nat)(x:AV)(lo hi:Option AV):Option AV:=match x with
 |.sl b o n e'=>(match Oc 0 lo,Oc n hi with
  |some l,V h=>(match AvL l h,AvL h n,Av5 e' e with
   |true,U,U=>V (.sl b (o+l*e) (h-l) e)
   |_,_,_=>Δ)
  |_,_=>Δ)
 |.ls xs=>(match Oc 0 lo,Oc (AP xs) hi with
  |some l,V h=>(match AvL l h,AvL h (AP xs),GH e xs with
   |true,U,U=>V (.ls (IS (Jo xs h) l))
   |_,_,_=>Δ)
  |_,_=>Δ)
 |_=>Δ
def Aos(sl:Bool)(x:AV):Option AV:=match sl with
 |true=>(match x with
  |.sl _ _ n _=>V (.v (.int .i64 (Axl n)))
  |.ls xs=>V (.v (.int .i64 (Axl (AP xs))))
  |.v (.slice Δ 0 0)=>V (.v (.int .i64 (Axl 0)))
  |_=>Δ)
 |false=>(match x with
  |.v (.string s)=>V (.v (.int .i64 (Axl (A.slen s))))
  |_=>Δ)
def eqL:Al->Ab->Ab->Option Bool
 |[],[],[]=>V U
 |1::ks,.v (.bool a)::r,.v (.bool b)::q=>(match eqL ks r q with
  |some t=>V (A.band (A.beq a b) t)
  |none=>Δ)
 |0::ks,.v (.int k a)::r,.v (.int k' b)::q=>if k=k' then(match eqL ks r q with
  |some t=>V (A.band (A.eq a b) t)
  |none=>Δ) else Δ
 |2::ks,.v (.string a)::r,.v (.string b)::q=>(match eqL ks r q with
  |some t=>V (A.band (A.seq a b) t)
  |none=>Δ)
 |_,_,_=>Δ
def An2(neg:Bool)(ks:Al)(x y:AV):Option AV:=match x,y with
 |.agg xs,.agg ys=>(match eqL A ks xs ys with
  |some t=>(match neg with
   |true=>V (.v (.bool (A.not t)))
   |false=>V (.v (.bool t)))
  |none=>Δ)
 |_,_=>Δ
def eqM(ek:Nat)(x y:AV):Option Bool:=match ek,x,y with
 |4,.v (.bool a),.v (.bool b)=>V (A.beq a b)
 |1,.ptr ..,.v (.pointer Δ)=>V Θ
 |1,.lp ..,.v (.pointer Δ)=>V Θ
 |1,.v (.pointer Δ),.v (.pointer Δ)=>V U
 |2,.sl _ _ (_+1) _,.v (.slice Δ 0 0)=>V Θ
 |2,.v (.slice Δ 0 0),.v (.slice Δ 0 0)=>V U
 |3,.fn ..,.v .nilFunc=>V Θ
 |3,.v .nilFunc,.v .nilFunc=>V U
 |_,_,_=>Δ
def Lh(b:BinOp)(x y:AV):Option AV:=match x,y with
 |.v (.int k a),.v (.int k' c)=>(match b with
  |.shl=>(match A.lt c 0 with
   |true=>Δ
   |false=>V (.v (.int k (A.shl k a c))))
  |.shr=>(match A.lt c 0 with
   |true=>Δ
   |false=>V (.v (.int k (A.shr k a c))))
  |b=>if k=k' then(match b with
   |.and=>V (.v (.int k (A.bits .and k a c)))
   |.or=>V (.v (.int k (A.bits .or k a c)))
   |.xor=>V (.v (.int k (A.bits .xor k a c)))
   |.andNot=>V (.v (.int k (A.bits .andNot k a c)))
   |.quo=>(match A.eq c 0 with
    |true=>Δ
    |false=>V (.v (.int k (A.quo k a c))))
   |.rem=>(match A.eq c 0 with
    |true=>Δ
    |false=>V (.v (.int k (A.rem k a c))))
   |.add=>V (.v (.int k (A.add k a c)))
   |.sub=>V (.v (.int k (A.sub k a c)))
   |.mul=>V (.v (.int k (A.mul k a c)))
   |.eql=>V (.v (.bool (A.eq a c)))
   |.neq=>V (.v (.bool (A.not (A.eq a c))))
   |.lss=>V (.v (.bool (A.lt a c)))
   |.leq=>V (.v (.bool (A.le a c)))
   |.gtr=>V (.v (.bool (A.lt c a)))
   |.geq=>V (.v (.bool (A.le c a)))
   |_=>Δ) else Δ)
 |.v (.string a),.v (.string c)=>(match b with
   |.add=>(match AvL (A.slen a+A.slen c) 9223372036854775807 with
    |true=>V (.v (.string (A.cat a c)))
    |false=>Δ)
   |.eql=>V (.v (.bool (A.seq a c)))
   |.neq=>V (.v (.bool (A.not (A.seq a c))))
   |.lss=>V (.v (.bool (A.slt a c)))
   |.geq=>V (.v (.bool (A.not (A.slt a c))))
   |_=>Δ)
 |_,_=>Δ
def Ah0(ek:Nat)(b:BinOp)(x y:AV):Option AV:=match ek,b with
 |0,_=>Lh A b x y
 |_,.eql=>(eqM A ek x y).map λt=>.v (.bool t)
 |_,.neq=>(eqM A ek x y).map λt=>.v (.bool (A.not t))
 |_,_=>Δ
def AhO(f:Int->Int->Int)(x y:AV):Option AV:=match x,y with
 |.v (.int k a),.v (.int k' c)=>if k=k' then V (.v (.int k (f a c))) else Δ
 |_,_=>Δ
def Wj(x i:AV):Option AV:=match x,i.idx with
 |.v (.string s),V i=>(match Awv i (A.slen s) with
  |true=>V (.v (.int .u8 (A.sat s i)))
  |false=>Δ)
 |_,_=>Δ
def Ml(x:AV)(lo hi:Option AV):Option AV:=match x with
 |.v (.string s)=>(match Oc 0 lo,Oc (A.slen s) hi with
  |some l,V h=>(match AvL l h,AvL h (A.slen s) with
   |true,U=>V (.v (.string (A.ssub s l h)))
   |_,_=>Δ)
  |_,_=>Δ)
 |_=>Δ
def Adw(k:IntKind)(x:AV):Option AV:=match x with
 |.v (.int _ n)=>V (.v (.int k (A.conv k n)))
 |_=>Δ
def ArR(x:AV):Option AV:=match x with
 |.v (.bool b)=>V (.v (.bool (A.not b)))
 |_=>Δ
def ArO(x:AV):Option AV:=match x with
 |.v (.int k n)=>V (.v (.int k (A.sub k 0 n)))
 |_=>Δ
def Kz:List Ab->Ab
 |[]=>[]
 |x::r=>x++Kz r
def newsM(e:Nat)(x:AV):AM (Nat × Ab):=match x with
 |.sl b o n e'=>if e'=e then(AM.getB b).bind λk=>match AvL (o+n*e) k.cells.length,(k.ex||A6 ((k.cells.drop o).take (n*e))) with
   |true,U=>AM.ret (n,(k.cells.drop o).take (n*e))
   |_,_=>AM.fail
   else AM.fail
 |.ls xs=>(match GH e xs with
  |true=>AM.ret (AP xs,Kz xs)
  |false=>AM.fail)
 |.v (.slice Δ 0 0)=>AM.ret (0,[])
 |_=>AM.fail
def LQ:Ab->Bool
 |[]=>U
 |x::r=>x.one&&LQ r
def Tp(z:AN)(e:Nat)(x:AV):AM (Nat × Ab):=match x.idx with
 |some m=>(match AvL m 9223372036854775807 with
  |true=>AM.ret (m,Cr (z.map .v) (m*e))
  |false=>AM.fail)
 |none=>AM.fail
def appR(e bytes:Nat)(s:AV)(r:Nat × Ab):AM AV:=
 match Av5 r.1 0 with
 |true=>if QU s=U then AM.ret s else AM.fail
 |false=>match LQ r.2 with
  |false=>AM.fail
  |true=>(match s with
   |.v (.slice Δ 0 0)=>(match AvL (r.1*bytes) 140737488355328,AvL r.1 maxLen with
    |true,U=>(AM.newB ⟨r.2,U,U⟩).bind λb=>AM.ret (.sl b 0 r.1 e)
    |_,_=>AM.fail)
   |.sl b o n e'=>(match Av5 e' e,AvL ((n+r.1)*bytes) 140737488355328,AvL (n+r.1) maxLen with
    |true,U,U=>(AM.getB b).bind λk=>match k.ex,k.st,Av5 (o+n*e) k.cells.length with
     |true,U,U=>(AM.delB b).bind λ_=>(AM.newB ⟨(k.cells.take (o+n*e)).drop o++r.2,U,U⟩).bind λb'=>AM.ret (.sl b' 0 (n+r.1) e)
     |true,Θ,U=>(AM.setB b { k with ex:=Θ }).bind λ_=>(AM.newB ⟨(k.cells.take (o+n*e)).drop o++r.2,Θ,U⟩).bind λb'=>AM.ret (.sl b' 0 (n+r.1) e)
     |true,U,Θ=>(match AvL (o+n*e) k.cells.length with
      |true=>(AM.delB b).bind λ_=>(AM.newB ⟨(k.cells.take (o+n*e)).drop o++r.2,U,U⟩).bind λb'=>AM.ret (.sl b' 0 (n+r.1) e)
      |false=>AM.fail)
     |_,_,_=>AM.fail
    |_,_,_=>AM.fail)
   |_=>AM.fail)
def appM(e bytes:Nat)(s x:AV):AM AV:=(newsM e x).bind λr=>appR e bytes s r
def appzM(z:AN)(e bytes:Nat)(s x:AV):AM AV:=(Tp z e x).bind λr=>appR e bytes s r
def mkslM(z:AN)(e bytes:Nat)(l c:AV):AM AV:=match l.idx,c.idx with
 |some n,V m=>(match AvL n m,AvL (m*bytes) 140737488355328,AvL m maxLen with
  |true,U,U=>(AM.newB ⟨Cr (z.map .v) (n*e),U,U⟩).bind λb=>AM.ret (.sl b 0 n e)
  |_,_,_=>AM.fail)
 |_,_=>AM.fail
def cpyM(e:Nat)(d x:AV):AM AV:=match d with
 |.sl b o n e'=>(match Av5 e' e with
  |true=>(newsM e x).bind λr=>match LQ (r.2.take (AwA r.1 n*e)) with
   |true=>(AM.getB b).bind λk=>match k.st,AvL (o+n*e) k.cells.length with
    |true,U=>(AM.setB b { k with cells:=Bv k.cells o (r.2.take (AwA r.1 n*e)) }).bind λ_=>AM.ret (.v (.int .i64 (Axl (AwA r.1 n))))
    |_,_=>AM.fail
   |false=>AM.fail
  |false=>AM.fail)
 |_=>AM.fail
def clrM(z:AN)(e:Nat)(x:AV):AM AV:=match x with
 |.sl b o n e'=>(match Av5 e' e with
  |true=>(AM.getB b).bind λk=>match k.st,AvL (o+n*e) k.cells.length with
   |true,U=>(AM.setB b { k with cells:=Bv k.cells o (Cr (z.map .v) (n*e)) }).bind λ_=>AM.ret (.tup [])
   |_,_=>AM.fail
  |false=>AM.fail)
 |_=>AM.fail
def strM(x:AV):AM AV:=match QU x with
 |true=>(newsM 1 x).bind λr=>AM.opt ((bytesOf r.2).map λl=>.v (.string ⟨l.toArray⟩))
 |false=>AM.fail
def LV(T:Ab):List (Nat × Operand)->List (Nat × AV)
 |[]=>[]
 |(i,x)::r=>(i,AS T x)::LV T r
def QW(T:Ab):List Operand->Ab
 |[]=>[]
 |x::r=>AS T x::QW T r
def mop(Γ:FuncId->Ab->AM AV)(o:MO)(T:Ab):AM AV:=match o with
 |.mv x=>AM.ret (AS T x)
 |.pick c a b=>(match AS T c with
  |.v (.bool t)=>(match t with
   |true=>AM.ret (AS T a)
   |false=>AM.ret (AS T b))
  |_=>AM.fail)
 |.alloc z=>(AM.newB ⟨z.map .v,U,Θ⟩).bind λb=>AM.ret (.ptr b 0)
 |.box x=>boxA (AS T x)
 |.buildS z pl ps=>AM.opt (MF (pl[·]?) z (LV T ps))
 |.buildR z e ps=>AM.opt (MF (λi=>V (i*e,e)) z (LV T ps))
 |.buildSl z e n ps=>buildSlM z e n (LV T ps)
 |.ld row n a=>loadM row n (AS T a)
 |.st n a x=>storeM n (AS T a) (AS T x)
 |.nilck x=>(match AS T x with
  |.ptr b o=>AM.ret (.ptr b o)
  |.lp cs=>AM.ret (.lp cs)
  |.fn (.func f) a c=>AM.ret (.fn (.func f) a c)
  |_=>AM.fail)
 |.bin ek b x y=>AM.opt (Ah0 A ek b (AS T x) (AS T y))
 |.eqs neg ks x y=>AM.opt (An2 A neg ks (AS T x) (AS T y))
 |.not x=>AM.opt (ArR A (AS T x))
 |.neg x=>AM.opt (ArO A (AS T x))
 |.mkfn f a c=>AM.ret (.fn f (QW T a) (QW T c))
 |.slice e x lo hi=>AM.opt (Ql e (AS T x) (lo.map (AS T)) (hi.map (AS T)))
 |.faddr off a=>AM.opt (PF (AS T a) off)
 |.field row off n x=>AM.opt (Xy row off n (AS T x))
 |.iaddr e x i=>AM.opt (Pq e (AS T x) (AS T i))
 |.aaddr n e x i=>AM.opt (SD n e (AS T x) (AS T i))
 |.index n e row sz x i=>AM.opt (Pu n e row sz (AS T x) (AS T i))
 |.ext x i=>AM.opt (Lu (AS T x) i)
 |.mksl z e bytes l c=>mkslM z e bytes (AS T l) (AS T c)
 |.app e bytes s x=>appM e bytes (AS T s) (AS T x)
 |.appz z e bytes s x=>appzM z e bytes (AS T s) (AS T x)
 |.cpy e d x=>cpyM e (AS T d) (AS T x)
 |.clr z e x=>clrM z e (AS T x)
 |.len sl x=>AM.opt (Aos A sl (AS T x))
 |.sidx x i=>AM.opt (Wj A (AS T x) (AS T i))
 |.sslice x lo hi=>AM.opt (Ml A (AS T x) (lo.map (AS T)) (hi.map (AS T)))
 |.iconv k x=>AM.opt (Adw A k (AS T x))
 |.str x=>strM (AS T x)
 |.mx x y=>AM.opt (AhO (A.max) (AS T x) (AS T y))
 |.mn x y=>AM.opt (AhO (A.min) (AS T x) (AS T y))
 |.callF f args=>Γ f (QW T args)
 |.callV ents x args=>(match AS T x with
  |.fn (.func g) a cs=>(match ents.testBit g with
   |true=>Γ g (a++QW T args++cs)
   |false=>AM.fail)
  |_=>AM.fail)
 |.bad=>AM.fail
def WD(T:Ab)(g:Option (Nat × Bool)):Option Bool:=match g with
 |none=>V U
 |some (d,want)=>match T[d]? with
  |some (.v (.bool b))=>(match want with
   |true=>V b
   |false=>V (A.not b))
  |some (.v (.tuple _))=>V Θ
  |_=>Δ
def coreM(Γ:FuncId->Ab->AM AV)(o:MOp)(T:Ab):AM AV:=match WD A T o.g with
 |some t=>(match t with
  |true=>mop A Γ o.op T
  |false=>AM.ret AV.undef)
 |none=>AM.fail
def runM(Γ:FuncId->Ab->AM AV):List MOp->Ab->AH->Option (Ab × AH × List Foot)
 |[],T,H=>V (T,H,[])
 |o::r,T,H=>match coreM A Γ o T H with
  |none=>Δ
  |some (v,H1,f)=>match runM Γ r (Cx T o.dst v) H1 with
   |none=>Δ
   |some (T2,H2,fs)=>V (T2,H2,f::fs)
def regM(Γ:FuncId->Ab->AM AV)(ops:List MOp)(bf:Option (Al))(T:Ab):AM (AX × Ab):=λH=>match runM A Γ ops T H with
 |none=>Δ
 |some (T',H',fs)=>match bf with
  |none=>V ((.normal,T'),H',⟨fs.flatMap (·.rd),fs.flatMap (·.wr)⟩)
  |some bf=>(match Fe bf fs with
   |true=>V ((.normal,T'),H',⟨fs.flatMap (·.rd),fs.flatMap (·.wr)⟩)
   |false=>Δ)
def CE{α:Type}:List Bool->List α->List α
 |true::l,x::r=>x::CE l r
 |false::l,_::r=>CE l r
 |_,_=>[]
def Ce:List Bool->Nat->Ab->Ab
 |_,0,_=>[]
 |true::l,n+1,x::xs=>x::Ce l n xs
 |true::l,n+1,[]=>.any::Ce l n []
 |false::l,n+1,xs=>.any::Ce l n xs
 |[],n+1,_=>.any::Ce [] n []
def axN:AX->Nat
 |.exit i=>i+1
 |_=>0
def Aiz:List (Nat × (List Bool × (Al × Al)))->Nat->List Bool × (Al × Al)
 |[],_=>([],([],[]))
 |(k,m)::r,n=>match Av5 k n with
  |true=>m
  |false=>Aiz r n
def LpH.out(h:LpH)(x:AX):List Bool:=(Aiz h.outs (axN x)).1
def LpH.fzo(h:LpH)(x:AX):Al:=(Aiz h.outs (axN x)).2.1
def LpH.dlo(h:LpH)(x:AX):Al:=(Aiz h.outs (axN x)).2.2
def VH(T:Ab)(t:Nat):Bool:=match T[t]? with
 |some (.v z)=>MY z
 |_=>Θ
theorem AfQ{T:Ab}{t:Nat}(h:VH T t=U):T[t]? = V (.v (.slice Δ 0 0)):=by
 grind [VH,G5]
def Gx(cs:Ab)(i:Nat):Bool:=match cs[i]? with
 |some (.v z)=>MY z
 |_=>Θ
def adoptB1(b i e:Nat):AM Unit:=(AM.getB b).bind λk=>match k.ex,Gx k.cells i with
 |false,U=>(AM.newB ⟨[],U,U⟩).bind λc=>(AM.getB b).bind λk2=>(match k2.ex,Gx k2.cells i with
  |false,U=>AM.setB b { k2 with cells:=k2.cells.set i (.sl c 0 0 e) }
  |_,_=>AM.fail)
 |_,_=>AM.ret ()
def nilB(b i:Nat):AM Unit:=(AM.getB b).bind λk=>match k.ex,Gx k.cells i with
 |false,U=>AM.setB b { k with cells:=k.cells.set i (.ls []) }
 |_,_=>AM.ret ()
def adoptB(b i e:Nat):AM Unit:=match Av5 e 0 with
 |true=>nilB b i
 |false=>adoptB1 b i e
def Ra(T:Ab)(t:Nat):Option (Nat × Nat):=match AvL 1000000 t with
 |true=>(match T[t % 1000000]? with
  |some (.ptr b o)=>V (b,o+(t / 1000000-1))
  |_=>Δ)
 |false=>Δ
def adoptM:List (Nat × Nat)->Ab->AM Ab
 |[],T=>AM.ret T
 |(t,e)::r,T=>match VH T t with
  |true=>(AM.newB ⟨[],U,U⟩).bind λb=>adoptM r (T.set t (.sl b 0 0 e))
  |false=>(match Ra T t with
   |some q=>(adoptB q.1 q.2 e).bind λ_=>adoptM r T
   |none=>adoptM r T)
def Bo:Nat->Nat->Ab->List Ab
 |0,_,_=>[]
 |n+1,e,l=>l.take e::Bo n e (l.drop e)
def PJ(z:Value):AV:=match MY z with
 |true=>.ls []
 |false=>.v z
def frz0(x:AV):AM AV:=match x with
 |.v z=>AM.ret (PJ z)
 |.sl ..=>AM.fail
 |.agg _=>AM.fail
 |.tup _=>AM.fail
 |x=>AM.ret x
mutual
def frz:Nat->AV->AM AV
 |0,x=>frz0 x
 |n+1,x=>match x with
  |.v z=>AM.ret (PJ z)
  |.sl b o m e=>(AM.getB b).bind λk=>match AvL (o+m*e) k.cells.length with
   |false=>AM.fail
   |true=>(match k.st with
    |true=>AM.setB b { k with st:=Θ }
    |false=>AM.ret ()).bind λ_=>match (k.ex||A6 ((k.cells.drop o).take (m*e))) with
     |true=>AM.ret (.ls (Bo m e ((k.cells.drop o).take (m*e))))
     |false=>(frzL n ((k.cells.drop o).take (m*e))).bind λcs=>match A6 cs with
      |true=>AM.ret (.ls (Bo m e cs))
      |false=>AM.fail
  |.agg cs=>(frzL n cs).bind λcs=>AM.ret (.agg cs)
  |.tup cs=>(frzL n cs).bind λcs=>AM.ret (.tup cs)
  |x=>AM.ret x
def frzL:Nat->Ab->AM Ab
 |_,[]=>AM.ret []
 |0,_::_=>AM.fail
 |n+1,x::r=>(frz n x).bind λx=>(frzL n r).bind λr=>AM.ret (x::r)
end
def frzB(b:Nat):AM Unit:=(AM.getB b).bind λk=>match k.ex,k.st with
 |false,U=>(frzL 1000 k.cells).bind λcs=>(AM.getB b).bind λk2=>(match k2.ex,Av5 cs.length k2.cells.length with
  |false,U=>AM.setB b { k2 with cells:=cs }
  |_,_=>AM.fail)
 |_,_=>AM.ret ()
def frzT:Al->Ab->AM Ab
 |[],T=>AM.ret T
 |t::r,T=>match T[t]? with
  |some (.ptr b _)=>(frzB b).bind λ_=>frzT r T
  |some x=>(frz 1000 x).bind λy=>frzT r (T.set t y)
  |none=>frzT r T
def evC(Γ:FuncId->Ab->AM AV)(Λ:Nat->Ab->AM (AX × Ab)):MC->Ab->AM (AX × Ab)
 |.skip,T=>AM.ret (.normal,T)
 |.reg ops bf,T=>regM A Γ ops bf T
 |.seq a b,T=>(evC Γ Λ a T).bind λr=>match r.1 with
  |.normal=>evC Γ Λ b r.2
  |ax=>AM.ret (ax,r.2)
 |.cond c a b,T=>(match AS T c with
  |.v (.bool t)=>(match t with
   |true=>evC Γ Λ a T
   |false=>evC Γ Λ b T)
  |_=>AM.fail)
 |.block id c,T=>(evC Γ Λ c T).bind λr=>match r.1 with
  |.exit i=>if i=id then AM.ret (.normal,r.2) else AM.ret (.exit i,r.2)
  |ax=>AM.ret (ax,r.2)
 |.loop i h,T=>(adoptM h.ad T).bind λT=>(frzT h.fz T).bind λT=>match Av5 T.length h.n with
  |true=>(Λ i (CE h.live T)).bind λr=>AM.ret (r.1,Ce (h.out r.1) h.n r.2)
  |false=>AM.fail
 |.exit id,T=>AM.ret (.exit id,T)
 |.ret,T=>AM.ret (.ret,T)
 |.bad,_=>AM.fail
end
mutual
def AV.ids:AV->Al
 |.v _=>[]
 |.ptr b _=>[b]
 |.sl b _ _ _=>[b]
 |.ls _=>[]
 |.lp _=>[]
 |.agg cs=>EY cs
 |.tup cs=>EY cs
 |.fn _ a c=>EY a++EY c
 |.any=>[]
def EY:Ab->Al
 |[]=>[]
 |x::r=>x.ids++EY r
end
mutual
def AV.ren(τ:Nat->Nat):AV->AV
 |.v x=>.v x
 |.ptr b o=>.ptr (τ b) o
 |.sl b o n e=>.sl (τ b) o n e
 |.ls xs=>.ls xs
 |.lp cs=>.lp cs
 |.agg cs=>.agg (IH τ cs)
 |.tup cs=>.tup (IH τ cs)
 |.fn f a c=>.fn f (IH τ a) (IH τ c)
 |.any=>.any
def IH(τ:Nat->Nat):Ab->Ab
 |[]=>[]
 |x::r=>x.ren τ::IH τ r
end
def ABlk.ren(τ:Nat->Nat)(k:ABlk):ABlk:=match k.ex with
 |true=>k
 |false=>{ k with cells:=IH τ k.cells }
def ABlk.ids(k:ABlk):Al:=match k.ex with
 |true=>[]
 |false=>EY k.cells
inductive BO where
 |keep
 |del
 |set (k:ABlk)
def BO.ids:BO->Al
 |.set k=>k.ids
 |_=>[]
def BO.ren(τ:Nat->Nat):BO->BO
 |.keep=>.keep
 |.del=>.del
 |.set k=>.set (k.ren τ)
abbrev DF:=Ab->List ABlk->Option (AV × List BO)
inductive Key where
 |fn (f:Nat)
 |lp (f i:Nat)
inductive Orc where
 |mk (f:Key->Ab->List ABlk->Option (AV × List BO))
 |no
def Orc.ask(D:Orc)(k:Key)(args:Ab)(bs:List ABlk):Option (AV × List BO):=match D with
 |.mk f=>f k args bs
 |.no=>Δ
def Gk(b:Nat):Al->Bool
 |[]=>Θ
 |c::r=>match Av5 b c with
  |true=>U
  |false=>Gk b r
def idx(b:Nat):Al->Nat
 |[]=>0
 |c::r=>match Av5 b c with
  |true=>0
  |false=>idx b r+1
def trav:Nat->Al->Al->AM (Al)
 |_,[],acc=>AM.ret acc
 |0,_::_,_=>AM.fail
 |n+1,b::r,acc=>match Gk b acc with
  |true=>trav n r acc
  |false=>(AM.getB b).bind λk=>trav n (r++k.ids) (acc++[b])
def readAll:Al->AM (List ABlk)
 |[]=>AM.ret []
 |b::r=>(AM.getB b).bind λk=>(readAll r).bind λl=>AM.ret (k::l)
def nextB:AM Nat:=λH=>V (H.next,H,⟨[],[]⟩)
def writeAll(σ:Nat->Nat):Al->List BO->AM (List BO)
 |[],out=>AM.ret out
 |_::_,[]=>AM.fail
 |b::r,o::out=>(match o with
  |.keep=>AM.ret ()
  |.del=>AM.delB b
  |.set k=>AM.setB b (k.ren σ)).bind λ_=>writeAll σ r out
def newAll(σ:Nat->Nat):List BO->AM Unit
 |[]=>AM.ret ()
 |.set k::out=>(AM.newB (k.ren σ)).bind λ_=>newAll σ out
 |_::_=>AM.fail
def AbD:Al->Nat->Option Nat
 |[],_=>Δ
 |x::_,0=>V x
 |_::r,n+1=>AbD r n
def Iw(L:Al)(n c:Nat):Nat:=match AbD L c with
 |some b=>b
 |none=>n+(c-L.length)
def QN(n:Nat):Al->Bool
 |[]=>U
 |c::r=>match Awv c n with
  |true=>QN n r
  |false=>Θ
def Un(n:Nat):List BO->Bool
 |[]=>U
 |o::r=>match QN n o.ids with
  |true=>Un n r
  |false=>Θ
def callD(D:DF)(args:Ab):AM AV:=
 (trav 4096 (EY args) []).bind λL=>(readAll L).bind λbs=>
  (AM.opt (D (IH (λb=>idx b L) args) (bs.map (ABlk.ren λb=>idx b L)))).bind λr=>
   match QN r.2.length r.1.ids,Un r.2.length r.2 with
   |true,U=>nextB.bind λn=>(writeAll (Iw L n) L r.2).bind λout=>(newAll (Iw L n) out).bind λ_=>AM.ret (r.1.ren (Iw L n))
   |_,_=>AM.fail
def Du:Nat->List ABlk->List (Nat × ABlk)
 |_,[]=>[]
 |n,k::r=>(n,k)::Du (n+1) r
def Yg(H:AH)(wr:Al)(b:Nat):BO:=match Gk b wr with
 |false=>.keep
 |true=>(match H.get b with
  |some k=>.set k
  |none=>.del)
def Ajs(H:AH)(b:Nat):BO:=match H.get b with
 |some k=>.set k
 |none=>.del
def El:Nat->Nat->Al
 |_,0=>[]
 |a,n+1=>a::El (a+1) n
def Fr(m:Ab->AM AV):DF:=λargs bs=>match m args ⟨Du 0 bs,bs.length,Δ⟩ with
 |some (r,H',ft)=>V (r,(El 0 bs.length).map (Yg H' ft.wr)++(El bs.length (H'.next-bs.length)).map (Ajs H'))
 |none=>Δ
def Yc:List BO->Nat->Option BO
 |[],_=>Δ
 |x::_,0=>V x
 |_::r,n+1=>Yc r n
def GN(k:Nat)(out:List BO):Nat->Al->Al->Option (Al)
 |_,[],acc=>V acc
 |0,_::_,_=>Δ
 |n+1,b::r,acc=>match Awv b k with
  |true=>GN k out n r acc
  |false=>match Gk b acc with
   |true=>GN k out n r acc
   |false=>match Yc out b with
    |some (.set kb)=>GN k out n (r++kb.ids) (acc++[b])
    |_=>Δ
def gcN(k:Nat)(acc:Al)(b:Nat):Nat:=match Awv b k with
 |true=>b
 |false=>k+idx b acc
def J8:List BO->Nat->List BO
 |[],_=>[]
 |_::_,0=>[]
 |x::r,n+1=>x::J8 r n
def XP:List BO->Al
 |[]=>[]
 |o::r=>o.ids++XP r
def VV(τ:Nat->Nat)(out:List BO):Al->List BO
 |[]=>[]
 |b::r=>(match Yc out b with
  |some o=>o.ren τ
  |none=>.del)::VV τ out r
def Agm(τ:Nat->Nat):List BO->List BO
 |[]=>[]
 |o::r=>o.ren τ::Agm τ r
def QG(D:DF):DF:=λargs bs=>match D args bs with
 |none=>Δ
 |some (r,out)=>match GN bs.length out 4096 (r.ids++XP (J8 out bs.length)) []with
  |none=>Δ
  |some acc=>V (r.ren (gcN bs.length acc),Agm (gcN bs.length acc) (J8 out bs.length)++VV (gcN bs.length acc) out acc)
def Af3(own:List (Nat × Nat))(f i:Nat):Bool:=match own with
 |[]=>Θ
 |(g,j)::r=>match Av5 f g,Av5 i j with
  |true,U=>U
  |_,_=>Af3 r f i
def frzA(own:List (Nat × Nat))(f:Nat):Nat->Ab->AM Ab
 |_,[]=>AM.ret []
 |i,x::r=>match Af3 own f i with
  |true=>(frzA own f (i+1) r).bind λr=>AM.ret (x::r)
  |false=>(frz 1000 x).bind λx=>(frzA own f (i+1) r).bind λr=>AM.ret (x::r)
def touchS(x:AV):AM AV:=match x with
 |.sl b o n e=>(AM.getB b).bind λk=>match k.ex with
  |true=>(AM.delB b).bind λ_=>(AM.newB k).bind λc=>AM.ret (.sl c o n e)
  |false=>AM.ret (.sl b o n e)
 |x=>AM.ret x
def touchL:Ab->AM Ab
 |[]=>AM.ret []
 |x::r=>(touchS x).bind λx=>(touchL r).bind λr=>AM.ret (x::r)
def touchB(b:Nat):AM Unit:=(AM.getB b).bind λk=>match k.ex,k.st with
 |false,U=>(touchL k.cells).bind λcs=>(AM.getB b).bind λk2=>(match k2.ex,Av5 cs.length k2.cells.length with
  |false,U=>AM.setB b { k2 with cells:=cs }
  |_,_=>AM.fail)
 |true,U=>AM.setB b k
 |_,_=>AM.ret ()
def touchI:Al->AM Unit
 |[]=>AM.ret ()
 |b::r=>(touchB b).bind λ_=>touchI r
def touchV(x:AV):AM AV:=match x with
 |.sl b o n e=>touchS (.sl b o n e)
 |.agg cs=>(touchL cs).bind λcs=>(touchI (EY cs)).bind λ_=>AM.ret (.agg cs)
 |x=>(touchI x.ids).bind λ_=>AM.ret x
def touchA:List Bool->Ab->AM Ab
 |_,[]=>AM.ret []
 |true::m,x::r=>(touchI x.ids).bind λ_=>(touchA m r).bind λr=>AM.ret (x::r)
 |false::m,x::r=>(touchV x).bind λx=>(touchA m r).bind λr=>AM.ret (x::r)
 |[],x::r=>(touchV x).bind λx=>(touchA [] r).bind λr=>AM.ret (x::r)
def LpH.nt(h:LpH)(x:AX):List Bool:=CE (h.out x) ((El 0 h.n).map λt=>Gk (1000000+t) (h.dlo x))
def delC(b i:Nat):AM Unit:=(AM.getB b).bind λk=>match k.cells[i]? with
 |some (.sl c _ _ _)=>AM.delB c
 |_=>AM.ret ()
def delT:Al->Ab->AM Unit
 |[],_=>AM.ret ()
 |t::r,T=>match T[t]? with
  |some (.sl b _ _ _)=>(AM.delB b).bind λ_=>delT r T
  |some (.ptr b _)=>(AM.delB b).bind λ_=>delT r T
  |_=>(match Ra T t with
   |some q=>(delC q.1 q.2).bind λ_=>delT r T
   |none=>delT r T)
inductive MRes where
 |tmp (t:Nat)
 |cell (t:Nat) (row:Bool) (n:Nat)
structure MFn where
 nt:Nat
 res:List MRes
 body:MC
 loops:List (LpH × MC)
 own:Bool
 tch:Bool
def resM(T:Ab):List MRes->AM Ab
 |[]=>AM.ret []
 |.tmp t::r=>(resM T r).bind λl=>AM.ret ((T[t]?).getD AV.undef::l)
 |.cell x row n::r=>(loadM row n ((T[x]?).getD AV.undef)).bind λv=>(resM T r).bind λl=>AM.ret (v::l)
def axA:AX->AV
 |.normal=>.v (.bool Θ)
 |.ret=>.v (.bool U)
 |.exit i=>.v (.int .i64 (Axl i))
 |.goto _=>.any
def WW:AV->Option AX
 |.v (.bool U)=>V .ret
 |.v (.bool Θ)=>V .normal
 |.v (.int .i64 (.ofNat i))=>V (.exit i)
 |_=>Δ
section
variable (A:Ar) (D:Orc) (own:List (Nat × Nat))
def callsM(f:FuncId)(args:Ab):AM AV:=(frzA own f 0 args).bind λl=>callD (D.ask (.fn f)) l
def loopsM(f i:Nat)(xs:Ab):AM (AX × Ab):=(callD (D.ask (.lp f i)) xs).bind λr=>match r with
 |.tup (x::ys)=>(match WW x with
  |some ax=>AM.ret (ax,ys)
  |none=>AM.fail)
 |_=>AM.fail
def fnM(f:Nat)(mf:MFn)(args:Ab):AM AV:=(evC A (callsM D own) (loopsM D f) mf.body (S6 mf.nt args)).bind λr=>match r.1 with
 |.exit _=>AM.fail
 |.goto _=>AM.fail
 |_=>(resM r.2 mf.res).bind λl=>(match mf.own with
  |true=>AM.ret (JT l)
  |false=>frz 1000 (JT l)).bind λv=>match mf.tch with
   |true=>(touchI (EY args)).bind λ_=>AM.ret v
   |false=>AM.ret v
def lpM(f i:Nat)(h:LpH)(c:MC)(xs:Ab):AM AV:=(evC A (callsM D own) (loopsM D f) c (Ce h.live h.n xs)).bind λr=>match r.1 with
 |.normal=>(frzT h.fz r.2).bind λT=>(loopsM D f i (CE h.live T)).bind λq=>AM.ret (.tup (axA q.1::q.2))
 |.goto _=>AM.fail
 |ax=>(frzT (h.fzo ax) r.2).bind λT=>(delT (h.dlo ax) T).bind λ_=>(touchA (h.nt ax) (CE (h.out ax) T)).bind λys=>AM.ret (.tup (axA ax::ys))
end
section
variable (P:Program)
def Tx(t:TypeId):Option Nat:=match P.underlying t with
 |some .bool=>V 1
 |some (.int _)=>V 0
 |some .string=>V 2
 |_=>Δ
def Ro:List Field->Nat->Option (Al)
 |[],_=>V []
 |f::r,n=>if(f.offset == n&&f.name != "_"&&(Cn P f.type == V Θ))=U then(match Tx P f.type,Ro r (n+1) with
  |some k,V ks=>V (k::ks)
  |_,_=>Δ) else Δ
def eqS(t:TypeId):Option (Al):=match P.underlying t with
 |some (.struct fs)=>if(!P.stoodInHeld t&&!P.eqGuardType P.depth t)=U then Ro P fs.toList 0 else Δ
 |_=>Δ
def G7(t:TypeId):Nat:=match P.underlying t with
 |some (.pointer _)=>1
 |some (.slice _)=>2
 |some (.func ..)=>3
 |some .bool=>4
 |some (.int _)=>0
 |some .string=>0
 |_=>9
def Nz(t:TypeId):Option (Nat × AN × Nat):=match Cs P t with
 |some et=>(match P.info? et,C0 P et with
  |some i,V z=>if z.cells.size=i.size/\0<i.size then V (i.size,z.cells.toList,i.bytes) else Δ
  |_,_=>Δ)
 |none=>Δ
def Xe(ents:Nat)(o:Op):MO:=match o with
 |.move x=>.mv x
 |.assign x=>.mv x
 |.pick c a b=>.pick c a b
 |.alloc t=>(match C0 P t with
  |some z=>.alloc z.cells.toList
  |none=>.bad)
 |.box _ x=>.box x
 |.build t ps=>(match C0 P t,CP P t with
  |some z,V fs=>(match JF P fs.toList with
   |some pl=>.buildS z.cells.toList pl ps.toList
   |none=>.bad)
  |some z,Δ=>(match OO P t with
   |some et=>(match DS P et with
    |some e=>.buildR z.cells.toList e ps.toList
    |none=>.bad)
   |none=>.bad)
  |_,_=>.bad)
 |.buildSlice t n ps=>(match Cs P t with
  |some et=>(match DS P et,C0 P et with
   |some e,V z=>.buildSl z.cells.toList e n ps.toList
   |_,_=>.bad)
  |none=>.bad)
 |.load t a=>(match Cn P t,DS P t with
  |some U,V n=>.ld U n a
  |some Θ,_=>.ld Θ 0 a
  |_,_=>.bad)
 |.store t a x=>(match DS P t with
  |some n=>.st n a x
  |none=>.bad)
 |.nilCheck x=>.nilck x
 |.binOp b t x y _=>(match eqS P t with
  |some ks=>(match b with
   |.eql=>.eqs Θ ks x y
   |.neq=>.eqs U ks x y
   |_=>.bad)
  |none=>(match G7 P t with
   |9=>.bad
   |k=>.bin k b x y))
 |.unOp .not _ x=>.not x
 |.unOp .neg _ x=>.neg x
 |.makeFunc f a c=>.mkfn f a.toList c.toList
 |.slice t x lo hi Δ=>(match Cs P t with
  |some et=>(match DS P et with
   |some e=>.slice e x lo hi
   |none=>.bad)
  |none=>if B7 P t then .sslice x lo hi else .bad)
 |.fieldAddr t a f=>(match CP P t with
  |some fs=>(match fs[f]? with
   |some fd=>(match DS P fd.type with
    |some (_+1)=>.faddr fd.offset a
    |_=>.bad)
   |none=>.bad)
  |none=>.bad)
 |.field t x f=>(match CP P t with
  |some fs=>(match fs[f]? with
   |some fd=>(match Cn P fd.type,DS P fd.type with
    |some U,V n=>.field U fd.offset n x
    |some Θ,_=>.field Θ fd.offset 0 x
    |_,_=>.bad)
   |none=>.bad)
  |none=>.bad)
 |.indexAddr t x i=>(match Cs P t,QL P t with
  |some et,_=>(match DS P et with
   |some e=>.iaddr e x i
   |none=>.bad)
  |none,V (n,et)=>(match DS P et with
   |some e=>.aaddr n e x i
   |none=>.bad)
  |_,_=>.bad)
 |.index t x i=>(match QL P t with
  |some (n,et)=>(match DS P et,Cn P et with
   |some e,V U=>.index n e U e x i
   |some e,V Θ=>.index n e Θ 0 x i
   |_,_=>.bad)
  |none=>if B7 P t then .sidx x i else .bad)
 |.convert s d x=>(match P.underlying s,P.underlying d with
  |some (.int _),V (.int k)=>.iconv k x
  |_,_=>(match DU P s,B7 P d with
   |true,U=>.str x
   |_,_=>.bad))
 |.extract x i=>.ext x i
 |.makeSlice t l c=>(match Nz P t with
  |some (e,z,by')=>.mksl z e by' l c
  |none=>.bad)
 |.call c=>(match c.callee with
  |.builtin .append=>(match c.args.toList,c.argTypes.toList with
   |[s,x],[t,u]=>(match Nz P t,Df P u with
    |some (e,_,by'),U=>.app e by' s x
    |some (e,z,by'),Θ=>(match MX P u with
     |true=>.appz z e by' s x
     |false=>.bad)
    |_,_=>.bad)
   |_,_=>.bad)
  |.builtin .copy=>(match c.args.toList,c.argTypes.toList with
   |[d,x],[t,u]=>(match Cs P t,Df P u with
    |some et,U=>(match DS P et with
     |some e=>.cpy e d x
     |none=>.bad)
    |_,_=>.bad)
   |_,_=>.bad)
  |.builtin .clear=>(match c.args.toList,c.argTypes.toList with
   |[x],[t]=>(match Cs P t with
    |some et=>(match DS P et,C0 P et with
     |some e,V z=>if z.cells.size=e/\0<e/\(z.cells.toList.map AV.v).all AV.one=U then .clr z.cells.toList e x else .bad
     |_,_=>.bad)
    |none=>.bad)
   |_,_=>.bad)
  |.builtin .len=>(match c.args.toList,c.argTypes.toList with
   |[x],[t]=>if Df P t then .len U x else if B7 P t then .len Θ x else .bad
   |_,_=>.bad)
  |.builtin .max=>(match c.args.toList with
   |[x,y]=>.mx x y
   |_=>.bad)
  |.builtin .min=>(match c.args.toList with
   |[x,y]=>.mn x y
   |_=>.bad)
  |.builtin _=>.bad
  |.value f=>(match f with
   |.func g=>if GY P g then .callF g c.args.toList else .bad
   |_=>.callV ents f c.args.toList)
  |.invoke ..=>.bad)
 |_=>.bad
def Adv(ops:Array Oper)(g:Option (Nat × Bool)):Option (Option (Nat × Bool)):=match g with
 |none=>V Δ
 |some (j,want)=>match (ops[j]?).bind (·.dst) with
  |some d=>V (V (d,want))
  |none=>Δ
def JZ(ents:Nat)(ops:Array Oper)(o:Oper):MOp:=match Adv ops o.guard with
 |some g=>⟨o.dst,Xe P ents o.op,g⟩
 |none=>⟨o.dst,.bad,Δ⟩
abbrev Ld:=List LpH
def BF(ents:Nat)(hs:Ld):Code->Nat->MC × List (LpH × MC)
 |.skip,_=>(.skip,[])
 |.region _ ops d,_=>(.reg (ops.toList.map (JZ P ents ops)) (if d then V (Uj ops) else Δ),[])
 |.seq a b,n=>match BF ents hs a n with
  |(ma,la)=>match BF ents hs b (n+la.length) with
   |(mb,lb)=>(.seq ma mb,la++lb)
 |.cond c a b,n=>match BF ents hs a n with
  |(ma,la)=>match BF ents hs b (n+la.length) with
   |(mb,lb)=>(.cond c ma mb,la++lb)
 |.block id c,n=>match BF ents hs c n with
  |(mc,lc)=>(.block id mc,lc)
 |.loop c,n=>match BF ents hs c (n+1),hs[n]? with
  |(mc,lc),V h=>(.loop n h,(h,mc)::lc)
  |(mc,lc),Δ=>(.bad,(⟨0,[],[],[],[]⟩,mc)::lc)
 |.exit id,_=>(.exit id,[])
 |.ret,_=>(.ret,[])
 |_,_=>(.bad,[])
def J0(rs:List ResultVar):List MRes:=rs.map λr=>match r with
 |.tmp t=>.tmp t
 |.cell t ty=>match Cn P ty,DS P ty with
  |some U,V n=>.cell t U n
  |some Θ,_=>.cell t Θ 0
  |_,_=>.tmp 1000000
end
section
variable {P:Program}
@[simp] theorem Cy{α:Type}(a:α):AD P (pure a:Sem α)=V a:=rfl
@[simp] theorem AhD{α:Type}(a:α):AD P (Sem.pure a:Sem α)=V a:=rfl
theorem J4{α β:Type}(k:α->Sem β):∀(s:Sem α),AD P (s.bind k)=(AD P s).bind λa=>AD P (k a)
 |.pure a=>rfl
 |.program f=>by simp only[Sem.bind,AD];exact J4 k (f P)
 |.load ..=>rfl
 |.store ..=>rfl
 |.new ..=>rfl
 |.shape ..=>rfl
 |.freeze ..=>rfl
 |.frozen ..=>rfl
 |.getObj ..=>rfl
 |.setObj ..=>rfl
 |.choose ..=>rfl
 |.sys ..=>rfl
 |.mark ..=>rfl
 |.halt ..=>rfl
@[simp] theorem Ay{α β:Type}(s:Sem α)(k:α->Sem β):AD P (s >>= k)=(AD P s).bind λa=>AD P (k a):=J4 k s
@[simp] theorem Od:AD P program=V P:=rfl
theorem AR{t:TypeId}{d:TypeDesc}(h:P.underlying t=V d):AD P (underlying t)=V d:=by
 unfold underlying;simp[h]
theorem Py{t:TypeId}(h:G7 P t=1):∃ e,P.underlying t=V (.pointer e):=by
 grind [G7]
theorem Zm{t:TypeId}(h:G7 P t=2):∃ e,P.underlying t=V (.slice e):=by
 grind [G7]
theorem Zl{t:TypeId}(h:G7 P t=3):∃ a b c,P.underlying t=V (.func a b c):=by
 grind [G7]
theorem Abn{t:TypeId}(h:G7 P t=4):P.underlying t=V .bool:=by
 grind [G7]
theorem Rt{o:Oper}{b:BinOp}{t yt:TypeId}{x y:Operand}(ho:o.op=.binOp b t x y yt){ρ:Operand->AV}{u v z:Value}(hx:(ρ x).toVal=V u)(hy:(ρ y).toVal=V v)
  (h:AD P (do eqGuard b t x y u v;binOp b t u v)=V z):CQ P o ρ=V (E3 z):=by
 have e1:B8 ρ x=u:=by unfold B8;rw[hx];rfl
 have e2:B8 ρ y=v:=by unfold B8;rw[hy];rfl
 have c:(Ci o.op&&o.op.operands.toList.all λx=>(ρ x).toVal.isSome)=U:=by
  grind [Op.operands,Ci]
 unfold CQ;rw[Ac c];have:AD P (execOp (B8 ρ) o)=V (.value z):=by
  unfold execOp;rw[ho];simp only[e1,e2];rw[Ay,h];rfl
 rw[this];rfl
theorem Pc{o:Oper}{b:BinOp}{t yt:TypeId}{x y:Operand}(ho:o.op=.binOp b t x y yt){ρ:Operand->AV}{u v z:Value}(hx:ρ x=.v u)(hy:ρ y=.v v)
  (h:AD P (do eqGuard b t x y u v;binOp b t u v)=V z):CQ P o ρ=V (E3 z):=Rt ho (by rw[hx];rfl) (by rw[hy];rfl) h
theorem AeB{o:Oper}{t:TypeId}{x:Operand}(ho:o.op=.unOp .not t x){ρ:Operand->AV}{c:Bool}(hx:ρ x=.v (.bool c)):CQ P o ρ=V (.v (.bool !c)):=by
 have e1:B8 ρ x=.bool c:=by unfold B8;rw[hx];rfl
 have cc:(Ci o.op&&o.op.operands.toList.all λx=>(ρ x).toVal.isSome)=U:=by
  grind [AV.toVal,Op.operands,Ci]
 unfold CQ;rw[Ac cc];have:AD P (execOp (B8 ρ) o)=V (.value (.bool !c)):=by
  unfold execOp;rw[ho];simp only[e1];rw[Ay];rfl
 rw[this];rfl
theorem AeA{o:Oper}{t:TypeId}{x:Operand}(ho:o.op=.unOp .neg t x){ρ:Operand->AV}{k:IntKind}{n:Int}(hx:ρ x=.v (.int k n)):CQ P o ρ=V (.v (.int k (Ai.sub k 0 n))):=by
 have e1:B8 ρ x=.int k n:=by unfold B8;rw[hx];rfl
 have cc:(Ci o.op&&o.op.operands.toList.all λx=>(ρ x).toVal.isSome)=U:=by
  grind [AV.toVal,Op.operands,Ci]
 unfold CQ;rw[Ac cc];have:AD P (execOp (B8 ρ) o)=V (.value (.int k (Ai.sub k 0 n))):=by
  unfold execOp;rw[ho];simp only[e1];rw[Ay];rfl
 rw[this];rfl
theorem Abb{b:BinOp}{t:TypeId}{x y:Operand}{k k':IntKind}{a c:Int}:AD P (eqGuard b t x y (.int k a) (.int k' c))=V ():=by
 simp_all [eqGuard]
theorem Abc{b:BinOp}{t:TypeId}{x y:Operand}{a c:ByteArray}:AD P (eqGuard b t x y (.string a) (.string c))=V ():=by
 simp_all [eqGuard]
theorem AhP{o:Oper}{b:BinOp}{t yt:TypeId}{x y:Operand}(ho:o.op=.binOp b t x y yt){ρ:Operand->AV}{k k':IntKind}{a c:Int}(hx:ρ x=.v (.int k a))(hy:ρ y=.v (.int k' c)){z:Value}(hz:AD P (binOp b t (.int k a) (.int k' c))=V z):CQ P o ρ=V (E3 z):=
 Pc ho hx hy (by rw[Ay,Abb];exact hz)
theorem AaG{o:Oper}{b:BinOp}{t yt:TypeId}{x y:Operand}(ho:o.op=.binOp b t x y yt){ρ:Operand->AV}{r:AV}(h:Lh Ai b (ρ x) (ρ y)=V r):CQ P o ρ=V r/\Gy P t (ρ x) (ρ y)=Θ:=by
 unfold Lh at h;split at h
 .rename_i k a k' c hx hy
  refine⟨?_,by rw[hx,hy];rfl⟩;have key:∀ z,AD P (binOp b t (.int k a) (.int k' c))=V z->CQ P o ρ=V (E3 z):=λz hz=>AhP ho hx hy hz
  have shf:∀{op:BinOp} {v:Value},¬ c<0->(∀ n,n=AwA c.toNat k.bits->AD P (match op with
    |.shl=>(pure (.int k (k.wrap (a*2 ^ n))):Sem Value)
    |.shr=>pure (.int k (a.fdiv (2 ^ n)))
    |_=>stuck "shift: << >> expected")=V v)->AD P (Op.shift op k a k' c)=V v:=λ{op v} hc hv=>by
   unfold Op.shift;rw[Ad hc];exact hv _ rfl
  have div:∀{op:BinOp} {v:Value},¬ c=0->AD P (match op with
    |.quo=>(pure (.int k (k.wrap (a.tdiv c))):Sem Value)
    |.rem=>pure (.int k (a.tmod c))
    |_=>stuck "intDiv: / % expected")=V v->AD P (Op.intDiv op k a c)=V v:=λ{op v} hc hv=>by
   grind [Op.intDiv]
  cases b with
  |shl=>
   simp only at h
   cases e:Ai.lt c 0 with
   |true=>rw[e]at h;cases h
   |false=>
    rw[e]at h;simp only[ξ]at h;subst h;have hc:¬ c<0:=of_decide_eq_false e;exact key (.int k (Ai.shl k a c)) (by
     show AD P (Op.shift .shl k a k' c)=_
     exact shf hc λn hn=>by rw[hn];rfl)
  |shr=>
   simp only at h
   cases e:Ai.lt c 0 with
   |true=>rw[e]at h;cases h
   |false=>
    rw[e]at h;simp only[ξ]at h;subst h;have hc:¬ c<0:=of_decide_eq_false e;exact key (.int k (Ai.shr k a c)) (by
     show AD P (Op.shift .shr k a k' c)=_
     exact shf hc λn hn=>by rw[hn];rfl)
  |_=>
   simp only at h;split at h
   .rename_i hk
    subst hk
    try simp only[ξ,reduceCtorEq]at h
    first
     | (subst h
        first
         |exact key (.int k (k.wrap (a+c))) (by simp[binOp,Op.intArith])
         |exact key (.int k (k.wrap (a-c))) (by simp[binOp,Op.intArith])
         |exact key (.int k (k.wrap (a*c))) (by simp[binOp,Op.intArith])
         |exact key (.int k (Ai.bits .and k a c)) (by simp[binOp,Op.intBits,Ai,Ih,Ar.bits,Ul])
         |exact key (.int k (Ai.bits .or k a c)) (by simp[binOp,Op.intBits,Ai,Ih,Ar.bits,Ul])
         |exact key (.int k (Ai.bits .xor k a c)) (by simp[binOp,Op.intBits,Ai,Ih,Ar.bits,Ul])
         |exact key (.int k (Ai.bits .andNot k a c)) (by simp[binOp,Op.intBits,Ai,Ih,Ar.bits,Ul])
         |exact key (.bool (a == c)) (by simp[binOp,Op.intCmp])
         |exact key (.bool (a != c)) (by simp[binOp,Op.intCmp])
         |exact key (.bool (decide (a<c))) (by simp[binOp,Op.intCmp])
         |exact key (.bool (decide (a<=c))) (by simp[binOp,Op.intCmp])
         |exact key (.bool (decide (c<a))) (by simp[binOp,Op.intCmp])
         |exact key (.bool (decide (c<=a))) (by simp[binOp,Op.intCmp]))
     | (cases e:Ai.eq c 0 with
        |true=>rw[e]at h;cases h
        |false=>
         rw[e]at h;simp only[ξ]at h;subst h;have hc:¬ c=0:=λe0=>by subst e0;exact absurd e (by simp[Ai,Ih,Ar.eq])
         first
          |exact key (.int k (Ai.quo k a c)) (by
            have:binOp .quo t (.int k a) (.int k c)=Op.intDiv .quo k a c:=by simp[binOp]
            rw[this];exact div hc rfl)
          |exact key (.int k (Ai.rem k a c)) (by
            have:binOp .rem t (.int k a) (.int k c)=Op.intDiv .rem k a c:=by simp[binOp]
            rw[this];exact div hc rfl))
   .cases h
 .rename_i a c hx hy
  refine⟨?_,by rw[hx,hy];rfl⟩;have key:∀ z,AD P (binOp b t (.string a) (.string c))=V z->CQ P o ρ=V (E3 z):=λz hz=>Pc ho hx hy (by rw[Ay,Abc];exact hz)
  cases b with
  |add=>
   simp only at h
   cases e:AvL (Ai.slen a+Ai.slen c) 9223372036854775807 with
   |false=>rw[e]at h;cases h
   |true=>
    rw[e]at h;simp only[ξ]at h;subst h;have e1:a.size+c.size<=9223372036854775807:=Nat.le_of_ble_eq_true e;refine key (.string (a++c)) ?_;simp only[binOp,Op.stringOp];rw[Ad (by
     have:IntKind.i64.max=9223372036854775807:=by decide
     rw[this];omega)]
    rfl
  |eql=>simp only[ξ]at h;subst h;exact key (.bool (a.toList == c.toList)) (by simp[binOp,Op.stringOp])
  |neq=>simp only[ξ]at h;subst h;exact key (.bool !(a.toList == c.toList)) (by simp[binOp,Op.stringOp])
  |lss=>simp only[ξ]at h;subst h;exact key (.bool (Op.bytesLess a.toList c.toList)) (by simp[binOp,Op.stringOp])
  |geq=>simp only[ξ]at h;subst h;exact key (.bool !(Op.bytesLess a.toList c.toList)) (by simp[binOp,Op.stringOp])
  |_=>cases h
 .cases h
def AaF(P:Program)(o:Oper)(b:BinOp)(t:TypeId)(x y:Operand)(ρ:Operand->AV):AM AV:=if Gy P t (ρ x) (ρ y)=U then(match b with
   |.eql=>AM.ret (.v (.bool Θ))
   |.neq=>AM.ret (.v (.bool U))
   |_=>AM.fail) else AM.opt (CQ P o ρ)
theorem Aif{t:TypeId}{x y:Operand}{u v:Value}(hu:∀ us vs,¬ (u=.agg us/\v=.agg vs))(hn:u≠.nilIface){b:BinOp}:AD P (eqGuard b t x y u v)=V ():=by
 have key:AD P (match u,v with
  |.nilIface,.nilIface=>do
   if(x matches .const _)||(y matches .const _) then return
   if ←Op.eqGuardIn Op.maxDepth t u v then unsupported (.noEntry "binop/eql: two nil values of an interface type with methods, neither of them the literal nil")
  |.agg _,.agg _=>do
   if !(←program).eqGuardType (←program).depth t then return
   if ←Op.eqGuardIn Op.maxDepth t u v then unsupported (.noEntry "binop/eql: two nil values of an interface type with methods, in a part of a struct or an array")
  |_,_=>pure ())=V ():=by
  simp_all
 unfold eqGuard
 cases b<;>first
  |rfl
  |exact key
theorem S2{o:Oper}{b:BinOp}{t yt:TypeId}{x y:Operand}(ho:o.op=.binOp b t x y yt){ρ:Operand->AV}{u v:Value}{c:Bool}(hx:ρ x=.v u)(hy:ρ y=.v v)
  (hu:∀ us vs,¬ (u=.agg us/\v=.agg vs)) (hn:u≠.nilIface) (hi:∀ k a k' c,¬ (u=.int k a/\v=.int k' c)) (hfl:∀ k a,u≠.float k a) (hc:∀ k a c,u≠.complex k a c) (hs:∀ a,u≠.string a)
  (h:AD P (Op.equal t u v)=V c) (hb:b=.eql\/b=.neq):CQ P o ρ=V (.v (.bool (if b=.eql then c else !c))):=by
 have:CQ P o ρ=V (E3 (.bool (if b=.eql then c else !c))):=by
  refine Pc ho hx hy ?_;rw[Ay,Aif hu hn];rcases hb with rfl|rfl
  .cases u<;>first
    |(exfalso;first|exact hfl _ _ rfl|exact hc _ _ _ rfl|exact hs _ rfl)
    |(cases v<;>first
      |(exfalso;exact hi _ _ _ _ ⟨rfl,rfl⟩)
      |(simp only[Av7,Go.binOp,Ay,h,Cy];rfl))
  .cases u<;>first
    |(exfalso;first|exact hfl _ _ rfl|exact hc _ _ _ rfl|exact hs _ rfl)
    |(cases v<;>first
      |(exfalso;exact hi _ _ _ _ ⟨rfl,rfl⟩)
      |(simp only[Av7,Go.binOp,Ay,h,Cy];rfl))
 exact this
theorem Aa0{t:TypeId}(hu:P.underlying t=V .bool)(d:Nat)(a c:Bool):AD P (Op.equalIn (d+1) t (.bool a) (.bool c))=V (a == c):=by
 unfold Op.equalIn;rw[Ay,AR hu];rfl
theorem Aep{t e:TypeId}(hu:P.underlying t=V (.pointer e))(d:Nat):AD P (Op.equalIn (d+1) t (.pointer Δ) (.pointer Δ))=V U:=by
 unfold Op.equalIn;rw[Ay,AR hu];rfl
theorem Aie{t e:TypeId}(hu:P.underlying t=V (.slice e))(d:Nat):AD P (Op.equalIn (d+1) t (.slice Δ 0 0) (.slice Δ 0 0))=V U:=by
 unfold Op.equalIn;rw[Ay,AR hu];rfl
theorem Aid{t:TypeId}{a b:Array TypeId}{c:Bool}(hu:P.underlying t=V (.func a b c))(d:Nat):AD P (Op.equalIn (d+1) t .nilFunc .nilFunc)=V U:=by
 unfold Op.equalIn;rw[Ay,AR hu];rfl
theorem UA{o:Oper}{b:BinOp}{t yt:TypeId}{x y:Operand}(ho:o.op=.binOp b t x y yt){ρ:Operand->AV}{ek:Nat}(hk:G7 P t=ek){c:Bool}(h:eqM Ai ek (ρ x) (ρ y)=V c)(hb:b=.eql\/b=.neq) :
  AaF P o b t x y ρ=AM.ret (.v (.bool (if b=.eql then c else !c))):=by
 unfold eqM at h;unfold AaF;split at h<;>simp only[ξ,reduceCtorEq]at h<;>try subst h
 .-- bool
  rename_i a c hx hy;have hu:=Abn hk;rw[Ad (by rw[hx,hy];simp[Gy])];have:AD P (Op.equal t (.bool a) (.bool c))=V (a == c):=Aa0 hu 9999 a c;rw[S2 ho hx hy (by simp) (by simp) (by simp) (by simp) (by simp) (by simp) this hb];rfl
 .rename_i hx hy
  obtain⟨e,hu⟩:=Py hk;rw[Ac (by rw[hx,hy];simp[Gy,hu])];rcases hb with rfl|rfl<;>rfl
 .rename_i hx hy
  obtain⟨e,hu⟩:=Py hk;rw[Ac (by rw[hx,hy];simp[Gy,hu])];rcases hb with rfl|rfl<;>rfl
 .rename_i hx hy
  obtain⟨e,hu⟩:=Py hk;rw[Ad (by rw[hx,hy];simp[Gy])];have:AD P (Op.equal t (.pointer Δ) (.pointer Δ))=V U:=Aep hu 9999;rw[S2 ho hx hy (by simp) (by simp) (by simp) (by simp) (by simp) (by simp) this hb];rfl
 .rename_i hx hy
  obtain⟨e,hu⟩:=Zm hk;rw[Ac (by rw[hx,hy];simp[Gy,hu])];rcases hb with rfl|rfl<;>rfl
 .rename_i hx hy
  obtain⟨e,hu⟩:=Zm hk;rw[Ad (by rw[hx,hy];simp[Gy])];have:AD P (Op.equal t (.slice Δ 0 0) (.slice Δ 0 0))=V U:=Aie hu 9999;rw[S2 ho hx hy (by simp) (by simp) (by simp) (by simp) (by simp) (by simp) this hb];rfl
 .rename_i hx hy
  obtain⟨e,e2,e3,hu⟩:=Zl hk;rw[Ac (by rw[hx,hy];simp[Gy,hu])];rcases hb with rfl|rfl<;>rfl
 .rename_i hx hy
  obtain⟨e,e2,e3,hu⟩:=Zl hk;rw[Ad (by rw[hx,hy];simp[Gy])];have:AD P (Op.equal t .nilFunc .nilFunc)=V U:=Aid hu 9999;rw[S2 ho hx hy (by simp) (by simp) (by simp) (by simp) (by simp) (by simp) this hb];rfl
def KA:Nat->Value->Value->Option Bool
 |1,.bool a,.bool b=>V (a == b)
 |0,.int k a,.int k' b=>if k=k' then V (a == b) else Δ
 |2,.string a,.string b=>V (a == b)
 |_,_,_=>Δ
def Eb:Al->AN->AN->Option Bool
 |[],[],[]=>V U
 |k::ks,u::us,v::vs=>(match KA k u v,Eb ks us vs with
  |some a,V b=>V (a&&b)
  |_,_=>Δ)
 |_,_,_=>Δ
theorem Jy(a b:ByteArray):(a == b)=(a.data == b.data):=by
 cases a;cases b;rfl
theorem Up(a b:ByteArray):(a.toList == b.toList)=(a == b):=by
 simp_all [Go.ByteArray.toList_eq,Jy]
theorem Ls:∀{ks:Al} {xs ys:Ab} {c:Bool},eqL Ai ks xs ys=V c->∃ us vs,IJ xs=V us/\IJ ys=V vs/\Eb ks us vs=V c
 |[],[],[],c,h=>by simp only[eqL,ξ]at h;subst h;exact⟨[],[],rfl,rfl,rfl⟩
 |ks,xs,ys,c,h=>by
  unfold eqL at h;split at h
  .simp only[ξ]at h;subst h;exact⟨[],[],rfl,rfl,rfl⟩
  .rename_i ks a r b q
   cases e:eqL Ai ks r q with
   |none=>rw[e]at h;cases h
   |some t=>
    rw[e]at h;simp only[ξ]at h;subst h;obtain⟨us,vs,h1,h2,h3⟩:=Ls e;exact⟨.bool a::us,.bool b::vs,by simp only[IJ,h1],by simp only[IJ,h2],by simp only[Eb,KA,h3];rfl⟩
  .rename_i ks k a r k' b q
   split at h
   .rename_i hk
    cases e:eqL Ai ks r q with
    |none=>rw[e]at h;cases h
    |some t=>
     rw[e]at h;simp only[ξ]at h;subst h;obtain⟨us,vs,h1,h2,h3⟩:=Ls e;exact⟨.int k a::us,.int k' b::vs,by simp only[IJ,h1],by simp only[IJ,h2],by simp only[Eb,KA,h3,Ac hk];rfl⟩
   .cases h
  .rename_i ks a r b q
   cases e:eqL Ai ks r q with
   |none=>rw[e]at h;cases h
   |some t=>
    rw[e]at h;simp only[ξ]at h;subst h;obtain⟨us,vs,h1,h2,h3⟩:=Ls e;refine⟨.string a::us,.string b::vs,by simp only[IJ,h1],by simp only[IJ,h2],?_⟩;simp only[Eb,KA,h3]
    show V ((a == b)&&t)=V ((a.toList == b.toList)&&t)
    rw[Up]
  .cases h
theorem Aa1{t:TypeId}{k:Nat}(hk:Tx P t=V k){u v:Value}{c:Bool}(h:KA k u v=V c)(d:Nat):AD P (Op.equalIn (d+1) t u v)=V c:=by
 unfold KA at h;unfold Tx at hk;split at h
 .simp only[ξ]at h
  subst h;split at hk<;>simp only[ξ,reduceCtorEq]at hk<;>try (exact absurd hk (by decide))
  rename_i hu;unfold Op.equalIn;rw[Ay,AR hu];rfl
 .split at h
  .rename_i ek
   simp only[ξ]at h;subst h;split at hk<;>simp only[ξ,reduceCtorEq]at hk<;>try (exact absurd hk (by decide))
   rename_i hu;unfold Op.equalIn;rw[Ay,AR hu];simp only[Av7,ek,if_true];rfl
  .cases h
 .simp only[ξ]at h
  subst h;split at hk<;>simp only[ξ,reduceCtorEq]at hk<;>try (exact absurd hk (by decide))
  rename_i hu;unfold Op.equalIn;rw[Ay,AR hu];rfl
 .cases h
theorem R0{t:TypeId}(h:Cn P t=V Θ){cs:Array Value}{n:Nat}{u:Value}(hu:cs[n]? = V u):AD P (part t cs n)=V u:=by
 unfold part;have:AD P (isAgg t)=V Θ:=by
  unfold isAgg;unfold Cn at h
  cases e:P.underlying t with
  |none=>rw[e]at h;cases h
  |some d=>
   rw[e]at h;simp only[AvP,ξ]at h;rw[Ay,AR e]
   cases d<;>first | (simp[Ae7]at h;done) | rfl
 rw[Ay,this];simp[hu]
theorem MQ{o:Oper}{ρ:Operand->AV}{z:Value}(hn:Ci o.op=U)(ha:(o.op.operands.toList.all λx=>(ρ x).toVal.isSome)=U)(h:AD P (execOp (B8 ρ) o)=V (.value z)):CQ P o ρ=V (E3 z):=by
 unfold CQ;rw[Ac (by rw[hn,ha];rfl),h];rfl
theorem GG{ρ:Operand->AV}{x:Operand}{u:Value}(h:ρ x=.v u):B8 ρ x=u:=by unfold B8;rw[h];rfl
theorem Lr{xs ys:Array Value}(d:Nat):∀(fs:List Field) (n:Nat) {ks:Al} {us vs:AN} {c:Bool},Ro P fs n=V ks->Eb ks us vs=V c->(∀(i:Nat) u,us[i]? = V u->xs[n+i]? = V u)->(∀(i:Nat) u,vs[i]? = V u->ys[n+i]? = V u)->AD P (Op.eqFields (d+1) xs ys fs)=V c
 |[],n,ks,us,vs,c,hf,hc,hx,hy=>by
  simp only[Ro,ξ]at hf;subst hf
  cases us<;>cases vs<;>simp only[Eb,ξ,reduceCtorEq]at hc
  subst hc;rfl
 |f::r,n,ks,us,vs,c,hf,hc,hx,hy=>by
  simp only[Ro]at hf;split at hf
  .rename_i h1
   simp only[AvF,beq_iff_eq,bne_iff_ne]at h1;obtain⟨⟨h1,h2⟩,h3⟩:=h1
   cases e1:Tx P f.type with
   |none=>rw[e1]at hf;cases hf
   |some k=>
    cases e2:Ro P r (n+1) with
    |none=>rw[e1,e2]at hf;cases hf
    |some ks'=>
     rw[e1,e2]at hf;simp only[ξ]at hf;subst hf
     cases us with
     |nil=>simp[Eb]at hc
     |cons u us=>
      cases vs with
      |nil=>simp[Eb]at hc
      |cons v vs=>
       simp only[Eb]at hc
       cases e3:KA k u v with
       |none=>rw[e3]at hc;cases hc
       |some a=>
        cases e4:Eb ks' us vs with
        |none=>rw[e3,e4]at hc;cases hc
        |some b=>
         rw[e3,e4]at hc;simp only[ξ]at hc;subst hc;have ih:=Lr d r (n+1) e2 e4 (λi u hi=>by have:=hx (i+1) u (by simpa using hi);rwa [show n+1+i=n+(i+1) by omega]) (λi u hi=>by have:=hy (i+1) u (by simpa using hi);rwa [show n+1+i=n+(i+1) by omega]);unfold Op.eqFields;rw[Ac h2,h1,Ay,R0 h3 (show xs[n]? = V u from hx 0 u rfl)];simp only[Av7];rw[Ay,R0 h3 (show ys[n]? = V v from hy 0 v rfl)];simp only[Av7];rw[Ay,Aa1 e1 e3 d];simp only[Av7]
         cases a with
         |true=>simpa using ih
         |false=>simp
  .cases hf
theorem Uz{t:TypeId}{fs:Array Field}(ht:P.underlying t=V (.struct fs))(hp:P.stoodInHeld t=Θ)(d:Nat)(xs ys:Array Value):AD P (Op.equalIn (d+1) t (.agg xs) (.agg ys))=AD P (Op.eqFields d xs ys fs.toList):=by
 unfold Op.equalIn;rw[Ay,AR ht];simp only[Av7,Ay,Od,hp,Awi,if_false];rw[←Array.forIn_toList];generalize fs.toList=l;clear ht
 induction l with
 |nil=>simp[Op.eqFields]
 |cons f fs ih=>
  simp only[List.forIn_cons,Op.eqFields];split
  .simp only[Ay]
   cases AD P (part f.type xs f.offset) with
   |none=>rfl
   |some a=>
    simp only[Av7,Ay]
    cases AD P (part f.type ys f.offset) with
    |none=>rfl
    |some b=>
     simp only[Av7,Ay]
     cases AD P (Op.equalIn d f.type a b) with
     |none=>rfl
     |some r=>
      cases r
      .simp
      .simpa using ih
  .simpa using ih
theorem Rn{o:Oper}{b:BinOp}{t yt:TypeId}{x y:Operand}(ho:o.op=.binOp b t x y yt){ρ:Operand->AV}{ks:Al}(hk:eqS P t=V ks){r:AV}{neg:Bool}(hb:b=if neg then .neq else .eql)(h:An2 Ai neg ks (ρ x) (ρ y)=V r):AaF P o b t x y ρ=AM.ret r:=by
 unfold An2 at h;split at h
 .rename_i xs ys ex ey
  cases e:eqL Ai ks xs ys with
  |none=>rw[e]at h;cases h
  |some c=>
   rw[e]at h;obtain⟨us,vs,h1,h2,h3⟩:=Ls e;unfold eqS at hk;split at hk
   .rename_i fs hu
    split at hk
    .rename_i hc
     simp only[AvF,Bool.not_eq_true']at hc;have key:AD P (Op.equalIn 10000 t (.agg us.toArray) (.agg vs.toArray))=V c:=by
      rw[Uz hu hc.1 9999];exact Lr 9998 fs.toList 0 hk h3 (λi u hi=>by rw[AvW];simpa using hi) (λi u hi=>by rw[AvW];simpa using hi)
     have g:CQ P o ρ=V (E3 (.bool (if neg then !c else c))):=by
      refine Rt ho (u:=.agg us.toArray) (v:=.agg vs.toArray) (by rw[ex];simp only[AV.toVal,h1]) (by rw[ey];simp only[AV.toVal,h2]) ?_;have g1:AD P (eqGuard b t x y (.agg us.toArray) (.agg vs.toArray))=V ():=by
       unfold eqGuard;rw[hb]
       cases neg<;>simp[hc.2]
      rw[Ay,g1];simp only[Av7];rw[hb]
      cases neg
      .show AD P (binOp .eql t (.agg us.toArray) (.agg vs.toArray))=_
       have:binOp .eql t (.agg us.toArray) (.agg vs.toArray)=(do let r ←Op.equalIn 10000 t (.agg us.toArray) (.agg vs.toArray);pure (.bool r)):=rfl;rw[this,Ay,key];rfl
      .show AD P (binOp .neq t (.agg us.toArray) (.agg vs.toArray))=_
       have:binOp .neq t (.agg us.toArray) (.agg vs.toArray)=(do let r ←Op.equalIn 10000 t (.agg us.toArray) (.agg vs.toArray);pure (.bool !r)):=rfl;rw[this,Ay,key];rfl
     unfold AaF;rw[Ad (by rw[ex,ey];simp[Gy]),g]
     cases neg<;>(simp only[ξ]at h;rw[←h];rfl)
    .cases hk
   .cases hk
 .cases h
theorem AaV{o:Oper}{b:BinOp}{t yt:TypeId}{x y:Operand}(ho:o.op=.binOp b t x y yt){ρ:Operand->AV}{r:AV}(h:Ah0 Ai (G7 P t) b (ρ x) (ρ y)=V r):AaF P o b t x y ρ=AM.ret r:=by
 unfold Ah0 at h;split at h
 .obtain⟨h1,h2⟩:=AaG (P:=P) ho h
  unfold AaF;rw[Ad (by rw[h2];simp),h1];rfl
 .rename_i hk
  cases e:eqM Ai (G7 P t) (ρ x) (ρ y) with
  |none=>rw[e]at h;cases h
  |some c=>
   rw[e]at h;simp only[AvP,ξ]at h;subst h;rw[UA ho rfl e (.inl rfl)];rfl
 .cases e:eqM Ai (G7 P t) (ρ x) (ρ y) with
  |none=>rw[e]at h;cases h
  |some c=>
   rw[e]at h;simp only[AvP,ξ]at h;subst h;rw[UA ho rfl e (.inr rfl)];rfl
 .cases h
end
def Le{α:Type}(m m':AM α):Prop:=∀ H r,m H=V r->m' H=V r
section
variable {α β:Type}
theorem Le.refl(m:AM α):Le m m:=λ_ _ h=>h
theorem Le.fail(m:AM α):Le AM.fail m:=λ_ _ h=>by cases h
theorem Le.bind{m m':AM α}{f f':α->AM β}(h:Le m m')(k:∀ a,Le (f a) (f' a)):Le (m.bind f) (m'.bind f'):=λH r e=>by
 unfold AM.bind at e ⊢;rcases e1:m H with _|⟨a,H1,f1⟩<;>rw[e1]at e
 .cases e
 simp only at e;rcases e2:f a H1 with _|⟨b,H2,f2⟩<;>rw[e2]at e
 .cases e
 simp only at e;rw[h H _ e1];simp only;rw[k a H1 _ e2];exact e
theorem Le.opt{o o':Option α}(h:∀ a,o=V a->o'=V a):Le (AM.opt o) (AM.opt o'):=λH r e=>by
 cases o with
 |none=>cases e
 |some a=>rw[h a rfl];exact e
theorem Le.ret{o:Option α}{m:AM α}(h:∀ a,o=V a->m=AM.ret a):Le (AM.opt o) m:=λH r e=>by
 cases o with
 |none=>cases e
 |some a=>rw[h a rfl];exact e
theorem Le.trans{m m1 m2:AM α}(h:Le m m1)(k:Le m1 m2):Le m m2:=λH r e=>k H r (h H r e)
end
section
variable {P:Program}
theorem Ia:∀ xs,AP xs=xs.length
 |[]=>rfl
 |x::r=>by simp[AP,Ia r]
theorem Jp:∀ xs n,Jo xs n=xs.take n
 |[],_=>by simp[Jo]
 |x::r,0=>by simp[Jo]
 |x::r,n+1=>by simp[Jo,Jp r n]
theorem IT:∀ xs n,IS xs n=xs.drop n
 |[],_=>by simp[IS]
 |x::r,0=>by simp[IS]
 |x::r,n+1=>by simp[IS,IT r n]
theorem Ln:∀ xs,Kz xs=xs.flatten
 |[]=>rfl
 |x::r=>by simp[Kz,Ln r]
theorem Ie:∀ xs,LQ xs=xs.all AV.one
 |[]=>rfl
 |x::r=>by simp[LQ,Ie r]
theorem AnL(a b:Nat):Av5 a b=(a == b):=Bool.eq_iff_iff.2 (by simp)
theorem Ju(e:Nat):∀ xs,GH e xs=xs.all λcs=>cs.length == e
 |[]=>rfl
 |x::r=>by simp[GH,Ju e r,AnL]
theorem JE(T:Ab):∀ l,QW T l=l.map (AS T)
 |[]=>rfl
 |x::r=>by simp[QW,JE T r]
theorem LW(T:Ab):∀ l,LV T l=l.map λp=>(p.1,AS T p.2)
 |[]=>rfl
 |(i,x)::r=>by simp[LV,LW T r]
theorem Ox{t:TypeId}{row:Bool}{n:Nat}(h1:Cn P t=V row)(h2:row=U->DS P t=V n)(a:AV):Le (loadM row n a) (loadA P t a):=by
 unfold loadM loadA;rw[h1]
 cases row with
 |true=>rw[h2 rfl];exact Le.refl _
 |false=>exact Le.refl _
theorem Afp{t:TypeId}{n:Nat}(h:DS P t=V n)(a x:AV):Le (storeM n a x) (storeA P t a x):=by
 unfold storeM storeA;rw[h]
 cases a<;>exact Le.refl _
theorem Z3{t:TypeId}{row:Bool}{n:Nat}(h1:Cn P t=V row)(h2:row=U->DS P t=V n)(cs:Ab)(off:Nat):VU row off n cs=RZ P t cs off:=by
 unfold VU RZ;rw[h1]
 cases row with
 |true=>rw[h2 rfl]
 |false=>rfl
theorem Ae3{t et:TypeId}{e:Nat}(h1:Cs P t=V et)(h2:DS P et=V e){x ix r:AV}(h:Pq e x ix=V r):DY P t x ix=V r:=by
 unfold Pq at h;unfold DY;rw[h1]
 cases e1:ix.idx with
 |none=>rw[e1]at h;cases h
 |some i=>
  rw[e1]at h;simp only at h
  cases x<;>try (cases h)
  .rename_i b o n e'
   simp only at h ⊢;split at h
   .rename_i hlt
    split at h
    .rename_i he
     subst he;have:i+1<=n:=by simpa[Awv]using hlt
     have:i<n:=by omega
     rw[Ac ⟨this,h2⟩];exact h
    .cases h
   .cases h
  .rename_i xs
   simp only[Tu]at h ⊢
   cases e2:xs[i]? with
   |none=>rw[e2]at h;cases h
   |some cs=>
    rw[e2]at h;simp only at h ⊢;split at h
    .rename_i hb
     have:cs.length=e:=by simpa using hb
     rw[Ac (by rw[h2,this])];exact h
    .cases h
theorem AgX{t et:TypeId}{e:Nat}(h1:Cs P t=V et)(h2:DS P et=V e){x r:AV}{lo hi:Option AV}(h:Ql e x lo hi=V r):K6 P t x lo hi=V r:=by
 have om:∀ n o,Oc n o=EL n o:=λn o=>by cases o<;>rfl
 unfold Ql at h;unfold K6;rw[h1];simp only[om,Ia,Jp,IT,Ju]at h
 cases x<;>try (cases h)
 .rename_i b o n e'
  simp only at h ⊢;split at h
  .rename_i l hh e1 e2
   rw[e1,e2];simp only;split at h
   .rename_i c1 c2 c3
    have c3':e'=e:=by simpa using c3
    subst c3';rw[Ac ⟨by simpa using c1,by simpa using c2,h2⟩];exact h
   .cases h
  .cases h
 .rename_i xs
  simp only at h ⊢;split at h
  .rename_i l hh e1 e2
   rw[e1,e2];simp only;split at h
   .rename_i c1 c2 c3
    have c4:(xs.all λcs=>DS P et == V cs.length)=U:=AvJ.2 λcs hcs=>by
     have:=AvJ.1 c3 cs hcs;rw[h2];simp at this ⊢;exact this.symm
    rw[Ac ⟨by simpa using c1,by simpa using c2,by rw[h2];rfl,c4⟩];exact h
   .cases h
  .cases h
theorem Tg(e:Nat)(x:AV):Le (newsM e x) (newsA e x):=by
 unfold newsM newsA;split
 .dsimp only
  split
  .refine Le.bind (Le.refl _) λk=>?_
   split
   .rename_i c1 c2
    rw[Ac ⟨by simpa using c1,c2⟩];exact Le.refl _
   .exact Le.fail _
  .exact Le.fail _
 .simp only[Ia,Ln,Ju]
  split
  .rename_i c
   rw[Ac c];exact Le.refl _
  .exact Le.fail _
 .exact Le.refl _
 .exact Le.fail _
theorem KE{t:TypeId}{e b:Nat}{z:AN}(h:Nz P t=V (e,z,b)):∃ et i zz,Cs P t=V et/\P.info? et=V i/\C0 P et=V zz/\i.zero=V zz/\zz.cells.size=i.size/\0<i.size/\e=i.size/\z=zz.cells.toList/\b=i.bytes:=by
 unfold Nz at h;split at h
 .rename_i et h1
  split at h
  .rename_i i zz h2 h3
   split at h
   .rename_i h4
    simp only[ξ,Prod.mk.injEq]at h;refine⟨et,i,zz,h1,h2,h3,?_,h4.1,h4.2,h.1.symm,h.2.1.symm,h.2.2.symm⟩;unfold C0 at h3;rw[h2]at h3;simp only at h3;split at h3
    .split at h3
     .rename_i e5 _;rw[e5];exact h3
     .cases h3
    .cases h3
   .cases h
  .cases h
 .cases h
theorem Abo{t u:TypeId}{e b:Nat}{z:AN}(h:Nz P t=V (e,z,b))(hu:Df P u=U)(s x:AV):Le (appM e b s x) (appendA P [t,u] s x):=by
 obtain⟨et,i,zz,h1,h2,h3,h4,h5,h6,rfl,_,rfl⟩:=KE h;have hn:GR P u=U:=by
  unfold Df at hu;unfold GR;split at hu
  .rename_i e1;rw[e1]
  .cases hu
 unfold appM appendA;simp only[h1,h2,h4];rw[Ac (show zz.cells.size=i.size/\0<i.size from ⟨h5,h6⟩)];refine Le.bind (by unfold newsU;rw[hn];exact Tg _ _) λr=>?_
 unfold appR;split
 .rename_i c
  rw[Ac (show r.1=0 by simpa using c)];exact Le.refl _
 .rename_i c
  rw[Ad (show ¬ r.1=0 by intro e;rw[e]at c;simp at c)];rw[Ie];split
  .exact Le.fail _
  .rename_i c1
   rw[Ac c1];split
   .dsimp only
    split
    .rename_i c2 c3
     rw[Ac ⟨rfl,by simpa using c2,by simpa using c3⟩];exact Le.refl _
    .exact Le.fail _
   .dsimp only
    split
    .rename_i c2 c3 c4
     rw[Ac ⟨by simpa using c2,by simpa using c3,by simpa using c4⟩];have c2':=AvY c2;subst c2';refine Le.bind (Le.refl _) λk=>?_
     split
     .rename_i d1 d2 d3
      have d3':=AvY d3;rw[Ac ⟨d1,by omega,.inl d2⟩,Ac d2,d2];exact Le.refl _
     .rename_i d1 d2 d3
      have d3':=AvY d3;rw[Ac ⟨d1,by omega,.inr d3'⟩,Ad (by rw[d2];simp),d2];exact Le.refl _
     .rename_i d1 d2 d3
      split
      .rename_i d4
       rw[Ac ⟨d1,by simpa using d4,.inl d2⟩,Ac d2,d2];exact Le.refl _
      .exact Le.fail _
     .exact Le.fail _
    .exact Le.fail _
   .exact Le.fail _
theorem AiC{t u:TypeId}{e b:Nat}{z:AN}(h:Nz P t=V (e,z,b))(hu:MX P u=U)(s x:AV):Le (appzM z e b s x) (appendA P [t,u] s x):=by
 obtain⟨et,i,zz,h1,h2,h3,h4,h5,h6,rfl,rfl,rfl⟩:=KE h;have hn:GR P u=Θ:=by
  unfold MX at hu;unfold GR;split at hu
  .rename_i e1;rw[e1]
  .cases hu
 unfold appzM appendA;simp only[h1,h2,h4];rw[Ac (show zz.cells.size=i.size/\0<i.size from ⟨h5,h6⟩)];refine Le.bind ?_ λr=>?_
 .unfold newsU Tp newsZ
  rw[hn,hu];dsimp only;obtain⟨_,_,_,hfl⟩:=D2 h3
  cases x.idx with
  |none=>exact Le.fail _
  |some m=>
   dsimp only;split
   .rename_i c1
    rw [Ac ⟨by     have:m<=9223372036854775807:=by simpa using c1
                   omega,hfl⟩]
    exact Le.refl _
   .exact Le.fail _
 unfold appR;split
 .rename_i c
  rw[Ac (show r.1=0 by simpa using c)];exact Le.refl _
 .rename_i c
  rw[Ad (show ¬ r.1=0 by intro e;rw[e]at c;simp at c)];rw[Ie];split
  .exact Le.fail _
  .rename_i c1
   rw[Ac c1];split
   .dsimp only
    split
    .rename_i c2 c3
     rw[Ac ⟨rfl,by simpa using c2,by simpa using c3⟩];exact Le.refl _
    .exact Le.fail _
   .dsimp only
    split
    .rename_i c2 c3 c4
     rw[Ac ⟨by simpa using c2,by simpa using c3,by simpa using c4⟩];have c2':=AvY c2;subst c2';refine Le.bind (Le.refl _) λk=>?_
     split
     .rename_i d1 d2 d3
      have d3':=AvY d3;rw[Ac ⟨d1,by omega,.inl d2⟩,Ac d2,d2];exact Le.refl _
     .rename_i d1 d2 d3
      have d3':=AvY d3;rw[Ac ⟨d1,by omega,.inr d3'⟩,Ad (by rw[d2];simp),d2];exact Le.refl _
     .rename_i d1 d2 d3
      split
      .rename_i d4
       rw[Ac ⟨d1,by simpa using d4,.inl d2⟩,Ac d2,d2];exact Le.refl _
      .exact Le.fail _
     .exact Le.fail _
    .exact Le.fail _
   .exact Le.fail _
theorem AiE{t:TypeId}{e b:Nat}{z:AN}(h:Nz P t=V (e,z,b))(l c:AV):Le (mkslM z e b l c) (makeSliceA P t l c):=by
 obtain⟨et,i,zz,h1,h2,h3,h4,h5,h6,rfl,rfl,rfl⟩:=KE h;unfold mkslM makeSliceA;rw[h1];split
 .rename_i n m e1 e2
  rw[e1,e2];dsimp only;rw[h2,h3];dsimp only;split
  .rename_i c1 c2 c3
   rw[Ac ⟨by simpa using c1,by simpa using c2,by simpa using c3,h5,h6⟩];exact Le.refl _
  .exact Le.fail _
 .exact Le.fail _
theorem AiD{t u et:TypeId}{e:Nat}(h1:Cs P t=V et)(h2:DS P et=V e)(d x:AV):Le (cpyM e d x) (copyA P [t,u] d x):=by
 unfold cpyM copyA;simp only[h1];split
 .split
  .rename_i c
   have c':=AvY c;subst c';dsimp only;rw[Ac h2];refine Le.bind (Tg _ _) λr=>?_
   simp only[Ie];split
   .rename_i c1
    rw[Ac c1];refine Le.bind (Le.refl _) λk=>?_
    split
    .rename_i c2 c3
     rw[Ac ⟨c2,by simpa using c3⟩];exact Le.refl _
    .exact Le.fail _
   .exact Le.fail _
  .exact Le.fail _
 .exact Le.fail _
theorem Afn{t et:TypeId}{e:Nat}{z:Value}(h1:Cs P t=V et)(h2:DS P et=V e)(h3:C0 P et=V z)(h4:z.cells.size=e/\0<e/\(z.cells.toList.map AV.v).all AV.one=U)(x:AV):Le (clrM z.cells.toList e x) (clearA P [t] x):=by
 unfold clrM clearA;simp only[h1]
 cases x with
 |sl b o n e'=>
  simp only[h3];split
  .rename_i c
   have c':=AvY c;subst c';rw[Ac ⟨h2,h4⟩];refine Le.bind (Le.refl _) λk=>?_
   split
   .rename_i c2 c3
    rw[Ac ⟨c2,by simpa using c3⟩];exact Le.refl _
   .exact Le.fail _
  .exact Le.fail _
 |_=>exact Le.fail _
theorem Pd{o:Oper}{c:Call}{b:Builtin}{x:Operand}(ho:o.op=.call c)(hc:c.callee=.builtin b)(ha:c.args.toList=[x]){ρ:Operand->AV}{u z:Value}(hx:ρ x=.v u)
  (h:∀ cs,AD P (builtin b c.argTypes o.type cs #[u])=V (.value z)):CQ P o ρ=V (E3 z):=by
 have e1:B8 ρ x=u:=by unfold B8;rw[hx];rfl
 have ha':c.args=#[x]:=by rw[←AxT (xs:=c.args),ha]
 have cc:(Ci o.op&&o.op.operands.toList.all λx=>(ρ x).toVal.isSome)=U:=by
  rw[ho];simp[Ci,Op.operands,Call.operands,hc,ha',hx,AV.toVal]
 unfold CQ;rw[Ac cc];have:AD P (execOp (B8 ρ) o)=V (.value z):=by
  unfold execOp;rw[ho];simp only[resolve,hc,ha',Ay,Cy,Av7,invoke];have e3:#[x].map (B8 ρ)=#[u]:=by simp[e1]
  rw[e3];exact h _
 rw[this];rfl
theorem Pe{o:Oper}{c:Call}{b:Builtin}{x y:Operand}(ho:o.op=.call c)(hc:c.callee=.builtin b)(ha:c.args.toList=[x,y]){ρ:Operand->AV}{u v z:Value}(hx:ρ x=.v u)(hy:ρ y=.v v)
  (h:∀ cs,AD P (builtin b c.argTypes o.type cs #[u,v])=V (.value z)):CQ P o ρ=V (E3 z):=by
 have e1:B8 ρ x=u:=by unfold B8;rw[hx];rfl
 have e2:B8 ρ y=v:=by unfold B8;rw[hy];rfl
 have ha':c.args=#[x,y]:=by rw[←AxT (xs:=c.args),ha]
 have cc:(Ci o.op&&o.op.operands.toList.all λx=>(ρ x).toVal.isSome)=U:=by
  rw[ho];simp[Ci,Op.operands,Call.operands,hc,ha',hx,hy,AV.toVal]
 unfold CQ;rw[Ac cc];have:AD P (execOp (B8 ρ) o)=V (.value z):=by
  unfold execOp;rw[ho];simp only[resolve,hc,ha',Ay,Cy,Av7,invoke];have e3:#[x,y].map (B8 ρ)=#[u,v]:=by simp[e1,e2]
  rw[e3];exact h _
 rw[this];rfl
def JV(P:Program)(ents:Nat):Prop:=∀ g,ents.testBit g=U->GY P g=U
theorem Afm{t:TypeId}{zz:Value}(hz:C0 P t=V zz)(T:Ab)(ps:List (Nat × Operand)) :
  (∀{fs:Array Field} {pl:List (Nat × Nat)},CP P t=V fs->JF P fs.toList=V pl->MF (pl[·]?) zz.cells.toList (LV T ps)=Kw P t (ps.map λp=>(p.1,AS T p.2))) ∧
  (∀{et:TypeId} {e:Nat},CP P t=Δ->OO P t=V et->DS P et=V e->MF (λi=>V (i*e,e)) zz.cells.toList (LV T ps)=Kw P t (ps.map λp=>(p.1,AS T p.2))):=by
 refine⟨λh1 h2=>?_,λh1 h2 h3=>?_⟩
 .unfold MF Kw
  rw[h1,LW];unfold Om;rw[hz,h1];simp only[h2]
 .unfold MF Kw
  rw[h1,LW];unfold Ol;rw[hz,h2];simp only[h3]
theorem XW{t et:TypeId}{e:Nat}{zz:Value}(h1:Cs P t=V et)(h2:DS P et=V e)(h3:C0 P et=V zz)(n:Nat)(T:Ab)(ps:List (Nat × Operand)) :
  buildSlM zz.cells.toList e n (LV T ps)=buildSliceA P t n (ps.map λp=>(p.1,AS T p.2)):=by
 unfold buildSlM buildSliceA;rw[h1];simp only[h2,h3,LW];rfl
theorem Afo{o:Oper}{c:Call}{x:Operand}{t:TypeId}{sl:Bool}(ho:o.op=.call c)(hc:c.callee=.builtin .len)(ha:c.args.toList=[x])(ht:c.argTypes.toList=[t])
  (hs:if sl=U then Df P t=U else Df P t=Θ/\B7 P t=U) (ρ:Operand->AV) :
  Le (AM.opt (Aos Ai sl (ρ x))) (if Df P t=U then(match AiF (ρ x) with
     |some r=>AM.ret r
     |none=>AM.opt (CQ P o ρ)) else AM.opt (CQ P o ρ)):=by
 have ht':c.argTypes=#[t]:=by rw[←AxT (xs:=c.argTypes),ht]
 refine Le.ret λr h=>?_
 unfold Aos at h
 cases sl with
 |true=>
  rw[Ac rfl]at hs;rw[Ac hs];simp only at h;split at h<;>simp only[ξ,reduceCtorEq]at h<;>subst h
  .rename_i e;rw[e];rfl
  .rename_i e;rw[e,Ia];rfl
  .rename_i e
   have hu:∃ et,P.underlying t=V (.slice et):=by
    unfold Df at hs;split at hs
    .exact⟨_,‹_›⟩
    .cases hs
   obtain⟨et,hu⟩:=hu;have hg:CQ P o ρ=V (E3 (.int .i64 0)):=Pd ho hc ha e λcs=>by
    rw[ht'];simp only[builtin,Builtin.len_,Ay];simp[AR hu,goInt]
   rw[e,hg];rfl
 |false=>
  rw[Ad (by simp)]at hs;rw[Ad (by rw[hs.1];simp)];simp only at h;split at h<;>simp only[ξ,reduceCtorEq]at h
  subst h;rename_i s e;have hu:P.underlying t=V .string:=by
   have:=hs.2;unfold B7 at this;split at this
   .assumption
   .cases this
  have hg:CQ P o ρ=V (E3 (.int .i64 s.size)):=Pd ho hc ha e λcs=>by
   rw[ht'];simp only[builtin,Builtin.len_,Ay];simp[AR hu,goInt]
  rw[hg];rfl
theorem Afl{o:Oper}{c:Call}{x y:Operand}{b:Builtin}(ho:o.op=.call c)(hc:c.callee=.builtin b)(ha:c.args.toList=[x,y])(ρ:Operand->AV){f:Int->Int->Int}
  (hb:(b=.max/\f=Ai.max)\/(b=.min/\f=Ai.min)):Le (AM.opt (AhO f (ρ x) (ρ y))) (AM.opt (CQ P o ρ)):=by
 refine Le.opt λr h=>?_
 unfold AhO at h;split at h
 .rename_i k a k' d hx hy
  split at h
  .rename_i hk
   subst hk;simp only[ξ]at h;subst h;rcases hb with⟨rfl,rfl⟩|⟨rfl,rfl⟩
   .exact Pe (z:=.int k (Ai.max a d)) ho hc ha hx hy λcs=>by
     simp[builtin,Builtin.max_,Builtin.max2,Ai,Ih,Ar.max]
   .exact Pe (z:=.int k (Ai.min a d)) ho hc ha hx hy λcs=>by
     simp[builtin,Builtin.min_,Builtin.min2,Ai,Ih,Ar.min]
  .cases h
 .cases h
end
section
variable {P:Program} {Γ:FuncId->Ab->AM AV} {ents:Nat}
theorem Ae4{x:AV}{i:Nat}(h:x.idx=V i):∃ k,x=.v (.int k (.ofNat i)):=by
 unfold AV.idx at h;split at h
 .simp_all
 .cases h
theorem ES{k:IntKind}{i n:Nat}(h:i<=n)(c:BoundsCode):AD P (Instr.sliceBound (.int k (.ofNat i)) n c)=V i:=by
 unfold Instr.sliceBound asIntOf;rw[Ay];simp only[Cy,Av7];rw[Ac ⟨by simp,by simpa using h⟩];rfl
theorem TT{o:Oper}{t:TypeId}{x:Operand}{lo hi:Option Operand}(ho:o.op=.slice t x lo hi Δ)(ht:P.underlying t=V .string){ρ:Operand->AV}{r:AV}(h:Ml Ai (ρ x) (lo.map ρ) (hi.map ρ)=V r):CQ P o ρ=V r:=by
 unfold Ml at h;split at h
 .rename_i s es
  split at h
  .rename_i l hh e1 e2
   split at h
   .rename_i c1 c2
    simp only[ξ]at h;subst h;have c1:l<=hh:=by simpa using c1
    have c2:hh<=s.size:=by
     have:AvL hh s.size=U:=c2;simpa using this
    have hlo:(lo=Δ/\l=0)\/∃ y k,lo=V y/\ρ y=.v (.int k (.ofNat l)):=by
     cases lo with
     |none=>simp only[Axw,Oc,ξ]at e1;exact .inl ⟨rfl,e1.symm⟩
     |some y=>
      simp only[AvP,Oc]at e1;obtain⟨k,hk⟩  :=Ae4 e1;exact .inr ⟨y,k,rfl,hk⟩
    have hhi:(hi=Δ/\hh=s.size)\/∃ y k,hi=V y/\ρ y=.v (.int k (.ofNat hh)):=by
     cases hi with
     |none=>
      simp only[Axw,Oc,ξ]at e2;exact .inl ⟨rfl,e2.symm⟩
     |some y=>
      simp only[AvP,Oc]at e2;obtain⟨k,hk⟩  :=Ae4 e2;exact .inr ⟨y,k,rfl,hk⟩
    have hb:AD P (Instr.sliceBounds Θ s.size s.size (lo.map (B8 ρ)) (hi.map (B8 ρ)) Δ)=V (l,hh,s.size):=by
     rcases hlo with⟨rfl,rfl⟩|⟨y,k,rfl,hy⟩<;>rcases hhi with⟨rfl,rfl⟩|⟨z,k',rfl,hz⟩
     .rfl
     .simp only[Axw,AvP,GG hz,Instr.sliceBounds,Ay,Cy,Av7,ES c2]
     .simp only[Axw,AvP,GG hy,Instr.sliceBounds,Ay,Cy,Av7,ES c1]
     .simp only[AvP,GG hy,GG hz,Instr.sliceBounds,Ay,Cy,Av7,ES c1,ES c2]
    refine MQ (z:=.string (s.extract l hh)) (by rw[ho];rfl) ?_ ?_
    .rw[ho]
     rcases hlo with⟨rfl,_⟩|⟨y,k,rfl,hy⟩<;>rcases hhi with⟨rfl,_⟩|⟨z,k',rfl,hz⟩<;>simp_all [Op.operands,AV.toVal]
    .unfold execOp
     rw[ho]
     show AD P (Instr.sliceAt t (B8 ρ x) (lo.map (B8 ρ)) (hi.map (B8 ρ)) Δ >>= λy=>pure (Next.value y))=_
     rw[Ay,GG es];have:AD P (Instr.sliceAt t (.string s) (lo.map (B8 ρ)) (hi.map (B8 ρ)) Δ)=V (.string (s.extract l hh)):=by
      unfold Instr.sliceAt;rw[Ay,AR ht];simp only[Av7];unfold Instr.slice;rw[Ay,AR ht];simp only[Av7,Option.isSome_none,Awi,if_false];rw[Ay,hb];rfl
     rw[this];rfl
   .cases h
  .cases h
 .cases h
theorem Yv{o:Oper}{t:TypeId}{x i:Operand}(ho:o.op=.index t x i)(ht:P.underlying t=V .string){ρ:Operand->AV}{r:AV}(h:Wj Ai (ρ x) (ρ i)=V r):CQ P o ρ=V r:=by
 unfold Wj at h;split at h
 .rename_i s j es ei
  split at h
  .rename_i c1
   simp only[ξ]at h;subst h;obtain⟨k,hk⟩  :=Ae4 ei;have c1:j<s.size:=by
    have:Awv j s.size=U:=c1;have:j+1<=s.size:=by simpa[Awv]using this
    omega
   have e1:s[j]? = V (s[j]'c1):=by simp[c1]
   refine MQ (z:=.int .u8 (s[j]'c1).toNat) (by rw[ho];rfl) (by rw[ho];simp[Op.operands,es,hk,AV.toVal]) ?_ |>.trans ?_
   .unfold execOp
    rw[ho]
    show AD P (Instr.index t (B8 ρ x) (B8 ρ i) >>= λy=>pure (Next.value y))=_
    rw[Ay,GG es,GG hk];have:AD P (Instr.index t (.string s) (.int k (.ofNat j)))=V (.int .u8 (s[j]'c1).toNat):=by
     unfold Instr.index asIntOf;rw[Ay];simp only[Cy,Av7];rw[Ay,AR ht];simp only[Av7];have:(if 0<=(Axl j) then s[(Axl j).toNat]? else Δ)=V (s[j]'c1):=by
      grind
     rw[this];rfl
    rw[this];rfl
   .have:Ai.sat s j=Axl (s[j]'c1).toNat:=by
     show (match s[j]? with
      |some c=>Axl c.toNat
      |none=>0)=_
     rw[e1]
    rw[this];rfl
  .cases h
 .cases h
theorem Xg{o:Oper}{s d:TypeId}{x:Operand}(ho:o.op=.convert s d x){k k0:IntKind}(hs:P.underlying s=V (.int k0))(hd:P.underlying d=V (.int k)){ρ:Operand->AV}{r:AV}(h:Adw Ai k (ρ x)=V r):CQ P o ρ=V r:=by
 unfold Adw at h;split at h
 .rename_i k1 n e
  simp only[ξ]at h;subst h;refine MQ (z:=.int k (k.wrap n)) (by rw[ho];rfl) (by rw[ho];simp[Op.operands,e,AV.toVal]) ?_;unfold execOp;rw[ho]
  show AD P (convert s d (B8 ρ x) >>= λy=>pure (Next.value y))=_
  rw[Ay,GG e];have:AD P (convert s d (.int k1 n))=V (.int k (k.wrap n)):=by
   unfold convert;rw[Ay,AR hs];simp only[Av7];rw[Ay,AR hd];rfl
  rw[this];rfl
 .cases h
theorem Ajl(hE:JV P ents)(o:Oper)(T:Ab):Le (mop Ai Γ (Xe P ents o.op) T) (aop P Γ o (AS T)):=by
 unfold aop
 cases ho:o.op<;>simp only[Xe]
 case move x=>exact Le.refl _
 case assign x=>exact Le.refl _
 case pick c a b=>
  simp only[mop];split
  .grind [Le.refl]
  .exact Le.fail _
 case alloc t=>
  unfold allocA
  cases e:C0 P t with
  |none=>exact Le.fail _
  |some z=>exact Le.refl _
 case box t x=>exact Le.refl _
 case build t ps=>
  cases e:C0 P t with
  |none=>exact Le.fail _
  |some z=>
   obtain⟨k1,k2⟩:=Afm e T ps.toList
   cases e1:CP P t with
   |some fs=>
    simp only
    cases e2:JF P fs.toList with
    |none=>exact Le.fail _
    |some pl=>
     simp only[mop];rw[k1 e1 e2];exact Le.refl _
   |none=>
    simp only
    cases e2:OO P t with
    |none=>exact Le.fail _
    |some et=>
     simp only
     cases e3:DS P et with
     |none=>exact Le.fail _
     |some s=>
      simp only[mop];rw[k2 e1 e2 e3];exact Le.refl _
 case buildSlice t n ps=>
  cases e:Cs P t with
  |none=>exact Le.fail _
  |some et=>
   simp only
   cases e2:DS P et with
   |none=>exact Le.fail _
   |some s=>
    cases e3:C0 P et with
    |none=>exact Le.fail _
    |some z=>
     simp only[mop];rw[XW e e2 e3];exact Le.refl _
 case load t a=>
  cases e:Cn P t with
  |none=>exact Le.fail _
  |some b=>
   cases b with
   |true=>
    cases e2:DS P t with
    |none=>exact Le.fail _
    |some n=>exact Ox e (λ_=>e2) _
   |false=>exact Ox (n:=0) e (λh=>by cases h) _
 case store t a x=>
  cases e:DS P t with
  |none=>exact Le.fail _
  |some n=>exact Afp e _ _
 case nilCheck x=>
  simp only[mop];split<;>first
   |exact Le.fail _
   |(rename_i e;rw[e];exact Le.refl _)
 case binOp b t x y yt=>
  split
  .rename_i ks hk
   split
   .exact Le.ret λr h=>Rn ho hk (neg:=Θ) rfl h
   .exact Le.ret λr h=>Rn ho hk (neg:=U) rfl h
   .exact Le.fail _
  .split
   .exact Le.fail _
   .rename_i k hk
    exact Le.ret λr h=>AaV ho h
 case unOp u t x=>
  cases u<;>simp only<;>try exact Le.fail _
  case not=>
   exact Le.opt λr h=>by
    unfold ArR at h;split at h
    .rename_i c e
     simp only[ξ]at h;subst h;rw[AeB ho e];rfl
    .cases h
  case neg=>
   exact Le.opt λr h=>by
    unfold ArO at h;split at h
    .grind [ξ,AeA]
    .cases h
 case makeFunc f a c=>
  simp only[mop,JE];exact Le.refl _
 case slice t x lo hi mx=>
  cases mx with
  |some m=>exact Le.fail _
  |none=>
   simp only
   cases e:Cs P t with
   |none=>
    simp only;split
    .rename_i hst
     refine Le.ret λr h=>?_
     have ht:P.underlying t=V .string:=by
      grind [B7]
     have hn:K6 P t (AS T x) (lo.map (AS T)) (hi.map (AS T))=Δ:=by
      unfold K6;rw[e];split<;>rename_i q<;>first|cases q|rfl
     rw[hn];simp only;rw[TT ho ht h];rfl
    .exact Le.fail _
   |some et=>
    simp only
    cases e2:DS P et with
    |none=>exact Le.fail _
    |some s=>
     refine Le.ret λr h=>?_
     rw[AgX e e2 h]
 case fieldAddr t a f=>
  cases e:CP P t with
  |none=>exact Le.fail _
  |some fs=>
   simp only
   cases e2:fs[f]? with
   |none=>exact Le.fail _
   |some fd=>
    simp only;split
    .rename_i n e3
     refine Le.opt λr h=>?_
     unfold HY;rw[e];simp only[e2,e3];exact h
    .exact Le.fail _
 case field t x f=>
  cases e:CP P t with
  |none=>exact Le.fail _
  |some fs=>
   simp only
   cases e2:fs[f]? with
   |none=>exact Le.fail _
   |some fd=>
    simp only;have key:∀{row:Bool} {n:Nat},Cn P fd.type=V row->(row=U->DS P fd.type=V n)->Le (AM.opt (Xy row fd.offset n (AS T x))) (AM.opt (O7 P t (AS T x) f)):=λh1 h2=>by
     refine Le.opt λr h=>?_
     unfold Xy at h;unfold O7;rw[e];split at h
     .grind [Z3]
     .cases h
    cases e3:Cn P fd.type with
    |none=>exact Le.fail _
    |some b=>
     cases b with
     |true=>
      cases e4:DS P fd.type with
      |none=>exact Le.fail _
      |some n=>exact key e3 λ_=>e4
     |false=>exact key e3 λh=>by cases h
 case indexAddr t x i=>
  cases e:Cs P t with
  |some et=>
   simp only
   cases e2:DS P et with
   |none=>exact Le.fail _
   |some s=>
    refine Le.ret λr h=>?_
    rw[Ae3 e e2 h]
  |none=>
   have e0:DY P t (AS T x) (AS T i)=Δ:=by
    unfold DY;rw[e];split<;>first|rfl|simp_all
   cases e1:QL P t with
   |none=>exact Le.fail _
   |some ne=>
    obtain⟨n,et⟩:=ne;simp only
    cases e2:DS P et with
    |none=>exact Le.fail _
    |some s=>
     simp only[mop];rw[e0];refine Le.opt λr h=>?_
     unfold SD at h;unfold Lg;rw[e1];split at h
     .rename_i j ej
      rw[ej];simp only[e2];split at h
      .simp_all
      .cases h
     .cases h
 case index t x i=>
  cases e1:QL P t with
  |none=>
   simp only;split
   .rename_i hst
    refine Le.ret λr h=>?_
    have ht:P.underlying t=V .string:=by
     grind [B7]
    have hn:IX P t (AS T x) (AS T i)=Δ:=by
     unfold IX;rw[e1];split
     .rename_i q _
      cases q
     .rfl
    rw[hn];simp only;rw[Yv ho ht h];rfl
   .exact Le.fail _
  |some ne=>
   obtain⟨n,et⟩:=ne
   show Le (mop Ai Γ (match DS P et,Cn P et with
    |some e,V U=>MO.index n e U e x i
    |some e,V Θ=>MO.index n e Θ 0 x i
    |_,_=>MO.bad) T) _
   have key:∀{row:Bool} {s m:Nat},Cn P et=V row->DS P et=V s->(row=U->m=s)->Le (AM.opt (Pu n s row m (AS T x) (AS T i))) (match IX P t (AS T x) (AS T i) with
     |some r=>AM.ret r
     |none=>AM.opt (CQ P o (AS T))):=λ{row s m} h1 h2 h3=>by
    refine Le.ret λr h=>?_
    have:IX P t (AS T x) (AS T i)=V r:=by
     unfold Pu at h;unfold IX;rw[e1];split at h
     .rename_i cs j ej1 ej2
      simp only[ej1,ej2,h2];split at h
      .rename_i hlt
       have:j+1<=n:=by simpa[Awv]using hlt
       rw[Ac (by omega),←Z3 (n:=m) h1 (λhr=>by rw[h3 hr];exact h2)];exact h
      .cases h
     .cases h
    rw[this]
   cases e2:DS P et with
   |none=>exact Le.fail _
   |some s=>
    cases e3:Cn P et with
    |none=>exact Le.fail _
    |some b=>
     cases b with
     |true=>exact key e3 e2 λ_=>rfl
     |false=>exact key e3 e2 λh=>by cases h
 case extract x i=>exact Le.refl _
 case makeSlice t l c=>
  cases e:Nz P t with
  |none=>exact Le.fail _
  |some ezb=>
   obtain⟨s,z,b⟩:=ezb;exact AiE e _ _
 case call c=>
  cases hc:c.callee with
  |invoke=>exact Le.fail _
  |value f=>
   simp only
   cases f with
   |func g=>
    simp only;split
    .simp_all [mop,AS,Le.refl,List.append_nil,List.nil_append,Ac,JE]
    .exact Le.fail _
   |tmp t=>
    simp only[mop,JE];split
    .rename_i g a cs e
     rw[e];simp only;split
     .rename_i hb
      rw[Ac (hE g hb)];exact Le.refl _
     .exact Le.fail _
    .exact Le.fail _
   |const v=>
    simp only[mop,JE];split
    .rename_i g a cs e
     rw[e];simp only;split
     .rename_i hb
      rw[Ac (hE g hb)];exact Le.refl _
     .exact Le.fail _
    .exact Le.fail _
   |global v=>
    simp only[mop,JE];split
    .rename_i g a cs e
     rw[e];simp only;split
     .rename_i hb
      rw[Ac (hE g hb)];exact Le.refl _
     .exact Le.fail _
    .exact Le.fail _
  |builtin b=>
   cases b<;>simp only<;>try exact Le.fail _
   .-- append
    split
    .rename_i s x t u ea et
     rw[ea];simp only[et];split
     .rename_i e b' h1 h2
      exact Abo h1 h2 _ _
     .rename_i e z b' h1 h2
      split
      .rename_i h3
       exact AiC h1 h3 _ _
      .exact Le.fail _
     .exact Le.fail _
    .exact Le.fail _
   .-- clear
    split
    .rename_i x t ea et
     rw[ea];simp only[et];split
     .rename_i ett h1
      split
      .rename_i e z h2 h3
       split
       .rename_i h4
        exact Afn h1 h2 h3 h4 _
       .exact Le.fail _
      .exact Le.fail _
     .exact Le.fail _
    .exact Le.fail _
   .-- copy
    split
    .rename_i s x t u ea et
     rw[ea];simp only[et];split
     .rename_i ett h1 h2
      cases e2:DS P ett with
      |none=>exact Le.fail _
      |some s=>exact AiD h1 e2 _ _
     .exact Le.fail _
    .exact Le.fail _
   .-- len
    split
    .rename_i x t ea et
     rw[ea,et];split
     .rename_i h1
      exact Afo ho hc ea et (by rw[Ac rfl];exact h1) _
     .rename_i h1
      split
      .rename_i h2
       exact Afo ho hc ea et (by rw[Ad (by simp)];exact⟨by simpa using h1,h2⟩) _
      .exact Le.fail _
    .exact Le.fail _
   .split
    .rename_i x y ea
     exact Afl ho hc ea _ (.inl ⟨rfl,rfl⟩)
    .exact Le.fail _
   .split
    .rename_i x y ea
     exact Afl ho hc ea _ (.inr ⟨rfl,rfl⟩)
    .exact Le.fail _
 case convert s d x=>
  split
  .rename_i k0 k hs hd
   have b1:DU P s=Θ:=by
    unfold DU Cs;rw[hs]
   have b2:B7 P s=Θ:=by
    unfold B7;rw[hs]
   rw[Ad (by rw[b1];simp),b2,Bool.false_and];refine Le.ret λr h=>?_
   have:=Xg ho hs hd h;simp only;rw[this];rfl
  .cases b1:DU P s with
   |false=>exact Le.fail _
   |true=>
    cases b2:B7 P d with
    |false=>exact Le.fail _
    |true=>
     simp only[mop,strM]
     cases b3:QU (AS T x) with
     |false=>exact Le.fail _
     |true=>
      rw[Ac (by first|exact⟨trivial,trivial,rfl⟩|exact⟨trivial,trivial,b3⟩|simp_all)];exact Le.bind (Tg _ _) λ_=>Le.refl _
 all_goals exact Le.fail _
end
section
variable {A:Ar}
theorem Loc.loadM(row:Bool)(n:Nat)(a:AV):Loc (loadM row n a):=by
 unfold Go.Proofs.YtlmhajfbpplpoaaGreat.loadM
 cases row
 .grind [Loc.bind,Loc.opt,Loc.rdAt]
 .grind [Loc.bind,Loc.rdAt,Loc.ret]
theorem Loc.storeM(n:Nat)(a x:AV):Loc (storeM n a x):=by
 unfold Go.Proofs.YtlmhajfbpplpoaaGreat.storeM;split
 .exact Loc.ite (Loc.bind (Loc.getB _) λk=>Loc.ite (Loc.bind (Loc.setB _ _) λ_=>Loc.ret _) Loc.fail) Loc.fail
 .exact Loc.fail
theorem Loc.buildSlM(z:AN)(e n:Nat)(ps:List (Nat × AV)):Loc (buildSlM z e n ps):=by
 grind [Go.Proofs.YtlmhajfbpplpoaaGreat.buildSlM,Loc.bind,Loc.fail,Loc.newB,Loc.ret]
theorem Loc.newsM(e:Nat)(x:AV):Loc (newsM e x):=by
 unfold Go.Proofs.YtlmhajfbpplpoaaGreat.newsM;split
 .grind [Loc.bind,Loc.fail,Loc.getB,Loc.ret]
 .grind [Loc.fail,Loc.ret]
 .exact Loc.ret _
 .exact Loc.fail
theorem Loc.appR(e b:Nat)(s:AV)(r:Nat × Ab):Loc (appR e b s r):=by
 unfold Go.Proofs.YtlmhajfbpplpoaaGreat.appR
 repeat' split
 all_goals first
  |exact Loc.fail
  |exact Loc.ret _
  |exact Loc.bind (Loc.newB _) λ_=>Loc.ret _
  |refine Loc.bind (Loc.getB _) λk=>?_
 repeat' split
 all_goals first
  |exact Loc.fail
  |exact Loc.bind (Loc.delB _) λ_=>Loc.bind (Loc.newB _) λ_=>Loc.ret _
  |exact Loc.bind (Loc.setB _ _) λ_=>Loc.bind (Loc.newB _) λ_=>Loc.ret _
theorem Loc.appM(e b:Nat)(s x:AV):Loc (appM e b s x):=Loc.bind (Loc.newsM _ _) λr=>Loc.appR _ _ _ _
theorem Loc.appzM(z:AN)(e b:Nat)(s x:AV):Loc (appzM z e b s x):=by
 refine Loc.bind ?_ λr=>Loc.appR _ _ _ _
 unfold Tp
 repeat' split
 all_goals first
  |exact Loc.fail
  |exact Loc.ret _
theorem Loc.mkslM(z:AN)(e b:Nat)(l c:AV):Loc (mkslM z e b l c):=by
 grind [Go.Proofs.YtlmhajfbpplpoaaGreat.mkslM,Loc.bind,Loc.fail,Loc.newB,Loc.ret]
theorem Loc.cpyM(e:Nat)(d x:AV):Loc (cpyM e d x):=by
 unfold Go.Proofs.YtlmhajfbpplpoaaGreat.cpyM;split
 .grind [Loc.bind,Loc.fail,Loc.getB,Loc.newsM,Loc.ret,Loc.setB]
 .exact Loc.fail
theorem Loc.clrM(z:AN)(e:Nat)(x:AV):Loc (clrM z e x):=by
 unfold Go.Proofs.YtlmhajfbpplpoaaGreat.clrM;split
 .grind [Loc.bind,Loc.fail,Loc.getB,Loc.ret,Loc.setB]
 .exact Loc.fail
theorem Loc.strM(x:AV):Loc (strM x):=by
 grind [Go.Proofs.YtlmhajfbpplpoaaGreat.strM,Loc.bind,Loc.fail,Loc.newsM,Loc.opt]
theorem Loc.mop{Γ:FuncId->Ab->AM AV}(hΓ:∀ f args,Loc (Γ f args))(o:MO)(T:Ab):Loc (mop A Γ o T):=by
 unfold Go.Proofs.YtlmhajfbpplpoaaGreat.mop
 repeat' split
 all_goals first
  |exact Loc.fail
  |exact Loc.ret _
  |exact Loc.opt _
  |exact Loc.boxA _
  |exact Loc.bind (Loc.newB _) λ_=>Loc.ret _
  |exact Loc.buildSlM _ _ _ _
  |exact Loc.loadM _ _ _
  |exact Loc.storeM _ _ _
  |exact Loc.mkslM _ _ _ _ _
  |exact Loc.appM _ _ _ _
  |exact Loc.appzM _ _ _ _ _
  |exact Loc.cpyM _ _ _
  |exact Loc.clrM _ _ _
  |exact Loc.strM _
  |exact hΓ _ _
theorem Loc.coreM{Γ:FuncId->Ab->AM AV}(hΓ:∀ f args,Loc (Γ f args))(o:MOp)(T:Ab):Loc (coreM A Γ o T):=by
 grind [Go.Proofs.YtlmhajfbpplpoaaGreat.coreM,Loc.fail,Loc.mop,Loc.ret]
def chainM(A:Ar)(Γ:FuncId->Ab->AM AV)(l:List MOp)(T:Ab):AM (Ab × List Foot):=λH=>match runM A Γ l T H with
 |some (T',H',fs)=>V ((T',fs),H',⟨fs.flatMap (·.rd),fs.flatMap (·.wr)⟩)
 |none=>Δ
theorem Uq(Γ:FuncId->Ab->AM AV)(o:MOp)(r:List MOp)(T:Ab) :
  chainM A Γ (o::r) T=(logged (coreM A Γ o T)).bind λvf=>(chainM A Γ r (Cx T o.dst vf.1)).bind λq=>AM.ret (q.1,vf.2::q.2):=by
 funext H
 simp only[chainM,runM,AM.bind,logged,AM.ret];rcases Go.Proofs.YtlmhajfbpplpoaaGreat.coreM A Γ o T H with _|⟨v,H1,f⟩
 .rfl
 simp only;rcases runM A Γ r (Cx T o.dst v) H1 with _|⟨T2,H2,fs⟩
 .rfl
 .simp
theorem Loc.chainM{Γ:FuncId->Ab->AM AV}(hΓ:∀ f args,Loc (Γ f args)):∀(l:List MOp) (T:Ab),Loc (chainM A Γ l T)
 |[],T=>by
  have:Go.Proofs.YtlmhajfbpplpoaaGreat.chainM A Γ [] T=AM.ret (T,[]):=by funext H;simp[Go.Proofs.YtlmhajfbpplpoaaGreat.chainM,runM,AM.ret]
  rw[this];exact Loc.ret _
 |o::r,T=>by
  rw[Uq];exact Loc.bind (Loc.logged (Loc.coreM hΓ o T)) λ_=>Loc.bind (Loc.chainM hΓ r _) λ_=>Loc.ret _
theorem AjF(Γ:FuncId->Ab->AM AV)(ops:List MOp)(bf:Option (Al))(T:Ab) :
  regM A Γ ops bf T=(chainM A Γ ops T).bind λr=>match bf with
   |none=>AM.ret (.normal,r.1)
   |some bf=>(match Fe bf r.2 with
    |true=>AM.ret (.normal,r.1)
    |false=>AM.fail):=by
 funext H
 unfold Go.Proofs.YtlmhajfbpplpoaaGreat.regM Go.Proofs.YtlmhajfbpplpoaaGreat.chainM AM.bind
 cases e0:runM A Γ ops T H with
 |none=>simp[e0]
 |some r=>
  obtain⟨T',H',fs⟩:=r
  cases bf with
  |none=>simp[AM.ret,e0]
  |some bf=>cases e:Fe bf fs<;>simp[AM.ret,AM.fail,e,e0]
theorem Loc.regM{Γ:FuncId->Ab->AM AV}(hΓ:∀ f args,Loc (Γ f args))(ops:List MOp)(bf:Option (Al))(T:Ab):Loc (regM A Γ ops bf T):=by
 grind [Loc.bind,Loc.chainM,Loc.fail,Loc.ret,AjF]
theorem Loc.adoptB1(b i e:Nat):Loc (adoptB1 b i e):=by
 grind [Go.Proofs.YtlmhajfbpplpoaaGreat.adoptB1,Loc.bind,Loc.fail,Loc.getB,Loc.newB,Loc.ret,Loc.setB]
theorem Loc.nilB(b i:Nat):Loc (nilB b i):=by
 grind [Go.Proofs.YtlmhajfbpplpoaaGreat.nilB,Loc.bind,Loc.getB,Loc.ret,Loc.setB]
theorem Loc.adoptB(b i e:Nat):Loc (adoptB b i e):=by
 grind [Go.Proofs.YtlmhajfbpplpoaaGreat.adoptB,Loc.adoptB1,Loc.nilB]
theorem Loc.adoptM:∀(l:List (Nat × Nat)) (T:Ab),Loc (adoptM l T)
 |[],T=>Loc.ret _
 |(t,e)::r,T=>by
  unfold Go.Proofs.YtlmhajfbpplpoaaGreat.adoptM;split
  .exact Loc.bind (Loc.newB _) λb=>Loc.adoptM r _
  .split
   .exact Loc.bind (Loc.adoptB _ _ _) λ_=>Loc.adoptM r T
   .exact Loc.adoptM r T
theorem Loc.frz0(x:AV):Loc (frz0 x):=by
 unfold Go.Proofs.YtlmhajfbpplpoaaGreat.frz0;split<;>first
  |exact Loc.ret _
  |exact Loc.fail
mutual
theorem Loc.frz:∀(n:Nat) (x:AV),Loc (frz n x)
 |0,x=>by
  unfold Go.Proofs.YtlmhajfbpplpoaaGreat.frz;exact Loc.frz0 x
 |n+1,x=>by
  unfold Go.Proofs.YtlmhajfbpplpoaaGreat.frz;split
  .exact Loc.ret _
  .refine Loc.bind (Loc.getB _) λk=>?_
   split
   .exact Loc.fail
   .refine Loc.bind ?_ λ_=>?_
    .split
     .exact Loc.setB _ _
     .exact Loc.ret _
    .split
     .exact Loc.ret _
     .refine Loc.bind (Loc.frzL n _) λcs=>?_
      split
      .exact Loc.ret _
      .exact Loc.fail
  .exact Loc.bind (Loc.frzL n _) λ_=>Loc.ret _
  .exact Loc.bind (Loc.frzL n _) λ_=>Loc.ret _
  .exact Loc.ret _
theorem Loc.frzL:∀(n:Nat) (l:Ab),Loc (frzL n l)
 |n,[]=>by
  unfold Go.Proofs.YtlmhajfbpplpoaaGreat.frzL;exact Loc.ret _
 |0,_::_=>by
  unfold Go.Proofs.YtlmhajfbpplpoaaGreat.frzL;exact Loc.fail
 |n+1,x::r=>by
  unfold Go.Proofs.YtlmhajfbpplpoaaGreat.frzL;exact Loc.bind (Loc.frz n x) λ_=>Loc.bind (Loc.frzL n r) λ_=>Loc.ret _
end
theorem Loc.frzB(b:Nat):Loc (frzB b):=by
 grind [Go.Proofs.YtlmhajfbpplpoaaGreat.frzB,Loc.bind,Loc.fail,Loc.frzL,Loc.getB,Loc.ret,Loc.setB]
theorem Loc.frzT:∀(l:Al) (T:Ab),Loc (frzT l T)
 |[],T=>Loc.ret _
 |t::r,T=>by
  unfold Go.Proofs.YtlmhajfbpplpoaaGreat.frzT;split
  .exact Loc.bind (Loc.frzB _) λ_=>Loc.frzT r T
  .exact Loc.bind (Loc.frz _ _) λ_=>Loc.frzT r _
  .exact Loc.frzT r T
theorem Loc.evC{Γ:FuncId->Ab->AM AV}{Λ:Nat->Ab->AM (AX × Ab)}(hΓ:∀ f args,Loc (Γ f args))(hΛ:∀ i T,Loc (Λ i T)):∀(c:MC) (T:Ab),Loc (evC A Γ Λ c T)
 |.skip,T=>Loc.ret _
 |.reg ops bf,T=>Loc.regM hΓ _ _ _
 |.seq a b,T=>by
  unfold Go.Proofs.YtlmhajfbpplpoaaGreat.evC;refine Loc.bind (Loc.evC hΓ hΛ a T) λr=>?_
  split
  .exact Loc.evC hΓ hΛ b _
  .exact Loc.ret _
 |.cond c a b,T=>by
  unfold Go.Proofs.YtlmhajfbpplpoaaGreat.evC;split
  .split
   .exact Loc.evC hΓ hΛ a T
   .exact Loc.evC hΓ hΛ b T
  .exact Loc.fail
 |.block id c,T=>by
  unfold Go.Proofs.YtlmhajfbpplpoaaGreat.evC;refine Loc.bind (Loc.evC hΓ hΛ c T) λr=>?_
  split
  .simp_all [Loc.ite,Loc.ret]
  .exact Loc.ret _
 |.loop i h,T=>by
  grind [Go.Proofs.YtlmhajfbpplpoaaGreat.evC,Loc.adoptM,Loc.bind,Loc.fail,Loc.frzT,Loc.ret]
 |.exit id,T=>Loc.ret _
 |.ret,T=>Loc.ret _
 |.bad,_=>Loc.fail
theorem Loc.delC(b i:Nat):Loc (delC b i):=by
 grind [Go.Proofs.YtlmhajfbpplpoaaGreat.delC,Loc.bind,Loc.delB,Loc.getB,Loc.ret]
theorem Loc.delT:∀(l:Al) (T:Ab),Loc (delT l T)
 |[],T=>Loc.ret _
 |t::r,T=>by
  unfold Go.Proofs.YtlmhajfbpplpoaaGreat.delT;split
  .exact Loc.bind (Loc.delB _) λ_=>Loc.delT r T
  .exact Loc.bind (Loc.delB _) λ_=>Loc.delT r T
  .split
   .exact Loc.bind (Loc.delC _ _) λ_=>Loc.delT r T
   .exact Loc.delT r T
theorem Loc.touchS(x:AV):Loc (touchS x):=by
 unfold Go.Proofs.YtlmhajfbpplpoaaGreat.touchS;split
 .grind [Loc.bind,Loc.delB,Loc.getB,Loc.newB,Loc.ret]
 .exact Loc.ret _
theorem Loc.touchL:∀ l:Ab,Loc (touchL l)
 |[]=>Loc.ret _
 |x::r=>by
  unfold Go.Proofs.YtlmhajfbpplpoaaGreat.touchL;exact Loc.bind (Loc.touchS x) λ_=>Loc.bind (Loc.touchL r) λ_=>Loc.ret _
theorem Loc.touchB(b:Nat):Loc (touchB b):=by
 grind [Go.Proofs.YtlmhajfbpplpoaaGreat.touchB,Loc.bind,Loc.fail,Loc.getB,Loc.ret,Loc.setB,Loc.touchL]
theorem Loc.touchI:∀ l:Al,Loc (touchI l)
 |[]=>Loc.ret _
 |b::r=>by
  unfold Go.Proofs.YtlmhajfbpplpoaaGreat.touchI;exact Loc.bind (Loc.touchB b) λ_=>Loc.touchI r
theorem Loc.touchV(x:AV):Loc (touchV x):=by
 unfold Go.Proofs.YtlmhajfbpplpoaaGreat.touchV;split
 .exact Loc.touchS _
 .grind [Loc.bind,Loc.ret,Loc.touchI,Loc.touchL]
 .grind [Loc.bind,Loc.ret,Loc.touchI]
theorem Loc.touchA:∀(m:List Bool) (l:Ab),Loc (touchA m l)
 |m,[]=>by cases m with
  |nil=>exact Loc.ret _
  |cons b m=>cases b<;>exact Loc.ret _
 |true::m,x::r=>by
  unfold Go.Proofs.YtlmhajfbpplpoaaGreat.touchA;exact Loc.bind (Loc.touchI _) λ_=>Loc.bind (Loc.touchA m r) λ_=>Loc.ret _
 |false::m,x::r=>by
  unfold Go.Proofs.YtlmhajfbpplpoaaGreat.touchA;exact Loc.bind (Loc.touchV x) λ_=>Loc.bind (Loc.touchA m r) λ_=>Loc.ret _
 |[],x::r=>by
  unfold Go.Proofs.YtlmhajfbpplpoaaGreat.touchA;exact Loc.bind (Loc.touchV x) λ_=>Loc.bind (Loc.touchA [] r) λ_=>Loc.ret _
end
def Gh(μ:Mu)(F:AQ)(w:World)(H H':AH)(Q:Mu->AQ->Prop):Prop:=
 ∃ μ' F',Later μ μ' F F' w w/\HRep μ' F' w H'.get/\(∀ b,(b<H.next\/H'.next<=b)->μ' b=μ b)/\Q μ' F'
section
variable {μ:Mu} {F:AQ} {w:World} {H H1 H2:AH}
theorem Gh.same{Q:Mu->AQ->Prop}(hH:HRep μ F w H.get)(h:Q μ F):Gh μ F w H H Q:=⟨μ,F,Later.refl _ _ _,hH,λ_ _=>rfl,h⟩
theorem Gh.trans{Q:Mu->AQ->Prop}(hn1:H.next<=H1.next)(hn2:H1.next<=H2.next){Q1:Mu->AQ->Prop}(h:Gh μ F w H H1 Q1)(k:∀ μ' F',Later μ μ' F F' w w->HRep μ' F' w H1.get->(∀ b,(b<H.next\/H1.next<=b)->μ' b=μ b)->Q1 μ' F'->Gh μ' F' w H1 H2 Q):Gh μ F w H H2 Q:=by
 obtain⟨μ1,F1,h1,h2,h3,h4⟩:=h;obtain⟨μ2,F2,k1,k2,k3,k4⟩:=k μ1 F1 h1 h2 h3 h4;refine⟨μ2,F2,h1.trans k1,k2,λb hb=>?_,k4⟩;rw[k3 b (by omega),h3 b (by omega)]
theorem Gh.mono{Q Q':Mu->AQ->Prop}(h:Gh μ F w H H1 Q)(k:∀ μ' F',Later μ μ' F F' w w->Q μ' F'->Q' μ' F'):Gh μ F w H H1 Q':=by
 obtain⟨μ1,F1,h1,h2,h3,h4⟩:=h;exact⟨μ1,F1,h1,h2,h3,k _ _ h1 h4⟩
theorem Rc:∀(n e:Nat) (l:Ab) (i:Nat),(Bo n e l)[i]? = if i<n then V ((l.drop (i*e)).take e) else Δ
 |0,e,l,i=>by simp[Bo]
 |n+1,e,l,0=>by simp[Bo]
 |n+1,e,l,i+1=>by
  simp only[Bo,List.getElem?_cons_succ,Rc n e (l.drop e) i,List.drop_drop,Nat.add_lt_add_iff_right];rw[show e+i*e=(i+1)*e by rw[Nat.add_mul];omega]
theorem Hy:∀(n e:Nat) (l:Ab),(Bo n e l).length=n
 |0,e,l=>rfl
 |n+1,e,l=>by simp[Bo,Hy n]
theorem PN{l:Ab}(h:A6 l=U)(n:Nat):A6 (l.take n)=U:=by
 grind [List.mem_of_mem_take,BN]
theorem PL{l:Ab}(h:A6 l=U)(n:Nat):A6 (l.drop n)=U:=by
 grind [List.mem_of_mem_drop,BN]
theorem NP:∀(n e:Nat) {l:Ab},A6 l=U->GA (Bo n e l)=U
 |0,e,l,h=>rfl
 |n+1,e,l,h=>by
  have:=NP n e (PL h e);unfold GA at this ⊢;simp[Bo,PN h,this]
theorem AbY{g q m e c:Nat}{cs:Ab}(hn:A6 cs=U)(hl:cs.length=m*e)(hm:m<=c)(hc:c<=maxLen){u:Value}(hu:u=.slice (V ⟨g,q,Δ⟩) m c)(hr:m≠0->RepAt μ F w g cs q):Rep μ F w (.ls (Bo m e cs)) u:=by
 simp only[Rep];refine⟨NP m e hn,V ⟨g,q,Δ⟩,c,by rw[Hy];exact hu,by rw[Hy];exact hm,hc,λhne=>⟨g,q,e,rfl,?_⟩⟩;have hm0:m≠0:=λh0=>hne (by rw[h0];rfl)
 have hr:=hr hm0;refine RepRows.mk λi x hx=>?_
 rw[Rc]at hx;split at hx
 .rename_i hi
  simp only[ξ]at hx;subst hx;have h1:i*e+e<=m*e:=by rw[←Nat.succ_mul];exact Nat.mul_le_mul_right e hi
  refine⟨by rw[Av6,AwU,hl];omega,?_⟩;have h2:=hr.drop (i*e);refine RepAt.mk λj y hy=>?_
  rw[Awj]at hy;split at hy
  .exact h2.get hy
  .cases hy
 .cases hx
theorem Hg{b:Nat}{k:ABlk}{u:Unit}{H H':AH}{ft:Foot}(h:AM.setB b k H=V (u,H',ft)):H'=H.put b k/\∃ k0,H.get b=V k0:=by
 unfold AM.setB at h
 cases e:H.get b with
 |none=>rw[e]at h;cases h
 |some k0=>
  rw[e]at h;simp only[ξ,Prod.mk.injEq]at h;exact⟨h.2.1.symm,k0,rfl⟩
theorem UH(n:Nat)(x:AV){y:AV}{H':AH}{ft:Foot}(hw:H.wf)(h:frz n x H=V (y,H',ft)):H.next<=H'.next/\H'.wf:=⟨(Loc.frz n x H y H' ft hw h).next,(Loc.frz n x H y H' ft hw h).wf⟩
theorem Rr(n:Nat)(x:Ab){y:Ab}{H':AH}{ft:Foot}(hw:H.wf)(h:frzL n x H=V (y,H',ft)):H.next<=H'.next/\H'.wf:=⟨(Loc.frzL n x H y H' ft hw h).next,(Loc.frzL n x H y H' ft hw h).wf⟩
theorem Ao7{b:Nat}{k k0:ABlk}(hw:H.wf)(hb:H.get b=V k0):(H.put b k).wf:=λc h1 h2=>by
 rw[AH.get_put]
 by_cases hcb:c=b
 .subst hcb
  rw[hw c h1 h2]at hb
  cases hb
 .rw[Ad hcb];exact hw c h1 h2
theorem P8{z u:Value}(hx:Rep μ F w (.v z) u):Rep μ F w (PJ z) u:=by
 unfold PJ;split
 .rename_i e
  simp only[Rep]at hx ⊢;rw[hx.1,G5 e];exact⟨rfl,Δ,0,rfl,η _,Awh _,λh=>absurd rfl h⟩
 .exact hx
end
mutual
theorem JB:∀(n:Nat) (x:AV) {μ:Mu} {F:AQ} {w:World} {H:AH} {u:Value} {y:AV} {H':AH} {ft:Foot},Rep μ F w x u->HRep μ F w H.get->H.wf->frz n x H=V (y,H',ft)->Gh μ F w H H' λμ' F'=>Rep μ' F' w y u
 |0,x,μ,F,w,H,u,y,H',ft,hx,hH,hw,h=>by
  simp only[frz]at h
  cases x<;>simp only[frz0]at h<;>first
   |exact(At h).elim
   | (obtain⟨rfl,rfl⟩:=Au h
      first
       |exact Gh.same hH hx
       |exact Gh.same hH (P8 hx))
 |n+1,.v z,μ,F,w,H,u,y,H',ft,hx,hH,hw,h=>by
  simp only[frz]at h;obtain⟨rfl,rfl⟩:=Au h;exact Gh.same hH (P8 hx)
 |n+1,.sl b o m e,μ,F,w,H,u,y,H',ft,hx,hH,hw,h=>by
   simp only[frz]at h;obtain⟨k,H1,f1,f2,h1,h2⟩:=bind_some h;obtain⟨hk,e1⟩:=BY h1;rw[e1]at h2
   cases hle:AvL (o+m*e) k.cells.length with
   |false=>rw[hle]at h2;exact(At h2).elim
   |true=>
    rw[hle]at h2;have hle':o+m*e<=k.cells.length:=by simpa using hle
    obtain⟨_,H2,f3,f4,h3,h4⟩:=bind_some h2;simp only[Rep]at hx;obtain⟨p,hp,hu⟩:=hx;obtain⟨p',hp',hB⟩:=hH.blk b k hk;rw[hp]at hp'
    cases hp'
    have step:∃ F1,Later μ μ F F1 w w/\HRep μ F1 w H2.get/\(∀ i,i<k.cells.length->F1 p.g (p.o+i))/\H2.next=H.next/\H2.wf:=by
     cases hst:k.st with
     |true=>
      rw[hst]at h3;obtain⟨e2,k0,hk0⟩:=Hg h3;obtain⟨g1,g2⟩:=RA hH hk hp;refine⟨_,g2,?_,λi hi=>.inr ⟨rfl,by omega,by omega⟩,by rw[e2];rfl,by rw[e2];exact Ao7 hw hk0⟩;have:H2.get=λc=>if c=b then V { k with st:=Θ } else H.get c:=by
       funext c
       rw[e2,AH.get_put]
      rw[this];exact g1
     |false=>
      rw[hst]at h3;obtain⟨_,e2⟩:=Au h3;rw[e2];exact⟨F,Later.refl _ _ _,hH,λi hi=>hB.kept hst i hi,rfl,hw⟩
    obtain⟨F1,g1,g2,g3,g4,g5⟩:=step;obtain⟨us,r1,r2⟩:=DN (g:=p.g) (cs:=(k.cells.drop o).take (m*e)) (o:=p.o+o) (μ:=μ) (F:=F1) (w:=w) (by
     intro i x hi;rw[Awj]at hi;split at hi
     .rw[List.getElem?_drop]at hi
      obtain⟨u',q1,q2⟩:=hB.cell (o+i) x hi;exact⟨u',by rw[AvQ];exact q1,q2.later g1⟩
     .cases hi)
    have hlen:us.length=m*e:=by
     rw[r1.length,Av6,AwU];omega
    have fin:∀{cs:Ab} {H3:AH},H2.next<=H3.next->A6 cs=U->Gh μ F1 w H2 H3 (λμ' F'=>RepList μ' F' w cs us)->Gh μ F w H H3 λμ' F'=>Rep μ' F' w (.ls (Bo m e cs)) u:=by
     intro cs H3 n3 hno hG;refine Gh.trans (H1:=H2) (by omega) n3 (Q1:=λμ' F'=>μ'=μ/\F'=F1) ⟨μ,F1,g1,g2,λ_ _=>rfl,rfl,rfl⟩ ?_;rintro μ' F' _ _ _ ⟨rfl,rfl⟩;refine hG.mono λμ2 F2 l2 hr=>?_
     have hcl:cs.length=m*e:=by rw[←hr.length,hlen]
     rcases hu with⟨rfl,rfl⟩|⟨q,c,rfl,hq,hmc,hcm,hroom⟩
     .simp only[Bo,Rep]
      exact⟨rfl,Δ,0,rfl,η _,Awh _,λh=>absurd rfl h⟩
     .refine AbY hno hcl hmc hcm rfl λhm0=>?_
      have hq':=hq (by omega);rw[hq'];refine RepAt.mk λi x hi=>?_
      obtain⟨v,v1,v2⟩:=hr.get hi;have hi':i<m*e:=by rw[←hcl];exact(List.getElem?_eq_some_iff.1 hi).1
      refine⟨(l2.prot _ _ (by rw[AvQ];exact g3 (o+i) (by omega))).1,v,r2 i v v1,v2⟩
    cases hno0:(k.ex||A6 ((k.cells.drop o).take (m*e))) with
    |true=>
     rw[hno0]at h4;obtain⟨rfl,rfl⟩:=Au h4;have hno:A6 ((k.cells.drop o).take (m*e))=U:=by
      cases hx:k.ex with
      |true=>exact PN (PL (hB.pure hx) _) _
      |false=>rw[hx,Bool.false_or]at hno0;exact hno0
     exact fin (η _) hno (Gh.same g2 r1)
    |false=>
     rw[hno0]at h4;obtain⟨cs,H3,f5,f6,h5,h6⟩:=bind_some h4;have hG:=FR n _ r1 g2 g5 h5;obtain⟨n3,w3⟩:=Rr n _ g5 h5
     cases hno:A6 cs with
     |true=>
      rw[hno]at h6;obtain⟨rfl,rfl⟩:=Au h6;exact fin n3 hno hG
     |false=>rw[hno]at h6;exact(At h6).elim
 |n+1,.agg cs,μ,F,w,H,u,y,H',ft,hx,hH,hw,h=>by
   simp only[frz]at h;obtain⟨cs',H1,f1,f2,h1,h2⟩:=bind_some h;obtain⟨rfl,rfl⟩:=Au h2;simp only[Rep]at hx;obtain⟨us,rfl,hr⟩:=hx;refine(FR n _ hr hH hw h1).mono λμ' F' _ hq=>?_
   simp only[Rep];exact⟨us,rfl,hq⟩
 |n+1,.tup cs,μ,F,w,H,u,y,H',ft,hx,hH,hw,h=>by
   simp only[frz]at h;obtain⟨cs',H1,f1,f2,h1,h2⟩:=bind_some h;obtain⟨rfl,rfl⟩:=Au h2;simp only[Rep]at hx;obtain⟨us,rfl,hr⟩:=hx;refine(FR n _ hr hH hw h1).mono λμ' F' _ hq=>?_
   simp only[Rep];exact⟨us,rfl,hq⟩
 |n+1,.ptr b o,μ,F,w,H,u,y,H',ft,hx,hH,hw,h=>by
   simp only[frz]at h;obtain⟨rfl,rfl⟩:=Au h;exact Gh.same hH hx
 |n+1,.ls xs,μ,F,w,H,u,y,H',ft,hx,hH,hw,h=>by
   simp only[frz]at h;obtain⟨rfl,rfl⟩:=Au h;exact Gh.same hH hx
 |n+1,.lp xs,μ,F,w,H,u,y,H',ft,hx,hH,hw,h=>by
   simp only[frz]at h;obtain⟨rfl,rfl⟩:=Au h;exact Gh.same hH hx
 |n+1,.fn f a c,μ,F,w,H,u,y,H',ft,hx,hH,hw,h=>by
   simp only[frz]at h;obtain⟨rfl,rfl⟩:=Au h;exact Gh.same hH hx
 |n+1,.any,μ,F,w,H,u,y,H',ft,hx,hH,hw,h=>by
   simp only[frz]at h;obtain⟨rfl,rfl⟩:=Au h;exact Gh.same hH hx
theorem FR:∀(n:Nat) (l:Ab) {μ:Mu} {F:AQ} {w:World} {H:AH} {us:AN} {y:Ab} {H':AH} {ft:Foot},RepList μ F w l us->HRep μ F w H.get->H.wf->frzL n l H=V (y,H',ft)->Gh μ F w H H' λμ' F'=>RepList μ' F' w y us
 |n,[],μ,F,w,H,us,y,H',ft,hx,hH,hw,h=>by
  unfold frzL at h;obtain⟨rfl,rfl⟩:=Au h;exact Gh.same hH hx
 |0,_::_,μ,F,w,H,us,y,H',ft,hx,hH,hw,h=>by
  unfold frzL at h;exact(At h).elim
 |n+1,x::r,μ,F,w,H,us,y,H',ft,hx,hH,hw,h=>by
  unfold frzL at h;obtain⟨x',H1,f1,f2,h1,h2⟩:=bind_some h;obtain⟨r',H2,f3,f4,h3,h4⟩:=bind_some h2;obtain⟨rfl,rfl⟩:=Au h4;simp only[RepList]at hx;obtain⟨u,t,rfl,hu,ht⟩:=hx;obtain⟨n1,w1⟩:=UH n x hw h1;obtain⟨n2,w2⟩:=Rr n r w1 h3;refine Gh.trans n1 n2 (JB n x hu hH hw h1) λμ1 F1 l1 hH1 _ hx1=>?_
  refine(FR n r (ht.later' l1) hH1 w1 h3).mono λμ2 F2 l2 hr2=>?_
  simp only[RepList];exact⟨u,t,rfl,hx1.later l2,hr2⟩
end
