/- The same, computed stric -/
import Derived.Test.YtlmhajfbpplpoaaGreatKAI
set_option linter.all false
open Array renaming toArray_toList->AyG
open Bool renaming false->Θ,true->U,and_eq_true->η,false_eq_true->Awx
open Int renaming ofNat->Ax5
open List renaming all_eq_true->Awu,getElem?_take->Aw8,length_drop->AwR,length_take->AwL
open Nat renaming add_assoc->AwA,beq->AwO,ble->Aww,blt->Axu,eq_of_beq_eq_true->AwH,le_refl->ω,min->Axm,zero_add->AwJ,zero_le->Axb
open Option renaming none->Δ,some->V,bind_some->AwT,map_none->AyL,map_some->AwE
namespace Go.Proofs.YtlmhajfbpplpoaaGreat
open Option.some renaming injEq->δ
open Go.RowKit

structure Ar0 where
 add:IntKind->Int->Int->Int
 sub:IntKind->Int->Int->Int
 mul:IntKind->Int->Int->Int
 quo:IntKind->Int->Int->Int
 rem:IntKind->Int->Int->Int
 bits:BinOp->IntKind->Int->Int->Int
 shl:IntKind->Int->Int->Int
 shr:IntKind->Int->Int->Int
 conv:IntKind->Int->Int
 lt:Int->Int->Bool
 le:Int->Int->Bool
 eq:Int->Int->Bool
 max:Int->Int->Int
 min:Int->Int->Int
 beq:Bool->Bool->Bool
 band:Bool->Bool->Bool
 seq:ByteArray->ByteArray->Bool
 slt:ByteArray->ByteArray->Bool
 slen:ByteArray->Nat
 cat:ByteArray->ByteArray->ByteArray
 sat:ByteArray->Nat->Int
 ssub:ByteArray->Nat->Nat->ByteArray
inductive Ar where
 |mk (r:Ar0)
 |no
def Ar.add(A:Ar)(x0:IntKind)(x1:Int)(x2:Int):Int:=match A with
 |.mk r=>r.add x0 x1 x2
 |.no=>0
def Ar.sub(A:Ar)(x0:IntKind)(x1:Int)(x2:Int):Int:=match A with
 |.mk r=>r.sub x0 x1 x2
 |.no=>0
def Ar.mul(A:Ar)(x0:IntKind)(x1:Int)(x2:Int):Int:=match A with
 |.mk r=>r.mul x0 x1 x2
 |.no=>0
def Ar.quo(A:Ar)(x0:IntKind)(x1:Int)(x2:Int):Int:=match A with
 |.mk r=>r.quo x0 x1 x2
 |.no=>0
def Ar.rem(A:Ar)(x0:IntKind)(x1:Int)(x2:Int):Int:=match A with
 |.mk r=>r.rem x0 x1 x2
 |.no=>0
def Ar.bits(A:Ar)(x0:BinOp)(x1:IntKind)(x2:Int)(x3:Int):Int:=match A with
 |.mk r=>r.bits x0 x1 x2 x3
 |.no=>0
def Ar.shl(A:Ar)(x0:IntKind)(x1:Int)(x2:Int):Int:=match A with
 |.mk r=>r.shl x0 x1 x2
 |.no=>0
def Ar.shr(A:Ar)(x0:IntKind)(x1:Int)(x2:Int):Int:=match A with
 |.mk r=>r.shr x0 x1 x2
 |.no=>0
def Ar.conv(A:Ar)(x0:IntKind)(x1:Int):Int:=match A with
 |.mk r=>r.conv x0 x1
 |.no=>0
def Ar.lt(A:Ar)(x0:Int)(x1:Int):Bool:=match A with
 |.mk r=>r.lt x0 x1
 |.no=>Θ
def Ar.le(A:Ar)(x0:Int)(x1:Int):Bool:=match A with
 |.mk r=>r.le x0 x1
 |.no=>Θ
def Ar.eq(A:Ar)(x0:Int)(x1:Int):Bool:=match A with
 |.mk r=>r.eq x0 x1
 |.no=>Θ
def Ar.max(A:Ar)(x0:Int)(x1:Int):Int:=match A with
 |.mk r=>r.max x0 x1
 |.no=>0
def Ar.min(A:Ar)(x0:Int)(x1:Int):Int:=match A with
 |.mk r=>r.min x0 x1
 |.no=>0
def Ar.not(_:Ar)(b:Bool):Bool:=!b
def Ar.beq(A:Ar)(x0:Bool)(x1:Bool):Bool:=match A with
 |.mk r=>r.beq x0 x1
 |.no=>Θ
def Ar.band(A:Ar)(x0:Bool)(x1:Bool):Bool:=match A with
 |.mk r=>r.band x0 x1
 |.no=>Θ
def Ar.seq(A:Ar)(x0:ByteArray)(x1:ByteArray):Bool:=match A with
 |.mk r=>r.seq x0 x1
 |.no=>Θ
def Ar.slt(A:Ar)(x0:ByteArray)(x1:ByteArray):Bool:=match A with
 |.mk r=>r.slt x0 x1
 |.no=>Θ
def Ar.slen(A:Ar)(x0:ByteArray):Nat:=match A with
 |.mk r=>r.slen x0
 |.no=>0
def Ar.cat(A:Ar)(x0:ByteArray)(x1:ByteArray):ByteArray:=match A with
 |.mk r=>r.cat x0 x1
 |.no=>ByteArray.empty
def Ar.sat(A:Ar)(x0:ByteArray)(x1:Nat):Int:=match A with
 |.mk r=>r.sat x0 x1
 |.no=>0
def Ar.ssub(A:Ar)(x0:ByteArray)(x1:Nat)(x2:Nat):ByteArray:=match A with
 |.mk r=>r.ssub x0 x1 x2
 |.no=>ByteArray.empty
def VD(b:BinOp)(k:IntKind)(x y:Int):Int:=match b with
 |.and=>k.wrap (BitVec.ofInt k.bits x &&& BitVec.ofInt k.bits y).toNat
 |.or=>k.wrap (BitVec.ofInt k.bits x ||| BitVec.ofInt k.bits y).toNat
 |.xor=>k.wrap (BitVec.ofInt k.bits x ^^^ BitVec.ofInt k.bits y).toNat
 |_=>k.wrap (BitVec.ofInt k.bits x &&& ~~~BitVec.ofInt k.bits y).toNat
def I6:Ar0 where
 add k x y:=k.wrap (x+y)
 sub k x y:=k.wrap (x-y)
 mul k x y:=k.wrap (x*y)
 quo k x y:=k.wrap (x.tdiv y)
 rem _ x y:=x.tmod y
 bits b k x y:=VD b k x y
 shl k x y:=k.wrap (x*2 ^ (Axm y.toNat k.bits))
 shr k x y:=x.fdiv (2 ^ (Axm y.toNat k.bits))
 conv k x:=k.wrap x
 lt x y:=decide (x<y)
 le x y:=decide (x<=y)
 eq x y:=x == y
 max x y:=if x<y then y else x
 min x y:=if y<x then y else x
 beq a b:=a == b
 band a b:=a&&b
 seq a b:=a.toList == b.toList
 slt a b:=Op.bytesLess a.toList b.toList
 slen a:=a.size
 cat a b:=a++b
 sat a i:=match a[i]? with
  |some c=>Ax5 c.toNat
  |none=>0
 ssub a l h:=a.extract l h
def Ak:Ar:=.mk I6
inductive MO where
 |mv (x:Operand)
 |pick (c a b:Operand)
 |alloc (z:AI)
 |box (x:Operand)
 |buildS (z:AI) (pl:List (Nat × Nat)) (ps:List (Nat × Operand))
 |buildR (z:AI) (e:Nat) (ps:List (Nat × Operand))
 |buildSl (z:AI) (e n:Nat) (ps:List (Nat × Operand))
 |ld (row:Bool) (n:Nat) (a:Operand)
 |st (n:Nat) (a x:Operand)
 |nilck (x:Operand)
 |bin (ek:Nat) (b:BinOp) (x y:Operand)
 |eqs (neg:Bool) (ks:Aj) (x y:Operand)
 |not (x:Operand)
 |neg (x:Operand)
 |mkfn (f:Fn) (a c:List Operand)
 |slice (e:Nat) (x:Operand) (lo hi:Option Operand)
 |faddr (off:Nat) (a:Operand)
 |field (row:Bool) (off n:Nat) (x:Operand)
 |iaddr (e:Nat) (x i:Operand)
 |aaddr (n e:Nat) (x i:Operand)
 |index (n e:Nat) (row:Bool) (sz:Nat) (x i:Operand)
 |ext (x:Operand) (i:Nat)
 |mksl (z:AI) (e bytes:Nat) (l c:Operand)
 |app (e bytes:Nat) (s x:Operand)
 |appz (z:AI) (e bytes:Nat) (s x:Operand)
 |cpy (e:Nat) (d x:Operand)
 |clr (z:AI) (e:Nat) (x:Operand)
 |len (sl:Bool) (x:Operand)
 |sidx (x i:Operand)
 |sslice (x:Operand) (lo hi:Option Operand)
 |iconv (k:IntKind) (x:Operand)
 |str (x:Operand)
 |mx (x y:Operand)
 |mn (x y:Operand)
 |callF (f:FuncId) (args:List Operand)
 |callV (ents:Nat) (x:Operand) (args:List Operand)
 |bad
structure MOp where
 dst:Option Nat
 op:MO
 g:Option (Nat × Bool)
structure LpH where
 n:Nat
 live:List Bool
 ad:List (Nat × Nat)
 fz:Aj
 outs:List (Nat × (List Bool × (Aj × Aj)))
inductive MC where
 |skip
 |reg (ops:List MOp) (bf:Option (Aj))
 |seq (a b:MC)
 |cond (c:Operand) (a b:MC)
 |block (id:Nat) (c:MC)
 |loop (i:Nat) (h:LpH)
 |exit (id:Nat)
 |ret
 |bad
section
variable (A:Ar)
def loadM(row:Bool)(n:Nat)(a:AV):AM AV:=match row with
 |true=>(rdAt a n).bind λcs=>AM.ret (.agg cs)
 |false=>(rdAt a 1).bind λcs=>AM.opt (ZI cs)
def storeM(n:Nat)(a x:AV):AM AV:=match a with
 |.ptr b o=>
  if x.cells.length=n/\x.cells.all AV.one=U then
   (AM.getB b).bind λk=>if k.st=U/\o+n<=k.cells.length/\(!k.ex||A4 x.cells)=U then(AM.setB b { k with cells:=Bq k.cells o x.cells }).bind λ_=>AM.ret AV.undef else AM.fail
  else AM.fail
 |_=>AM.fail
def Xp(row:Bool)(off n:Nat)(cs:Ad):Option AV:=match row with
 |true=>V (.agg ((cs.drop off).take n))
 |false=>cs[off]?
def YU(row:Bool)(off n:Nat)(x:AV):Option AV:=match x with
 |.agg cs=>Xp row off n cs
 |_=>Δ
def NO(place:Nat->Option (Nat × Nat))(z:AI)(ps:List (Nat × AV)):Option AV:=
 if ps.any (λp=>Jn p.2) then Δ else(Gw place (z.map .v) ps).map .agg
def buildSlM(z:AI)(e n:Nat)(ps:List (Nat × AV)):AM AV:=
 if n*e<=16777216/\n<=maxLen/\ps.any (λp=>Jn p.2)=Θ then
  match Gw (λi=>V (i*e,e)) (Cx (z.map .v) (n*e)) ps with
  |some cs=>if A4 cs=U then(AM.newB ⟨cs,U,U⟩).bind λb=>AM.ret (.sl b 0 n e) else(AM.newB ⟨cs,U,Θ⟩).bind λb=>AM.ret (.sl b 0 n e)
  |none=>AM.fail
 else AM.fail
def Xi:List Ad->Nat->Option Ad
 |[],_=>Δ
 |x::_,0=>V x
 |_::r,n+1=>Xi r n
theorem UU:∀(xs:List Ad) (n:Nat),Xi xs n=xs[n]?
 |[],_=>by simp[Xi]
 |x::r,0=>by simp[Xi]
 |x::r,n+1=>by simp[Xi,UU r n]
def QC(e:Nat)(x ix:AV):Option AV:=match ix.idx with
 |some i=>(match x with
  |.sl b o n e'=>(match Axu i n with
   |true=>if e'=e then V (.ptr b (o+i*e)) else Δ
   |false=>Δ)
  |.ls xs=>(match Xi xs i with
   |some cs=>(match AwO cs.length e with
    |true=>V (.lp cs)
    |false=>Δ)
   |none=>Δ)
  |_=>Δ)
 |none=>Δ
def TW(n e:Nat)(x ix:AV):Option AV:=match ix.idx with
 |some i=>(match Axu i n with
  |true=>QU x (i*e)
  |false=>Δ)
 |none=>Δ
def QE(n e:Nat)(row:Bool)(sz:Nat)(x ix:AV):Option AV:=match x,ix.idx with
 |.agg cs,V i=>(match Axu i n with
  |true=>Xp row (i*e) sz cs
  |false=>Δ)
 |_,_=>Δ
def Kz:List Ad->Nat->List Ad
 |[],_=>[]
 |_::_,0=>[]
 |x::r,n+1=>x::Kz r n
def JJ:List Ad->Nat->List Ad
 |[],_=>[]
 |x::r,0=>x::r
 |_::r,n+1=>JJ r n
def AU:List Ad->Nat
 |[]=>0
 |_::r=>AU r+1
def Hk(e:Nat):List Ad->Bool
 |[]=>U
 |x::r=>AwO x.length e&&Hk e r
def Pm(n:Nat):Option AV->Option Nat
 |some x=>x.idx
 |none=>V n
def Ru(e:Nat)(x:AV)(lo hi:Option AV):Option AV:=match x with
 |.sl b o n e'=>(match Pm 0 lo,Pm n hi with
  |some l,V h=>(match Aww l h,Aww h n,AwO e' e with
   |true,U,U=>V (.sl b (o+l*e) (h-l) e)
   |_,_,_=>Δ)
  |_,_=>Δ)
 |.ls xs=>(match Pm 0 lo,Pm (AU xs) hi with
  |some l,V h=>(match Aww l h,Aww h (AU xs),Hk e xs with
   |true,U,U=>V (.ls (JJ (Kz xs h) l))
   |_,_,_=>Δ)
  |_,_=>Δ)
 |_=>Δ
def ApQ(sl:Bool)(x:AV):Option AV:=match sl with
 |true=>(match x with
  |.sl _ _ n _=>V (.v (.int .i64 (Ax5 n)))
  |.ls xs=>V (.v (.int .i64 (Ax5 (AU xs))))
  |.v (.slice Δ 0 0)=>V (.v (.int .i64 (Ax5 0)))
  |_=>Δ)
 |false=>(match x with
  |.v (.string s)=>V (.v (.int .i64 (Ax5 (A.slen s))))
  |_=>Δ)
def eqL:Aj->Ad->Ad->Option Bool
 |[],[],[]=>V U
 |1::ks,.v (.bool a)::r,.v (.bool b)::q=>(match eqL ks r q with
  |some t=>V (A.band (A.beq a b) t)
  |none=>Δ)
 |0::ks,.v (.int k a)::r,.v (.int k' b)::q=>if k=k' then(match eqL ks r q with
  |some t=>V (A.band (A.eq a b) t)
  |none=>Δ) else Δ
 |2::ks,.v (.string a)::r,.v (.string b)::q=>(match eqL ks r q with
  |some t=>V (A.band (A.seq a b) t)
  |none=>Δ)
 |_,_,_=>Δ
def Apk(neg:Bool)(ks:Aj)(x y:AV):Option AV:=match x,y with
 |.agg xs,.agg ys=>(match eqL A ks xs ys with
  |some t=>(match neg with
   |true=>V (.v (.bool (A.not t)))
   |false=>V (.v (.bool t)))
  |none=>Δ)
 |_,_=>Δ
def eqM(ek:Nat)(x y:AV):Option Bool:=match ek,x,y with
 |4,.v (.bool a),.v (.bool b)=>V (A.beq a b)
 |1,.ptr ..,.v (.pointer Δ)=>V Θ
 |1,.lp ..,.v (.pointer Δ)=>V Θ
 |1,.v (.pointer Δ),.v (.pointer Δ)=>V U
 |2,.sl _ _ (_+1) _,.v (.slice Δ 0 0)=>V Θ
 |2,.v (.slice Δ 0 0),.v (.slice Δ 0 0)=>V U
 |3,.fn ..,.v .nilFunc=>V Θ
 |3,.v .nilFunc,.v .nilFunc=>V U
 |_,_,_=>Δ
def ME(b:BinOp)(x y:AV):Option AV:=match x,y with
 |.v (.int k a),.v (.int k' c)=>(match b with
  |.shl=>(match A.lt c 0 with
   |true=>Δ
   |false=>V (.v (.int k (A.shl k a c))))
  |.shr=>(match A.lt c 0 with
   |true=>Δ
   |false=>V (.v (.int k (A.shr k a c))))
  |b=>if k=k' then(match b with
   |.and=>V (.v (.int k (A.bits .and k a c)))
   |.or=>V (.v (.int k (A.bits .or k a c)))
   |.xor=>V (.v (.int k (A.bits .xor k a c)))
   |.andNot=>V (.v (.int k (A.bits .andNot k a c)))
   |.quo=>(match A.eq c 0 with
    |true=>Δ
    |false=>V (.v (.int k (A.quo k a c))))
   |.rem=>(match A.eq c 0 with
    |true=>Δ
    |false=>V (.v (.int k (A.rem k a c))))
   |.add=>V (.v (.int k (A.add k a c)))
   |.sub=>V (.v (.int k (A.sub k a c)))
   |.mul=>V (.v (.int k (A.mul k a c)))
   |.eql=>V (.v (.bool (A.eq a c)))
   |.neq=>V (.v (.bool (A.not (A.eq a c))))
   |.lss=>V (.v (.bool (A.lt a c)))
   |.leq=>V (.v (.bool (A.le a c)))
   |.gtr=>V (.v (.bool (A.lt c a)))
   |.geq=>V (.v (.bool (A.le c a)))
   |_=>Δ) else Δ)
 |.v (.string a),.v (.string c)=>(match b with
   |.add=>(match Aww (A.slen a+A.slen c) 9223372036854775807 with
    |true=>V (.v (.string (A.cat a c)))
    |false=>Δ)
   |.eql=>V (.v (.bool (A.seq a c)))
   |.neq=>V (.v (.bool (A.not (A.seq a c))))
   |.lss=>V (.v (.bool (A.slt a c)))
   |.geq=>V (.v (.bool (A.not (A.slt a c))))
   |_=>Δ)
 |_,_=>Δ
def Ajq(ek:Nat)(b:BinOp)(x y:AV):Option AV:=match ek,b with
 |0,_=>ME A b x y
 |_,.eql=>(eqM A ek x y).map λt=>.v (.bool t)
 |_,.neq=>(eqM A ek x y).map λt=>.v (.bool (A.not t))
 |_,_=>Δ
def Ajg(f:Int->Int->Int)(x y:AV):Option AV:=match x,y with
 |.v (.int k a),.v (.int k' c)=>if k=k' then V (.v (.int k (f a c))) else Δ
 |_,_=>Δ
def XG(x i:AV):Option AV:=match x,i.idx with
 |.v (.string s),V i=>(match Axu i (A.slen s) with
  |true=>V (.v (.int .u8 (A.sat s i)))
  |false=>Δ)
 |_,_=>Δ
def Nt(x:AV)(lo hi:Option AV):Option AV:=match x with
 |.v (.string s)=>(match Pm 0 lo,Pm (A.slen s) hi with
  |some l,V h=>(match Aww l h,Aww h (A.slen s) with
   |true,U=>V (.v (.string (A.ssub s l h)))
   |_,_=>Δ)
  |_,_=>Δ)
 |_=>Δ
def AeT(k:IntKind)(x:AV):Option AV:=match x with
 |.v (.int _ n)=>V (.v (.int k (A.conv k n)))
 |_=>Δ
def AsN(x:AV):Option AV:=match x with
 |.v (.bool b)=>V (.v (.bool (A.not b)))
 |_=>Δ
def AsM(x:AV):Option AV:=match x with
 |.v (.int k n)=>V (.v (.int k (A.sub k 0 n)))
 |_=>Δ
def LS:List Ad->Ad
 |[]=>[]
 |x::r=>x++LS r
def newsM(e:Nat)(x:AV):AM (Nat × Ad):=match x with
 |.sl b o n e'=>if e'=e then(AM.getB b).bind λk=>match Aww (o+n*e) k.cells.length,(k.ex||A4 ((k.cells.drop o).take (n*e))) with
   |true,U=>AM.ret (n,(k.cells.drop o).take (n*e))
   |_,_=>AM.fail
   else AM.fail
 |.ls xs=>(match Hk e xs with
  |true=>AM.ret (AU xs,LS xs)
  |false=>AM.fail)
 |.v (.slice Δ 0 0)=>AM.ret (0,[])
 |_=>AM.fail
def M9:Ad->Bool
 |[]=>U
 |x::r=>x.one&&M9 r
def UQ(z:AI)(e:Nat)(x:AV):AM (Nat × Ad):=match x.idx with
 |some m=>(match Aww m 9223372036854775807 with
  |true=>AM.ret (m,Cx (z.map .v) (m*e))
  |false=>AM.fail)
 |none=>AM.fail
def appR(e bytes:Nat)(s:AV)(r:Nat × Ad):AM AV:=
 match AwO r.1 0 with
 |true=>if R3 s=U then AM.ret s else AM.fail
 |false=>match M9 r.2 with
  |false=>AM.fail
  |true=>(match s with
   |.v (.slice Δ 0 0)=>(match Aww (r.1*bytes) 140737488355328,Aww r.1 maxLen with
    |true,U=>(AM.newB ⟨r.2,U,U⟩).bind λb=>AM.ret (.sl b 0 r.1 e)
    |_,_=>AM.fail)
   |.sl b o n e'=>(match AwO e' e,Aww ((n+r.1)*bytes) 140737488355328,Aww (n+r.1) maxLen with
    |true,U,U=>(AM.getB b).bind λk=>match k.ex,k.st,AwO (o+n*e) k.cells.length with
     |true,U,U=>(AM.delB b).bind λ_=>(AM.newB ⟨(k.cells.take (o+n*e)).drop o++r.2,U,U⟩).bind λb'=>AM.ret (.sl b' 0 (n+r.1) e)
     |true,Θ,U=>(AM.setB b { k with ex:=Θ }).bind λ_=>(AM.newB ⟨(k.cells.take (o+n*e)).drop o++r.2,Θ,U⟩).bind λb'=>AM.ret (.sl b' 0 (n+r.1) e)
     |true,U,Θ=>(match Aww (o+n*e) k.cells.length with
      |true=>(AM.delB b).bind λ_=>(AM.newB ⟨(k.cells.take (o+n*e)).drop o++r.2,U,U⟩).bind λb'=>AM.ret (.sl b' 0 (n+r.1) e)
      |false=>AM.fail)
     |_,_,_=>AM.fail
    |_,_,_=>AM.fail)
   |_=>AM.fail)
def appM(e bytes:Nat)(s x:AV):AM AV:=(newsM e x).bind λr=>appR e bytes s r
def appzM(z:AI)(e bytes:Nat)(s x:AV):AM AV:=(UQ z e x).bind λr=>appR e bytes s r
def mkslM(z:AI)(e bytes:Nat)(l c:AV):AM AV:=match l.idx,c.idx with
 |some n,V m=>(match Aww n m,Aww (m*bytes) 140737488355328,Aww m maxLen with
  |true,U,U=>(AM.newB ⟨Cx (z.map .v) (n*e),U,U⟩).bind λb=>AM.ret (.sl b 0 n e)
  |_,_,_=>AM.fail)
 |_,_=>AM.fail
def cpyM(e:Nat)(d x:AV):AM AV:=match d with
 |.sl b o n e'=>(match AwO e' e with
  |true=>(newsM e x).bind λr=>match M9 (r.2.take (Axm r.1 n*e)) with
   |true=>(AM.getB b).bind λk=>match k.st,Aww (o+n*e) k.cells.length with
    |true,U=>(AM.setB b { k with cells:=Bq k.cells o (r.2.take (Axm r.1 n*e)) }).bind λ_=>AM.ret (.v (.int .i64 (Ax5 (Axm r.1 n))))
    |_,_=>AM.fail
   |false=>AM.fail
  |false=>AM.fail)
 |_=>AM.fail
def clrM(z:AI)(e:Nat)(x:AV):AM AV:=match x with
 |.sl b o n e'=>(match AwO e' e with
  |true=>(AM.getB b).bind λk=>match k.st,Aww (o+n*e) k.cells.length with
   |true,U=>(AM.setB b { k with cells:=Bq k.cells o (Cx (z.map .v) (n*e)) }).bind λ_=>AM.ret (.tup [])
   |_,_=>AM.fail
  |false=>AM.fail)
 |_=>AM.fail
def strM(x:AV):AM AV:=match R3 x with
 |true=>(newsM 1 x).bind λr=>AM.opt ((bytesOf r.2).map λl=>.v (.string ⟨l.toArray⟩))
 |false=>AM.fail
def Nd(T:Ad):List (Nat × Operand)->List (Nat × AV)
 |[]=>[]
 |(i,x)::r=>(i,AT T x)::Nd T r
def R6(T:Ad):List Operand->Ad
 |[]=>[]
 |x::r=>AT T x::R6 T r
def mop(Γ:FuncId->Ad->AM AV)(o:MO)(T:Ad):AM AV:=match o with
 |.mv x=>AM.ret (AT T x)
 |.pick c a b=>(match AT T c with
  |.v (.bool t)=>(match t with
   |true=>AM.ret (AT T a)
   |false=>AM.ret (AT T b))
  |_=>AM.fail)
 |.alloc z=>(AM.newB ⟨z.map .v,U,Θ⟩).bind λb=>AM.ret (.ptr b 0)
 |.box x=>boxA (AT T x)
 |.buildS z pl ps=>AM.opt (NO (pl[·]?) z (Nd T ps))
 |.buildR z e ps=>AM.opt (NO (λi=>V (i*e,e)) z (Nd T ps))
 |.buildSl z e n ps=>buildSlM z e n (Nd T ps)
 |.ld row n a=>loadM row n (AT T a)
 |.st n a x=>storeM n (AT T a) (AT T x)
 |.nilck x=>(match AT T x with
  |.ptr b o=>AM.ret (.ptr b o)
  |.lp cs=>AM.ret (.lp cs)
  |.fn (.func f) a c=>AM.ret (.fn (.func f) a c)
  |_=>AM.fail)
 |.bin ek b x y=>AM.opt (Ajq A ek b (AT T x) (AT T y))
 |.eqs neg ks x y=>AM.opt (Apk A neg ks (AT T x) (AT T y))
 |.not x=>AM.opt (AsN A (AT T x))
 |.neg x=>AM.opt (AsM A (AT T x))
 |.mkfn f a c=>AM.ret (.fn f (R6 T a) (R6 T c))
 |.slice e x lo hi=>AM.opt (Ru e (AT T x) (lo.map (AT T)) (hi.map (AT T)))
 |.faddr off a=>AM.opt (QU (AT T a) off)
 |.field row off n x=>AM.opt (YU row off n (AT T x))
 |.iaddr e x i=>AM.opt (QC e (AT T x) (AT T i))
 |.aaddr n e x i=>AM.opt (TW n e (AT T x) (AT T i))
 |.index n e row sz x i=>AM.opt (QE n e row sz (AT T x) (AT T i))
 |.ext x i=>AM.opt (MR (AT T x) i)
 |.mksl z e bytes l c=>mkslM z e bytes (AT T l) (AT T c)
 |.app e bytes s x=>appM e bytes (AT T s) (AT T x)
 |.appz z e bytes s x=>appzM z e bytes (AT T s) (AT T x)
 |.cpy e d x=>cpyM e (AT T d) (AT T x)
 |.clr z e x=>clrM z e (AT T x)
 |.len sl x=>AM.opt (ApQ A sl (AT T x))
 |.sidx x i=>AM.opt (XG A (AT T x) (AT T i))
 |.sslice x lo hi=>AM.opt (Nt A (AT T x) (lo.map (AT T)) (hi.map (AT T)))
 |.iconv k x=>AM.opt (AeT A k (AT T x))
 |.str x=>strM (AT T x)
 |.mx x y=>AM.opt (Ajg (A.max) (AT T x) (AT T y))
 |.mn x y=>AM.opt (Ajg (A.min) (AT T x) (AT T y))
 |.callF f args=>Γ f (R6 T args)
 |.callV ents x args=>(match AT T x with
  |.fn (.func g) a cs=>(match ents.testBit g with
   |true=>Γ g (a++R6 T args++cs)
   |false=>AM.fail)
  |_=>AM.fail)
 |.bad=>AM.fail
def X1(T:Ad)(g:Option (Nat × Bool)):Option Bool:=match g with
 |none=>V U
 |some (d,want)=>match T[d]? with
  |some (.v (.bool b))=>(match want with
   |true=>V b
   |false=>V (A.not b))
  |some (.v (.tuple _))=>V Θ
  |_=>Δ
def coreM(Γ:FuncId->Ad->AM AV)(o:MOp)(T:Ad):AM AV:=match X1 A T o.g with
 |some t=>(match t with
  |true=>mop A Γ o.op T
  |false=>AM.ret AV.undef)
 |none=>AM.fail
def runM(Γ:FuncId->Ad->AM AV):List MOp->Ad->AH->Option (Ad × AH × List Foot)
 |[],T,H=>V (T,H,[])
 |o::r,T,H=>match coreM A Γ o T H with
  |none=>Δ
  |some (v,H1,f)=>match runM Γ r (CH T o.dst v) H1 with
   |none=>Δ
   |some (T2,H2,fs)=>V (T2,H2,f::fs)
def regM(Γ:FuncId->Ad->AM AV)(ops:List MOp)(bf:Option (Aj))(T:Ad):AM (AX × Ad):=λH=>match runM A Γ ops T H with
 |none=>Δ
 |some (T',H',fs)=>match bf with
  |none=>V ((.normal,T'),H',⟨fs.flatMap (·.rd),fs.flatMap (·.wr)⟩)
  |some bf=>(match FV bf fs with
   |true=>V ((.normal,T'),H',⟨fs.flatMap (·.rd),fs.flatMap (·.wr)⟩)
   |false=>Δ)
def CS{α:Type}:List Bool->List α->List α
 |true::l,x::r=>x::CS l r
 |false::l,_::r=>CS l r
 |_,_=>[]
def Cj:List Bool->Nat->Ad->Ad
 |_,0,_=>[]
 |true::l,n+1,x::xs=>x::Cj l n xs
 |true::l,n+1,[]=>.any::Cj l n []
 |false::l,n+1,xs=>.any::Cj l n xs
 |[],n+1,_=>.any::Cj [] n []
def axN:AX->Nat
 |.exit i=>i+1
 |_=>0
def AjZ:List (Nat × (List Bool × (Aj × Aj)))->Nat->List Bool × (Aj × Aj)
 |[],_=>([],([],[]))
 |(k,m)::r,n=>match AwO k n with
  |true=>m
  |false=>AjZ r n
def LpH.out(h:LpH)(x:AX):List Bool:=(AjZ h.outs (axN x)).1
def LpH.fzo(h:LpH)(x:AX):Aj:=(AjZ h.outs (axN x)).2.1
def LpH.dlo(h:LpH)(x:AX):Aj:=(AjZ h.outs (axN x)).2.2
def Xd(T:Ad)(t:Nat):Bool:=match T[t]? with
 |some (.v z)=>N4 z
 |_=>Θ
theorem Ahb{T:Ad}{t:Nat}(h:Xd T t=U):T[t]? = V (.v (.slice Δ 0 0)):=by
 grind [Xd,KU]
def Hd(cs:Ad)(i:Nat):Bool:=match cs[i]? with
 |some (.v z)=>N4 z
 |_=>Θ
def adoptB1(b i e:Nat):AM Unit:=(AM.getB b).bind λk=>match k.ex,Hd k.cells i with
 |false,U=>(AM.newB ⟨[],U,U⟩).bind λc=>(AM.getB b).bind λk2=>(match k2.ex,Hd k2.cells i with
  |false,U=>AM.setB b { k2 with cells:=k2.cells.set i (.sl c 0 0 e) }
  |_,_=>AM.fail)
 |_,_=>AM.ret ()
def nilB(b i:Nat):AM Unit:=(AM.getB b).bind λk=>match k.ex,Hd k.cells i with
 |false,U=>AM.setB b { k with cells:=k.cells.set i (.ls []) }
 |_,_=>AM.ret ()
def adoptB(b i e:Nat):AM Unit:=match AwO e 0 with
 |true=>nilB b i
 |false=>adoptB1 b i e
def Sm(T:Ad)(t:Nat):Option (Nat × Nat):=match Aww 1000000 t with
 |true=>(match T[t % 1000000]? with
  |some (.ptr b o)=>V (b,o+(t / 1000000-1))
  |_=>Δ)
 |false=>Δ
def adoptM:List (Nat × Nat)->Ad->AM Ad
 |[],T=>AM.ret T
 |(t,e)::r,T=>match Xd T t with
  |true=>(AM.newB ⟨[],U,U⟩).bind λb=>adoptM r (T.set t (.sl b 0 0 e))
  |false=>(match Sm T t with
   |some q=>(adoptB q.1 q.2 e).bind λ_=>adoptM r T
   |none=>adoptM r T)
def By:Nat->Nat->Ad->List Ad
 |0,_,_=>[]
 |n+1,e,l=>l.take e::By n e (l.drop e)
def Aha(z:Value):AV:=match N4 z with
 |true=>.ls []
 |false=>.v z
def frz0(x:AV):AM AV:=match x with
 |.v z=>AM.ret (Aha z)
 |.sl ..=>AM.fail
 |.agg _=>AM.fail
 |.tup _=>AM.fail
 |x=>AM.ret x
mutual
def frz:Nat->AV->AM AV
 |0,x=>frz0 x
 |n+1,x=>match x with
  |.v z=>AM.ret (Aha z)
  |.sl b o m e=>(AM.getB b).bind λk=>match Aww (o+m*e) k.cells.length with
   |false=>AM.fail
   |true=>(match k.st with
    |true=>AM.setB b { k with st:=Θ }
    |false=>AM.ret ()).bind λ_=>match (k.ex||A4 ((k.cells.drop o).take (m*e))) with
     |true=>AM.ret (.ls (By m e ((k.cells.drop o).take (m*e))))
     |false=>(frzL n ((k.cells.drop o).take (m*e))).bind λcs=>match A4 cs with
      |true=>AM.ret (.ls (By m e cs))
      |false=>AM.fail
  |.agg cs=>(frzL n cs).bind λcs=>AM.ret (.agg cs)
  |.tup cs=>(frzL n cs).bind λcs=>AM.ret (.tup cs)
  |x=>AM.ret x
def frzL:Nat->Ad->AM Ad
 |_,[]=>AM.ret []
 |0,_::_=>AM.fail
 |n+1,x::r=>(frz n x).bind λx=>(frzL n r).bind λr=>AM.ret (x::r)
end
def frzB(b:Nat):AM Unit:=(AM.getB b).bind λk=>match k.ex,k.st with
 |false,U=>(frzL 1000 k.cells).bind λcs=>(AM.getB b).bind λk2=>(match k2.ex,AwO cs.length k2.cells.length with
  |false,U=>AM.setB b { k2 with cells:=cs }
  |_,_=>AM.fail)
 |_,_=>AM.ret ()
def frzT:Aj->Ad->AM Ad
 |[],T=>AM.ret T
 |t::r,T=>match T[t]? with
  |some (.ptr b _)=>(frzB b).bind λ_=>frzT r T
  |some x=>(frz 1000 x).bind λy=>frzT r (T.set t y)
  |none=>frzT r T
def evC(Γ:FuncId->Ad->AM AV)(Λ:Nat->Ad->AM (AX × Ad)):MC->Ad->AM (AX × Ad)
 |.skip,T=>AM.ret (.normal,T)
 |.reg ops bf,T=>regM A Γ ops bf T
 |.seq a b,T=>(evC Γ Λ a T).bind λr=>match r.1 with
  |.normal=>evC Γ Λ b r.2
  |ax=>AM.ret (ax,r.2)
 |.cond c a b,T=>(match AT T c with
  |.v (.bool t)=>(match t with
   |true=>evC Γ Λ a T
   |false=>evC Γ Λ b T)
  |_=>AM.fail)
 |.block id c,T=>(evC Γ Λ c T).bind λr=>match r.1 with
  |.exit i=>if i=id then AM.ret (.normal,r.2) else AM.ret (.exit i,r.2)
  |ax=>AM.ret (ax,r.2)
 |.loop i h,T=>(adoptM h.ad T).bind λT=>(frzT h.fz T).bind λT=>match AwO T.length h.n with
  |true=>(Λ i (CS h.live T)).bind λr=>AM.ret (r.1,Cj (h.out r.1) h.n r.2)
  |false=>AM.fail
 |.exit id,T=>AM.ret (.exit id,T)
 |.ret,T=>AM.ret (.ret,T)
 |.bad,_=>AM.fail
end
mutual
def AV.ids:AV->Aj
 |.v _=>[]
 |.ptr b _=>[b]
 |.sl b _ _ _=>[b]
 |.ls _=>[]
 |.lp _=>[]
 |.agg cs=>FD cs
 |.tup cs=>FD cs
 |.fn _ a c=>FD a++FD c
 |.any=>[]
def FD:Ad->Aj
 |[]=>[]
 |x::r=>x.ids++FD r
end
mutual
def AV.ren(τ:Nat->Nat):AV->AV
 |.v x=>.v x
 |.ptr b o=>.ptr (τ b) o
 |.sl b o n e=>.sl (τ b) o n e
 |.ls xs=>.ls xs
 |.lp cs=>.lp cs
 |.agg cs=>.agg (Jw τ cs)
 |.tup cs=>.tup (Jw τ cs)
 |.fn f a c=>.fn f (Jw τ a) (Jw τ c)
 |.any=>.any
def Jw(τ:Nat->Nat):Ad->Ad
 |[]=>[]
 |x::r=>x.ren τ::Jw τ r
end
def ABlk.ren(τ:Nat->Nat)(k:ABlk):ABlk:=match k.ex with
 |true=>k
 |false=>{ k with cells:=Jw τ k.cells }
def ABlk.ids(k:ABlk):Aj:=match k.ex with
 |true=>[]
 |false=>FD k.cells
inductive BO where
 |keep
 |del
 |set (k:ABlk)
def BO.ids:BO->Aj
 |.set k=>k.ids
 |_=>[]
def BO.ren(τ:Nat->Nat):BO->BO
 |.keep=>.keep
 |.del=>.del
 |.set k=>.set (k.ren τ)
abbrev DF:=Ad->List ABlk->Option (AV × List BO)
inductive Key where
 |fn (f:Nat)
 |lp (f i:Nat)
inductive Orc where
 |mk (f:Key->Ad->List ABlk->Option (AV × List BO))
 |no
def Orc.ask(D:Orc)(k:Key)(args:Ad)(bs:List ABlk):Option (AV × List BO):=match D with
 |.mk f=>f k args bs
 |.no=>Δ
def GW(b:Nat):Aj->Bool
 |[]=>Θ
 |c::r=>match AwO b c with
  |true=>U
  |false=>GW b r
def idx(b:Nat):Aj->Nat
 |[]=>0
 |c::r=>match AwO b c with
  |true=>0
  |false=>idx b r+1
def trav:Nat->Aj->Aj->AM (Aj)
 |_,[],acc=>AM.ret acc
 |0,_::_,_=>AM.fail
 |n+1,b::r,acc=>match GW b acc with
  |true=>trav n r acc
  |false=>(AM.getB b).bind λk=>trav n (r++k.ids) (acc++[b])
def readAll:Aj->AM (List ABlk)
 |[]=>AM.ret []
 |b::r=>(AM.getB b).bind λk=>(readAll r).bind λl=>AM.ret (k::l)
def nextB:AM Nat:=λH=>V (H.next,H,⟨[],[]⟩)
def writeAll(σ:Nat->Nat):Aj->List BO->AM (List BO)
 |[],out=>AM.ret out
 |_::_,[]=>AM.fail
 |b::r,o::out=>(match o with
  |.keep=>AM.ret ()
  |.del=>AM.delB b
  |.set k=>AM.setB b (k.ren σ)).bind λ_=>writeAll σ r out
def newAll(σ:Nat->Nat):List BO->AM Unit
 |[]=>AM.ret ()
 |.set k::out=>(AM.newB (k.ren σ)).bind λ_=>newAll σ out
 |_::_=>AM.fail
def Adj:Aj->Nat->Option Nat
 |[],_=>Δ
 |x::_,0=>V x
 |_::r,n+1=>Adj r n
def Jk(L:Aj)(n c:Nat):Nat:=match Adj L c with
 |some b=>b
 |none=>n+(c-L.length)
def RX(n:Nat):Aj->Bool
 |[]=>U
 |c::r=>match Axu c n with
  |true=>RX n r
  |false=>Θ
def VF(n:Nat):List BO->Bool
 |[]=>U
 |o::r=>match RX n o.ids with
  |true=>VF n r
  |false=>Θ
def callD(D:DF)(args:Ad):AM AV:=
 (trav 4096 (FD args) []).bind λL=>(readAll L).bind λbs=>
  (AM.opt (D (Jw (λb=>idx b L) args) (bs.map (ABlk.ren λb=>idx b L)))).bind λr=>
   match RX r.2.length r.1.ids,VF r.2.length r.2 with
   |true,U=>nextB.bind λn=>(writeAll (Jk L n) L r.2).bind λout=>(newAll (Jk L n) out).bind λ_=>AM.ret (r.1.ren (Jk L n))
   |_,_=>AM.fail
def DV:Nat->List ABlk->List (Nat × ABlk)
 |_,[]=>[]
 |n,k::r=>(n,k)::DV (n+1) r
def ZK(H:AH)(wr:Aj)(b:Nat):BO:=match GW b wr with
 |false=>.keep
 |true=>(match H.get b with
  |some k=>.set k
  |none=>.del)
def Aky(H:AH)(b:Nat):BO:=match H.get b with
 |some k=>.set k
 |none=>.del
def EQ:Nat->Nat->Aj
 |_,0=>[]
 |a,n+1=>a::EQ (a+1) n
def Ga(m:Ad->AM AV):DF:=λargs bs=>match m args ⟨DV 0 bs,bs.length,Δ⟩ with
 |some (r,H',ft)=>V (r,(EQ 0 bs.length).map (ZK H' ft.wr)++(EQ bs.length (H'.next-bs.length)).map (Aky H'))
 |none=>Δ
def ZG:List BO->Nat->Option BO
 |[],_=>Δ
 |x::_,0=>V x
 |_::r,n+1=>ZG r n
def Hs(k:Nat)(out:List BO):Nat->Aj->Aj->Option (Aj)
 |_,[],acc=>V acc
 |0,_::_,_=>Δ
 |n+1,b::r,acc=>match Axu b k with
  |true=>Hs k out n r acc
  |false=>match GW b acc with
   |true=>Hs k out n r acc
   |false=>match ZG out b with
    |some (.set kb)=>Hs k out n (r++kb.ids) (acc++[b])
    |_=>Δ
def gcN(k:Nat)(acc:Aj)(b:Nat):Nat:=match Axu b k with
 |true=>b
 |false=>k+idx b acc
def LF:List BO->Nat->List BO
 |[],_=>[]
 |_::_,0=>[]
 |x::r,n+1=>x::LF r n
def Y8:List BO->Aj
 |[]=>[]
 |o::r=>o.ids++Y8 r
def Xq(τ:Nat->Nat)(out:List BO):Aj->List BO
 |[]=>[]
 |b::r=>(match ZG out b with
  |some o=>o.ren τ
  |none=>.del)::Xq τ out r
def AhM(τ:Nat->Nat):List BO->List BO
 |[]=>[]
 |o::r=>o.ren τ::AhM τ r
def RQ(D:DF):DF:=λargs bs=>match D args bs with
 |none=>Δ
 |some (r,out)=>match Hs bs.length out 4096 (r.ids++Y8 (LF out bs.length)) []with
  |none=>Δ
  |some acc=>V (r.ren (gcN bs.length acc),AhM (gcN bs.length acc) (LF out bs.length)++Xq (gcN bs.length acc) out acc)
def Ahs(own:List (Nat × Nat))(f i:Nat):Bool:=match own with
 |[]=>Θ
 |(g,j)::r=>match AwO f g,AwO i j with
  |true,U=>U
  |_,_=>Ahs r f i
def frzA(own:List (Nat × Nat))(f:Nat):Nat->Ad->AM Ad
 |_,[]=>AM.ret []
 |i,x::r=>match Ahs own f i with
  |true=>(frzA own f (i+1) r).bind λr=>AM.ret (x::r)
  |false=>(frz 1000 x).bind λx=>(frzA own f (i+1) r).bind λr=>AM.ret (x::r)
def touchS(x:AV):AM AV:=match x with
 |.sl b o n e=>(AM.getB b).bind λk=>match k.ex with
  |true=>(AM.delB b).bind λ_=>(AM.newB k).bind λc=>AM.ret (.sl c o n e)
  |false=>AM.ret (.sl b o n e)
 |x=>AM.ret x
def touchL:Ad->AM Ad
 |[]=>AM.ret []
 |x::r=>(touchS x).bind λx=>(touchL r).bind λr=>AM.ret (x::r)
def touchB(b:Nat):AM Unit:=(AM.getB b).bind λk=>match k.ex,k.st with
 |false,U=>(touchL k.cells).bind λcs=>(AM.getB b).bind λk2=>(match k2.ex,AwO cs.length k2.cells.length with
  |false,U=>AM.setB b { k2 with cells:=cs }
  |_,_=>AM.fail)
 |true,U=>AM.setB b k
 |_,_=>AM.ret ()
def touchI:Aj->AM Unit
 |[]=>AM.ret ()
 |b::r=>(touchB b).bind λ_=>touchI r
def touchV(x:AV):AM AV:=match x with
 |.sl b o n e=>touchS (.sl b o n e)
 |.agg cs=>(touchL cs).bind λcs=>(touchI (FD cs)).bind λ_=>AM.ret (.agg cs)
 |x=>(touchI x.ids).bind λ_=>AM.ret x
def touchA:List Bool->Ad->AM Ad
 |_,[]=>AM.ret []
 |true::m,x::r=>(touchI x.ids).bind λ_=>(touchA m r).bind λr=>AM.ret (x::r)
 |false::m,x::r=>(touchV x).bind λx=>(touchA m r).bind λr=>AM.ret (x::r)
 |[],x::r=>(touchV x).bind λx=>(touchA [] r).bind λr=>AM.ret (x::r)
def LpH.nt(h:LpH)(x:AX):List Bool:=CS (h.out x) ((EQ 0 h.n).map λt=>GW (1000000+t) (h.dlo x))
def delC(b i:Nat):AM Unit:=(AM.getB b).bind λk=>match k.cells[i]? with
 |some (.sl c _ _ _)=>AM.delB c
 |_=>AM.ret ()
def delT:Aj->Ad->AM Unit
 |[],_=>AM.ret ()
 |t::r,T=>match T[t]? with
  |some (.sl b _ _ _)=>(AM.delB b).bind λ_=>delT r T
  |some (.ptr b _)=>(AM.delB b).bind λ_=>delT r T
  |_=>(match Sm T t with
   |some q=>(delC q.1 q.2).bind λ_=>delT r T
   |none=>delT r T)
inductive MRes where
 |tmp (t:Nat)
 |cell (t:Nat) (row:Bool) (n:Nat)
structure MFn where
 nt:Nat
 res:List MRes
 body:MC
 loops:List (LpH × MC)
 own:Bool
 tch:Bool
def resM(T:Ad):List MRes->AM Ad
 |[]=>AM.ret []
 |.tmp t::r=>(resM T r).bind λl=>AM.ret ((T[t]?).getD AV.undef::l)
 |.cell x row n::r=>(loadM row n ((T[x]?).getD AV.undef)).bind λv=>(resM T r).bind λl=>AM.ret (v::l)
def axA:AX->AV
 |.normal=>.v (.bool Θ)
 |.ret=>.v (.bool U)
 |.exit i=>.v (.int .i64 (Ax5 i))
 |.goto _=>.any
def Yk:AV->Option AX
 |.v (.bool U)=>V .ret
 |.v (.bool Θ)=>V .normal
 |.v (.int .i64 (.ofNat i))=>V (.exit i)
 |_=>Δ
section
variable (A:Ar) (D:Orc) (own:List (Nat × Nat))
def callsM(f:FuncId)(args:Ad):AM AV:=(frzA own f 0 args).bind λl=>callD (D.ask (.fn f)) l
def loopsM(f i:Nat)(xs:Ad):AM (AX × Ad):=(callD (D.ask (.lp f i)) xs).bind λr=>match r with
 |.tup (x::ys)=>(match Yk x with
  |some ax=>AM.ret (ax,ys)
  |none=>AM.fail)
 |_=>AM.fail
def fnM(f:Nat)(mf:MFn)(args:Ad):AM AV:=(evC A (callsM D own) (loopsM D f) mf.body (Uv mf.nt args)).bind λr=>match r.1 with
 |.exit _=>AM.fail
 |.goto _=>AM.fail
 |_=>(resM r.2 mf.res).bind λl=>(match mf.own with
  |true=>AM.ret (Ll l)
  |false=>frz 1000 (Ll l)).bind λv=>match mf.tch with
   |true=>(touchI (FD args)).bind λ_=>AM.ret v
   |false=>AM.ret v
def lpM(f i:Nat)(h:LpH)(c:MC)(xs:Ad):AM AV:=(evC A (callsM D own) (loopsM D f) c (Cj h.live h.n xs)).bind λr=>match r.1 with
 |.normal=>(frzT h.fz r.2).bind λT=>(loopsM D f i (CS h.live T)).bind λq=>AM.ret (.tup (axA q.1::q.2))
 |.goto _=>AM.fail
 |ax=>(frzT (h.fzo ax) r.2).bind λT=>(delT (h.dlo ax) T).bind λ_=>(touchA (h.nt ax) (CS (h.out ax) T)).bind λys=>AM.ret (.tup (axA ax::ys))
end
section
variable (P:Program)
def UZ(t:TypeId):Option Nat:=match P.underlying t with
 |some .bool=>V 1
 |some (.int _)=>V 0
 |some .string=>V 2
 |_=>Δ
def SA:List Field->Nat->Option (Aj)
 |[],_=>V []
 |f::r,n=>if(f.offset == n&&f.name != "_"&&(Cs P f.type == V Θ))=U then(match UZ P f.type,SA r (n+1) with
  |some k,V ks=>V (k::ks)
  |_,_=>Δ) else Δ
def eqS(t:TypeId):Option (Aj):=match P.underlying t with
 |some (.struct fs)=>if(!P.stoodInHeld t&&!P.eqGuardType P.depth t)=U then SA P fs.toList 0 else Δ
 |_=>Δ
def Ij(t:TypeId):Nat:=match P.underlying t with
 |some (.pointer _)=>1
 |some (.slice _)=>2
 |some (.func ..)=>3
 |some .bool=>4
 |some (.int _)=>0
 |some .string=>0
 |_=>9
def OD(t:TypeId):Option (Nat × AI × Nat):=match Cz P t with
 |some et=>(match P.info? et,Dq P et with
  |some i,V z=>if z.cells.size=i.size/\0<i.size then V (i.size,z.cells.toList,i.bytes) else Δ
  |_,_=>Δ)
 |none=>Δ
def Yz(ents:Nat)(o:Op):MO:=match o with
 |.move x=>.mv x
 |.assign x=>.mv x
 |.pick c a b=>.pick c a b
 |.alloc t=>(match Dq P t with
  |some z=>.alloc z.cells.toList
  |none=>.bad)
 |.box _ x=>.box x
 |.build t ps=>(match Dq P t,C6 P t with
  |some z,V fs=>(match KY P fs.toList with
   |some pl=>.buildS z.cells.toList pl ps.toList
   |none=>.bad)
  |some z,Δ=>(match P6 P t with
   |some et=>(match Eg P et with
    |some e=>.buildR z.cells.toList e ps.toList
    |none=>.bad)
   |none=>.bad)
  |_,_=>.bad)
 |.buildSlice t n ps=>(match Cz P t with
  |some et=>(match Eg P et,Dq P et with
   |some e,V z=>.buildSl z.cells.toList e n ps.toList
   |_,_=>.bad)
  |none=>.bad)
 |.load t a=>(match Cs P t,Eg P t with
  |some U,V n=>.ld U n a
  |some Θ,_=>.ld Θ 0 a
  |_,_=>.bad)
 |.store t a x=>(match Eg P t with
  |some n=>.st n a x
  |none=>.bad)
 |.nilCheck x=>.nilck x
 |.binOp b t x y _=>(match eqS P t with
  |some ks=>(match b with
   |.eql=>.eqs Θ ks x y
   |.neq=>.eqs U ks x y
   |_=>.bad)
  |none=>(match Ij P t with
   |9=>.bad
   |k=>.bin k b x y))
 |.unOp .not _ x=>.not x
 |.unOp .neg _ x=>.neg x
 |.makeFunc f a c=>.mkfn f a.toList c.toList
 |.slice t x lo hi Δ=>(match Cz P t with
  |some et=>(match Eg P et with
   |some e=>.slice e x lo hi
   |none=>.bad)
  |none=>if B8 P t then .sslice x lo hi else .bad)
 |.fieldAddr t a f=>(match C6 P t with
  |some fs=>(match fs[f]? with
   |some fd=>(match Eg P fd.type with
    |some (_+1)=>.faddr fd.offset a
    |_=>.bad)
   |none=>.bad)
  |none=>.bad)
 |.field t x f=>(match C6 P t with
  |some fs=>(match fs[f]? with
   |some fd=>(match Cs P fd.type,Eg P fd.type with
    |some U,V n=>.field U fd.offset n x
    |some Θ,_=>.field Θ fd.offset 0 x
    |_,_=>.bad)
   |none=>.bad)
  |none=>.bad)
 |.indexAddr t x i=>(match Cz P t,RW P t with
  |some et,_=>(match Eg P et with
   |some e=>.iaddr e x i
   |none=>.bad)
  |none,V (n,et)=>(match Eg P et with
   |some e=>.aaddr n e x i
   |none=>.bad)
  |_,_=>.bad)
 |.index t x i=>(match RW P t with
  |some (n,et)=>(match Eg P et,Cs P et with
   |some e,V U=>.index n e U e x i
   |some e,V Θ=>.index n e Θ 0 x i
   |_,_=>.bad)
  |none=>if B8 P t then .sidx x i else .bad)
 |.convert s d x=>(match P.underlying s,P.underlying d with
  |some (.int _),V (.int k)=>.iconv k x
  |_,_=>(match Ej P s,B8 P d with
   |true,U=>.str x
   |_,_=>.bad))
 |.extract x i=>.ext x i
 |.makeSlice t l c=>(match OD P t with
  |some (e,z,by')=>.mksl z e by' l c
  |none=>.bad)
 |.call c=>(match c.callee with
  |.builtin .append=>(match c.args.toList,c.argTypes.toList with
   |[s,x],[t,u]=>(match OD P t,DA P u with
    |some (e,_,by'),U=>.app e by' s x
    |some (e,z,by'),Θ=>(match N3 P u with
     |true=>.appz z e by' s x
     |false=>.bad)
    |_,_=>.bad)
   |_,_=>.bad)
  |.builtin .copy=>(match c.args.toList,c.argTypes.toList with
   |[d,x],[t,u]=>(match Cz P t,DA P u with
    |some et,U=>(match Eg P et with
     |some e=>.cpy e d x
     |none=>.bad)
    |_,_=>.bad)
   |_,_=>.bad)
  |.builtin .clear=>(match c.args.toList,c.argTypes.toList with
   |[x],[t]=>(match Cz P t with
    |some et=>(match Eg P et,Dq P et with
     |some e,V z=>if z.cells.size=e/\0<e/\(z.cells.toList.map AV.v).all AV.one=U then .clr z.cells.toList e x else .bad
     |_,_=>.bad)
    |none=>.bad)
   |_,_=>.bad)
  |.builtin .len=>(match c.args.toList,c.argTypes.toList with
   |[x],[t]=>if DA P t then .len U x else if B8 P t then .len Θ x else .bad
   |_,_=>.bad)
  |.builtin .max=>(match c.args.toList with
   |[x,y]=>.mx x y
   |_=>.bad)
  |.builtin .min=>(match c.args.toList with
   |[x,y]=>.mn x y
   |_=>.bad)
  |.builtin _=>.bad
  |.value f=>(match f with
   |.func g=>if H9 P g then .callF g c.args.toList else .bad
   |_=>.callV ents f c.args.toList)
  |.invoke ..=>.bad)
 |_=>.bad
def AeS(ops:Array Oper)(g:Option (Nat × Bool)):Option (Option (Nat × Bool)):=match g with
 |none=>V Δ
 |some (j,want)=>match (ops[j]?).bind (·.dst) with
  |some d=>V (V (d,want))
  |none=>Δ
def Lp(ents:Nat)(ops:Array Oper)(o:Oper):MOp:=match AeS ops o.guard with
 |some g=>⟨o.dst,Yz P ents o.op,g⟩
 |none=>⟨o.dst,.bad,Δ⟩
abbrev Mx:=List LpH
def BA(ents:Nat)(hs:Mx):Code->Nat->MC × List (LpH × MC)
 |.skip,_=>(.skip,[])
 |.region _ ops d,_=>(.reg (ops.toList.map (Lp P ents ops)) (if d then V (VB ops) else Δ),[])
 |.seq a b,n=>match BA ents hs a n with
  |(ma,la)=>match BA ents hs b (n+la.length) with
   |(mb,lb)=>(.seq ma mb,la++lb)
 |.cond c a b,n=>match BA ents hs a n with
  |(ma,la)=>match BA ents hs b (n+la.length) with
   |(mb,lb)=>(.cond c ma mb,la++lb)
 |.block id c,n=>match BA ents hs c n with
  |(mc,lc)=>(.block id mc,lc)
 |.loop c,n=>match BA ents hs c (n+1),hs[n]? with
  |(mc,lc),V h=>(.loop n h,(h,mc)::lc)
  |(mc,lc),Δ=>(.bad,(⟨0,[],[],[],[]⟩,mc)::lc)
 |.exit id,_=>(.exit id,[])
 |.ret,_=>(.ret,[])
 |_,_=>(.bad,[])
def Lq(rs:List ResultVar):List MRes:=rs.map λr=>match r with
 |.tmp t=>.tmp t
 |.cell t ty=>match Cs P ty,Eg P ty with
  |some U,V n=>.cell t U n
  |some Θ,_=>.cell t Θ 0
  |_,_=>.tmp 1000000
end
section
variable {P:Program}
@[simp] theorem CI{α:Type}(a:α):Az P (pure a:Sem α)=V a:=rfl
@[simp] theorem Ai3{α:Type}(a:α):Az P (Sem.pure a:Sem α)=V a:=rfl
theorem Lv{α β:Type}(k:α->Sem β):∀(s:Sem α),Az P (s.bind k)=(Az P s).bind λa=>Az P (k a)
 |.pure a=>rfl
 |.program f=>by simp only[Sem.bind,Az];exact Lv k (f P)
 |.load ..=>rfl
 |.store ..=>rfl
 |.new ..=>rfl
 |.shape ..=>rfl
 |.freeze ..=>rfl
 |.frozen ..=>rfl
 |.getObj ..=>rfl
 |.setObj ..=>rfl
 |.choose ..=>rfl
 |.sys ..=>rfl
 |.mark ..=>rfl
 |.halt ..=>rfl
@[simp] theorem Ay{α β:Type}(s:Sem α)(k:α->Sem β):Az P (s >>= k)=(Az P s).bind λa=>Az P (k a):=Lv k s
@[simp] theorem Pn:Az P program=V P:=rfl
theorem AQ{t:TypeId}{d:TypeDesc}(h:P.underlying t=V d):Az P (underlying t)=V d:=by
 unfold underlying;simp[h]
theorem QI{t:TypeId}(h:Ij P t=1):∃ e,P.underlying t=V (.pointer e):=by
 grind [Ij]
theorem AaL{t:TypeId}(h:Ij P t=2):∃ e,P.underlying t=V (.slice e):=by
 grind [Ij]
theorem AaK{t:TypeId}(h:Ij P t=3):∃ a b c,P.underlying t=V (.func a b c):=by
 grind [Ij]
theorem AcO{t:TypeId}(h:Ij P t=4):P.underlying t=V .bool:=by
 grind [Ij]
theorem SF{o:Oper}{b:BinOp}{t yt:TypeId}{x y:Operand}(ho:o.op=.binOp b t x y yt){ρ:Operand->AV}{u v z:Value}(hx:(ρ x).toVal=V u)(hy:(ρ y).toVal=V v)
  (h:Az P (do eqGuard b t x y u v;binOp b t u v)=V z):C7 P o ρ=V (FI z):=by
 have e1:B9 ρ x=u:=by unfold B9;rw[hx];rfl
 have e2:B9 ρ y=v:=by unfold B9;rw[hy];rfl
 have c:(Co o.op&&o.op.operands.toList.all λx=>(ρ x).toVal.isSome)=U:=by
  grind [Op.operands,Co]
 unfold C7;rw[Ac c];have:Az P (execOp (B9 ρ) o)=V (.value z):=by
  unfold execOp;rw[ho];simp only[e1,e2];rw[Ay,h];rfl
 rw[this];rfl
theorem Qs{o:Oper}{b:BinOp}{t yt:TypeId}{x y:Operand}(ho:o.op=.binOp b t x y yt){ρ:Operand->AV}{u v z:Value}(hx:ρ x=.v u)(hy:ρ y=.v v)
  (h:Az P (do eqGuard b t x y u v;binOp b t u v)=V z):C7 P o ρ=V (FI z):=SF ho (by rw[hx];rfl) (by rw[hy];rfl) h
theorem AfU{o:Oper}{t:TypeId}{x:Operand}(ho:o.op=.unOp .not t x){ρ:Operand->AV}{c:Bool}(hx:ρ x=.v (.bool c)):C7 P o ρ=V (.v (.bool !c)):=by
 have e1:B9 ρ x=.bool c:=by unfold B9;rw[hx];rfl
 have cc:(Co o.op&&o.op.operands.toList.all λx=>(ρ x).toVal.isSome)=U:=by
  grind [AV.toVal,Op.operands,Co]
 unfold C7;rw[Ac cc];have:Az P (execOp (B9 ρ) o)=V (.value (.bool !c)):=by
  unfold execOp;rw[ho];simp only[e1];rw[Ay];rfl
 rw[this];rfl
theorem AfT{o:Oper}{t:TypeId}{x:Operand}(ho:o.op=.unOp .neg t x){ρ:Operand->AV}{k:IntKind}{n:Int}(hx:ρ x=.v (.int k n)):C7 P o ρ=V (.v (.int k (Ak.sub k 0 n))):=by
 have e1:B9 ρ x=.int k n:=by unfold B9;rw[hx];rfl
 have cc:(Co o.op&&o.op.operands.toList.all λx=>(ρ x).toVal.isSome)=U:=by
  grind [AV.toVal,Op.operands,Co]
 unfold C7;rw[Ac cc];have:Az P (execOp (B9 ρ) o)=V (.value (.int k (Ak.sub k 0 n))):=by
  unfold execOp;rw[ho];simp only[e1];rw[Ay];rfl
 rw[this];rfl
theorem AcE{b:BinOp}{t:TypeId}{x y:Operand}{k k':IntKind}{a c:Int}:Az P (eqGuard b t x y (.int k a) (.int k' c))=V ():=by
 simp_all [eqGuard]
theorem AcF{b:BinOp}{t:TypeId}{x y:Operand}{a c:ByteArray}:Az P (eqGuard b t x y (.string a) (.string c))=V ():=by
 simp_all [eqGuard]
theorem Ajh{o:Oper}{b:BinOp}{t yt:TypeId}{x y:Operand}(ho:o.op=.binOp b t x y yt){ρ:Operand->AV}{k k':IntKind}{a c:Int}(hx:ρ x=.v (.int k a))(hy:ρ y=.v (.int k' c)){z:Value}(hz:Az P (binOp b t (.int k a) (.int k' c))=V z):C7 P o ρ=V (FI z):=
 Qs ho hx hy (by rw[Ay,AcE];exact hz)
theorem Ab9{o:Oper}{b:BinOp}{t yt:TypeId}{x y:Operand}(ho:o.op=.binOp b t x y yt){ρ:Operand->AV}{r:AV}(h:ME Ak b (ρ x) (ρ y)=V r):C7 P o ρ=V r/\He P t (ρ x) (ρ y)=Θ:=by
 unfold ME at h;split at h
 .rename_i k a k' c hx hy
  refine⟨?_,by rw[hx,hy];rfl⟩;have key:∀ z,Az P (binOp b t (.int k a) (.int k' c))=V z->C7 P o ρ=V (FI z):=λz hz=>Ajh ho hx hy hz
  have shf:∀{op:BinOp} {v:Value},¬ c<0->(∀ n,n=Axm c.toNat k.bits->Az P (match op with
    |.shl=>(pure (.int k (k.wrap (a*2 ^ n))):Sem Value)
    |.shr=>pure (.int k (a.fdiv (2 ^ n)))
    |_=>stuck "shift: << >> expected")=V v)->Az P (Op.shift op k a k' c)=V v:=λ{op v} hc hv=>by
   unfold Op.shift;rw[Ab hc];exact hv _ rfl
  have div:∀{op:BinOp} {v:Value},¬ c=0->Az P (match op with
    |.quo=>(pure (.int k (k.wrap (a.tdiv c))):Sem Value)
    |.rem=>pure (.int k (a.tmod c))
    |_=>stuck "intDiv: / % expected")=V v->Az P (Op.intDiv op k a c)=V v:=λ{op v} hc hv=>by
   grind [Op.intDiv]
  cases b with
  |shl=>
   simp only at h
   cases e:Ak.lt c 0 with
   |true=>rw[e]at h;cases h
   |false=>
    rw[e]at h;simp only[δ]at h;subst h;have hc:¬ c<0:=of_decide_eq_false e;exact key (.int k (Ak.shl k a c)) (by
     show Az P (Op.shift .shl k a k' c)=_
     exact shf hc λn hn=>by rw[hn];rfl)
  |shr=>
   simp only at h
   cases e:Ak.lt c 0 with
   |true=>rw[e]at h;cases h
   |false=>
    rw[e]at h;simp only[δ]at h;subst h;have hc:¬ c<0:=of_decide_eq_false e;exact key (.int k (Ak.shr k a c)) (by
     show Az P (Op.shift .shr k a k' c)=_
     exact shf hc λn hn=>by rw[hn];rfl)
  |_=>
   simp only at h;split at h
   .rename_i hk
    subst hk
    try simp only[δ,reduceCtorEq]at h
    first
     | (subst h
        first
         |exact key (.int k (k.wrap (a+c))) (by simp[binOp,Op.intArith])
         |exact key (.int k (k.wrap (a-c))) (by simp[binOp,Op.intArith])
         |exact key (.int k (k.wrap (a*c))) (by simp[binOp,Op.intArith])
         |exact key (.int k (Ak.bits .and k a c)) (by simp[binOp,Op.intBits,Ak,I6,Ar.bits,VD])
         |exact key (.int k (Ak.bits .or k a c)) (by simp[binOp,Op.intBits,Ak,I6,Ar.bits,VD])
         |exact key (.int k (Ak.bits .xor k a c)) (by simp[binOp,Op.intBits,Ak,I6,Ar.bits,VD])
         |exact key (.int k (Ak.bits .andNot k a c)) (by simp[binOp,Op.intBits,Ak,I6,Ar.bits,VD])
         |exact key (.bool (a == c)) (by simp[binOp,Op.intCmp])
         |exact key (.bool (a != c)) (by simp[binOp,Op.intCmp])
         |exact key (.bool (decide (a<c))) (by simp[binOp,Op.intCmp])
         |exact key (.bool (decide (a<=c))) (by simp[binOp,Op.intCmp])
         |exact key (.bool (decide (c<a))) (by simp[binOp,Op.intCmp])
         |exact key (.bool (decide (c<=a))) (by simp[binOp,Op.intCmp]))
     | (cases e:Ak.eq c 0 with
        |true=>rw[e]at h;cases h
        |false=>
         rw[e]at h;simp only[δ]at h;subst h;have hc:¬ c=0:=λe0=>by subst e0;exact absurd e (by simp[Ak,I6,Ar.eq])
         first
          |exact key (.int k (Ak.quo k a c)) (by
            have:binOp .quo t (.int k a) (.int k c)=Op.intDiv .quo k a c:=by simp[binOp]
            rw[this];exact div hc rfl)
          |exact key (.int k (Ak.rem k a c)) (by
            have:binOp .rem t (.int k a) (.int k c)=Op.intDiv .rem k a c:=by simp[binOp]
            rw[this];exact div hc rfl))
   .cases h
 .rename_i a c hx hy
  refine⟨?_,by rw[hx,hy];rfl⟩;have key:∀ z,Az P (binOp b t (.string a) (.string c))=V z->C7 P o ρ=V (FI z):=λz hz=>Qs ho hx hy (by rw[Ay,AcF];exact hz)
  cases b with
  |add=>
   simp only at h
   cases e:Aww (Ak.slen a+Ak.slen c) 9223372036854775807 with
   |false=>rw[e]at h;cases h
   |true=>
    rw[e]at h;simp only[δ]at h;subst h;have e1:a.size+c.size<=9223372036854775807:=Nat.le_of_ble_eq_true e;refine key (.string (a++c)) ?_;simp only[binOp,Op.stringOp];rw[Ab (by
     have:IntKind.i64.max=9223372036854775807:=by decide
     rw[this];omega)]
    rfl
  |eql=>simp only[δ]at h;subst h;exact key (.bool (a.toList == c.toList)) (by simp[binOp,Op.stringOp])
  |neq=>simp only[δ]at h;subst h;exact key (.bool !(a.toList == c.toList)) (by simp[binOp,Op.stringOp])
  |lss=>simp only[δ]at h;subst h;exact key (.bool (Op.bytesLess a.toList c.toList)) (by simp[binOp,Op.stringOp])
  |geq=>simp only[δ]at h;subst h;exact key (.bool !(Op.bytesLess a.toList c.toList)) (by simp[binOp,Op.stringOp])
  |_=>cases h
 .cases h
def Ab8(P:Program)(o:Oper)(b:BinOp)(t:TypeId)(x y:Operand)(ρ:Operand->AV):AM AV:=if He P t (ρ x) (ρ y)=U then(match b with
   |.eql=>AM.ret (.v (.bool Θ))
   |.neq=>AM.ret (.v (.bool U))
   |_=>AM.fail) else AM.opt (C7 P o ρ)
theorem AjG{t:TypeId}{x y:Operand}{u v:Value}(hu:∀ us vs,¬ (u=.agg us/\v=.agg vs))(hn:u≠.nilIface){b:BinOp}:Az P (eqGuard b t x y u v)=V ():=by
 have key:Az P (match u,v with
  |.nilIface,.nilIface=>do
   if(x matches .const _)||(y matches .const _) then return
   if ←Op.eqGuardIn Op.maxDepth t u v then unsupported (.noEntry "binop/eql: two nil values of an interface type with methods, neither of them the literal nil")
  |.agg _,.agg _=>do
   if !(←program).eqGuardType (←program).depth t then return
   if ←Op.eqGuardIn Op.maxDepth t u v then unsupported (.noEntry "binop/eql: two nil values of an interface type with methods, in a part of a struct or an array")
  |_,_=>pure ())=V ():=by
  simp_all
 unfold eqGuard
 cases b<;>first
  |rfl
  |exact key
theorem Us{o:Oper}{b:BinOp}{t yt:TypeId}{x y:Operand}(ho:o.op=.binOp b t x y yt){ρ:Operand->AV}{u v:Value}{c:Bool}(hx:ρ x=.v u)(hy:ρ y=.v v)
  (hu:∀ us vs,¬ (u=.agg us/\v=.agg vs)) (hn:u≠.nilIface) (hi:∀ k a k' c,¬ (u=.int k a/\v=.int k' c)) (hfl:∀ k a,u≠.float k a) (hc:∀ k a c,u≠.complex k a c) (hs:∀ a,u≠.string a)
  (h:Az P (Op.equal t u v)=V c) (hb:b=.eql\/b=.neq):C7 P o ρ=V (.v (.bool (if b=.eql then c else !c))):=by
 have:C7 P o ρ=V (FI (.bool (if b=.eql then c else !c))):=by
  refine Qs ho hx hy ?_;rw[Ay,AjG hu hn];rcases hb with rfl|rfl
  .cases u<;>first
    |(exfalso;first|exact hfl _ _ rfl|exact hc _ _ _ rfl|exact hs _ rfl)
    |(cases v<;>first
      |(exfalso;exact hi _ _ _ _ ⟨rfl,rfl⟩)
      |(simp only[AwT,Go.binOp,Ay,h,CI];rfl))
  .cases u<;>first
    |(exfalso;first|exact hfl _ _ rfl|exact hc _ _ _ rfl|exact hs _ rfl)
    |(cases v<;>first
      |(exfalso;exact hi _ _ _ _ ⟨rfl,rfl⟩)
      |(simp only[AwT,Go.binOp,Ay,h,CI];rfl))
 exact this
theorem Acs{t:TypeId}(hu:P.underlying t=V .bool)(d:Nat)(a c:Bool):Az P (Op.equalIn (d+1) t (.bool a) (.bool c))=V (a == c):=by
 unfold Op.equalIn;rw[Ay,AQ hu];rfl
theorem AfB{t e:TypeId}(hu:P.underlying t=V (.pointer e))(d:Nat):Az P (Op.equalIn (d+1) t (.pointer Δ) (.pointer Δ))=V U:=by
 unfold Op.equalIn;rw[Ay,AQ hu];rfl
theorem AjF{t e:TypeId}(hu:P.underlying t=V (.slice e))(d:Nat):Az P (Op.equalIn (d+1) t (.slice Δ 0 0) (.slice Δ 0 0))=V U:=by
 unfold Op.equalIn;rw[Ay,AQ hu];rfl
theorem AjE{t:TypeId}{a b:Array TypeId}{c:Bool}(hu:P.underlying t=V (.func a b c))(d:Nat):Az P (Op.equalIn (d+1) t .nilFunc .nilFunc)=V U:=by
 unfold Op.equalIn;rw[Ay,AQ hu];rfl
theorem VX{o:Oper}{b:BinOp}{t yt:TypeId}{x y:Operand}(ho:o.op=.binOp b t x y yt){ρ:Operand->AV}{ek:Nat}(hk:Ij P t=ek){c:Bool}(h:eqM Ak ek (ρ x) (ρ y)=V c)(hb:b=.eql\/b=.neq) :
  Ab8 P o b t x y ρ=AM.ret (.v (.bool (if b=.eql then c else !c))):=by
 unfold eqM at h;unfold Ab8;split at h<;>simp only[δ,reduceCtorEq]at h<;>try subst h
 .-- bool
  rename_i a c hx hy;have hu:=AcO hk;rw[Ab (by rw[hx,hy];simp[He])];have:Az P (Op.equal t (.bool a) (.bool c))=V (a == c):=Acs hu 9999 a c;rw[Us ho hx hy (by simp) (by simp) (by simp) (by simp) (by simp) (by simp) this hb];rfl
 .rename_i hx hy
  obtain⟨e,hu⟩:=QI hk;rw[Ac (by rw[hx,hy];simp[He,hu])];rcases hb with rfl|rfl<;>rfl
 .rename_i hx hy
  obtain⟨e,hu⟩:=QI hk;rw[Ac (by rw[hx,hy];simp[He,hu])];rcases hb with rfl|rfl<;>rfl
 .rename_i hx hy
  obtain⟨e,hu⟩:=QI hk;rw[Ab (by rw[hx,hy];simp[He])];have:Az P (Op.equal t (.pointer Δ) (.pointer Δ))=V U:=AfB hu 9999;rw[Us ho hx hy (by simp) (by simp) (by simp) (by simp) (by simp) (by simp) this hb];rfl
 .rename_i hx hy
  obtain⟨e,hu⟩:=AaL hk;rw[Ac (by rw[hx,hy];simp[He,hu])];rcases hb with rfl|rfl<;>rfl
 .rename_i hx hy
  obtain⟨e,hu⟩:=AaL hk;rw[Ab (by rw[hx,hy];simp[He])];have:Az P (Op.equal t (.slice Δ 0 0) (.slice Δ 0 0))=V U:=AjF hu 9999;rw[Us ho hx hy (by simp) (by simp) (by simp) (by simp) (by simp) (by simp) this hb];rfl
 .rename_i hx hy
  obtain⟨e,e2,e3,hu⟩:=AaK hk;rw[Ac (by rw[hx,hy];simp[He,hu])];rcases hb with rfl|rfl<;>rfl
 .rename_i hx hy
  obtain⟨e,e2,e3,hu⟩:=AaK hk;rw[Ab (by rw[hx,hy];simp[He])];have:Az P (Op.equal t .nilFunc .nilFunc)=V U:=AjE hu 9999;rw[Us ho hx hy (by simp) (by simp) (by simp) (by simp) (by simp) (by simp) this hb];rfl
def LV:Nat->Value->Value->Option Bool
 |1,.bool a,.bool b=>V (a == b)
 |0,.int k a,.int k' b=>if k=k' then V (a == b) else Δ
 |2,.string a,.string b=>V (a == b)
 |_,_,_=>Δ
def EH:Aj->AI->AI->Option Bool
 |[],[],[]=>V U
 |k::ks,u::us,v::vs=>(match LV k u v,EH ks us vs with
  |some a,V b=>V (a&&b)
  |_,_=>Δ)
 |_,_,_=>Δ
theorem KK(a b:ByteArray):(a == b)=(a.data == b.data):=by
 cases a;cases b;rfl
theorem VH(a b:ByteArray):(a.toList == b.toList)=(a == b):=by
 simp_all [Go.ByteArray.toList_eq,KK]
theorem MQ:∀{ks:Aj} {xs ys:Ad} {c:Bool},eqL Ak ks xs ys=V c->∃ us vs,Jx xs=V us/\Jx ys=V vs/\EH ks us vs=V c
 |[],[],[],c,h=>by simp only[eqL,δ]at h;subst h;exact⟨[],[],rfl,rfl,rfl⟩
 |ks,xs,ys,c,h=>by
  unfold eqL at h;split at h
  .simp only[δ]at h;subst h;exact⟨[],[],rfl,rfl,rfl⟩
  .rename_i ks a r b q
   cases e:eqL Ak ks r q with
   |none=>rw[e]at h;cases h
   |some t=>
    rw[e]at h;simp only[δ]at h;subst h;obtain⟨us,vs,h1,h2,h3⟩:=MQ e;exact⟨.bool a::us,.bool b::vs,by simp only[Jx,h1],by simp only[Jx,h2],by simp only[EH,LV,h3];rfl⟩
  .rename_i ks k a r k' b q
   split at h
   .rename_i hk
    cases e:eqL Ak ks r q with
    |none=>rw[e]at h;cases h
    |some t=>
     rw[e]at h;simp only[δ]at h;subst h;obtain⟨us,vs,h1,h2,h3⟩:=MQ e;exact⟨.int k a::us,.int k' b::vs,by simp only[Jx,h1],by simp only[Jx,h2],by simp only[EH,LV,h3,Ac hk];rfl⟩
   .cases h
  .rename_i ks a r b q
   cases e:eqL Ak ks r q with
   |none=>rw[e]at h;cases h
   |some t=>
    rw[e]at h;simp only[δ]at h;subst h;obtain⟨us,vs,h1,h2,h3⟩:=MQ e;refine⟨.string a::us,.string b::vs,by simp only[Jx,h1],by simp only[Jx,h2],?_⟩;simp only[EH,LV,h3]
    show V ((a == b)&&t)=V ((a.toList == b.toList)&&t)
    rw[VH]
  .cases h
theorem Acu{t:TypeId}{k:Nat}(hk:UZ P t=V k){u v:Value}{c:Bool}(h:LV k u v=V c)(d:Nat):Az P (Op.equalIn (d+1) t u v)=V c:=by
 unfold LV at h;unfold UZ at hk;split at h
 .simp only[δ]at h
  subst h;split at hk<;>simp only[δ,reduceCtorEq]at hk<;>try (exact absurd hk (by decide))
  rename_i hu;unfold Op.equalIn;rw[Ay,AQ hu];rfl
 .split at h
  .rename_i ek
   simp only[δ]at h;subst h;split at hk<;>simp only[δ,reduceCtorEq]at hk<;>try (exact absurd hk (by decide))
   rename_i hu;unfold Op.equalIn;rw[Ay,AQ hu];simp only[AwT,ek,if_true];rfl
  .cases h
 .simp only[δ]at h
  subst h;split at hk<;>simp only[δ,reduceCtorEq]at hk<;>try (exact absurd hk (by decide))
  rename_i hu;unfold Op.equalIn;rw[Ay,AQ hu];rfl
 .cases h
theorem Tn{t:TypeId}(h:Cs P t=V Θ){cs:Array Value}{n:Nat}{u:Value}(hu:cs[n]? = V u):Az P (part t cs n)=V u:=by
 unfold part;have:Az P (isAgg t)=V Θ:=by
  unfold isAgg;unfold Cs at h
  cases e:P.underlying t with
  |none=>rw[e]at h;cases h
  |some d=>
   rw[e]at h;simp only[AwE,δ]at h;rw[Ay,AQ e]
   cases d<;>first | (simp[Agk]at h;done) | rfl
 rw[Ay,this];simp[hu]
theorem NW{o:Oper}{ρ:Operand->AV}{z:Value}(hn:Co o.op=U)(ha:(o.op.operands.toList.all λx=>(ρ x).toVal.isSome)=U)(h:Az P (execOp (B9 ρ) o)=V (.value z)):C7 P o ρ=V (FI z):=by
 unfold C7;rw[Ac (by rw[hn,ha];rfl),h];rfl
theorem Hj{ρ:Operand->AV}{x:Operand}{u:Value}(h:ρ x=.v u):B9 ρ x=u:=by unfold B9;rw[h];rfl
theorem MP{xs ys:Array Value}(d:Nat):∀(fs:List Field) (n:Nat) {ks:Aj} {us vs:AI} {c:Bool},SA P fs n=V ks->EH ks us vs=V c->(∀(i:Nat) u,us[i]? = V u->xs[n+i]? = V u)->(∀(i:Nat) u,vs[i]? = V u->ys[n+i]? = V u)->Az P (Op.eqFields (d+1) xs ys fs)=V c
 |[],n,ks,us,vs,c,hf,hc,hx,hy=>by
  simp only[SA,δ]at hf;subst hf
  cases us<;>cases vs<;>simp only[EH,δ,reduceCtorEq]at hc
  subst hc;rfl
 |f::r,n,ks,us,vs,c,hf,hc,hx,hy=>by
  simp only[SA]at hf;split at hf
  .rename_i h1
   simp only[η,beq_iff_eq,bne_iff_ne]at h1;obtain⟨⟨h1,h2⟩,h3⟩:=h1
   cases e1:UZ P f.type with
   |none=>rw[e1]at hf;cases hf
   |some k=>
    cases e2:SA P r (n+1) with
    |none=>rw[e1,e2]at hf;cases hf
    |some ks'=>
     rw[e1,e2]at hf;simp only[δ]at hf;subst hf
     cases us with
     |nil=>simp[EH]at hc
     |cons u us=>
      cases vs with
      |nil=>simp[EH]at hc
      |cons v vs=>
       simp only[EH]at hc
       cases e3:LV k u v with
       |none=>rw[e3]at hc;cases hc
       |some a=>
        cases e4:EH ks' us vs with
        |none=>rw[e3,e4]at hc;cases hc
        |some b=>
         rw[e3,e4]at hc;simp only[δ]at hc;subst hc;have ih:=MP d r (n+1) e2 e4 (λi u hi=>by have:=hx (i+1) u (by simpa using hi);rwa [show n+1+i=n+(i+1) by omega]) (λi u hi=>by have:=hy (i+1) u (by simpa using hi);rwa [show n+1+i=n+(i+1) by omega]);unfold Op.eqFields;rw[Ac h2,h1,Ay,Tn h3 (show xs[n]? = V u from hx 0 u rfl)];simp only[AwT];rw[Ay,Tn h3 (show ys[n]? = V v from hy 0 v rfl)];simp only[AwT];rw[Ay,Acu e1 e3 d];simp only[AwT]
         cases a with
         |true=>simpa using ih
         |false=>simp
  .cases hf
theorem VW{t:TypeId}{fs:Array Field}(ht:P.underlying t=V (.struct fs))(hp:P.stoodInHeld t=Θ)(d:Nat)(xs ys:Array Value):Az P (Op.equalIn (d+1) t (.agg xs) (.agg ys))=Az P (Op.eqFields d xs ys fs.toList):=by
 unfold Op.equalIn;rw[Ay,AQ ht];simp only[AwT,Ay,Pn,hp,Awx,if_false];rw[←Array.forIn_toList];generalize fs.toList=l;clear ht
 induction l with
 |nil=>simp[Op.eqFields]
 |cons f fs ih=>
  simp only[List.forIn_cons,Op.eqFields];split
  .simp only[Ay]
   cases Az P (part f.type xs f.offset) with
   |none=>rfl
   |some a=>
    simp only[AwT,Ay]
    cases Az P (part f.type ys f.offset) with
    |none=>rfl
    |some b=>
     simp only[AwT,Ay]
     cases Az P (Op.equalIn d f.type a b) with
     |none=>rfl
     |some r=>
      cases r
      .simp
      .simpa using ih
  .simpa using ih
theorem Sx{o:Oper}{b:BinOp}{t yt:TypeId}{x y:Operand}(ho:o.op=.binOp b t x y yt){ρ:Operand->AV}{ks:Aj}(hk:eqS P t=V ks){r:AV}{neg:Bool}(hb:b=if neg then .neq else .eql)(h:Apk Ak neg ks (ρ x) (ρ y)=V r):Ab8 P o b t x y ρ=AM.ret r:=by
 unfold Apk at h;split at h
 .rename_i xs ys ex ey
  cases e:eqL Ak ks xs ys with
  |none=>rw[e]at h;cases h
  |some c=>
   rw[e]at h;obtain⟨us,vs,h1,h2,h3⟩:=MQ e;unfold eqS at hk;split at hk
   .rename_i fs hu
    split at hk
    .rename_i hc
     simp only[η,Bool.not_eq_true']at hc;have key:Az P (Op.equalIn 10000 t (.agg us.toArray) (.agg vs.toArray))=V c:=by
      rw[VW hu hc.1 9999];exact MP 9998 fs.toList 0 hk h3 (λi u hi=>by rw[AwJ];simpa using hi) (λi u hi=>by rw[AwJ];simpa using hi)
     have g:C7 P o ρ=V (FI (.bool (if neg then !c else c))):=by
      refine SF ho (u:=.agg us.toArray) (v:=.agg vs.toArray) (by rw[ex];simp only[AV.toVal,h1]) (by rw[ey];simp only[AV.toVal,h2]) ?_;have g1:Az P (eqGuard b t x y (.agg us.toArray) (.agg vs.toArray))=V ():=by
       unfold eqGuard;rw[hb]
       cases neg<;>simp[hc.2]
      rw[Ay,g1];simp only[AwT];rw[hb]
      cases neg
      .show Az P (binOp .eql t (.agg us.toArray) (.agg vs.toArray))=_
       have:binOp .eql t (.agg us.toArray) (.agg vs.toArray)=(do let r ←Op.equalIn 10000 t (.agg us.toArray) (.agg vs.toArray);pure (.bool r)):=rfl;rw[this,Ay,key];rfl
      .show Az P (binOp .neq t (.agg us.toArray) (.agg vs.toArray))=_
       have:binOp .neq t (.agg us.toArray) (.agg vs.toArray)=(do let r ←Op.equalIn 10000 t (.agg us.toArray) (.agg vs.toArray);pure (.bool !r)):=rfl;rw[this,Ay,key];rfl
     unfold Ab8;rw[Ab (by rw[ex,ey];simp[He]),g]
     cases neg<;>(simp only[δ]at h;rw[←h];rfl)
    .cases hk
   .cases hk
 .cases h
theorem Aco{o:Oper}{b:BinOp}{t yt:TypeId}{x y:Operand}(ho:o.op=.binOp b t x y yt){ρ:Operand->AV}{r:AV}(h:Ajq Ak (Ij P t) b (ρ x) (ρ y)=V r):Ab8 P o b t x y ρ=AM.ret r:=by
 unfold Ajq at h;split at h
 .obtain⟨h1,h2⟩:=Ab9 (P:=P) ho h
  unfold Ab8;rw[Ab (by rw[h2];simp),h1];rfl
 .rename_i hk
  cases e:eqM Ak (Ij P t) (ρ x) (ρ y) with
  |none=>rw[e]at h;cases h
  |some c=>
   rw[e]at h;simp only[AwE,δ]at h;subst h;rw[VX ho rfl e (.inl rfl)];rfl
 .cases e:eqM Ak (Ij P t) (ρ x) (ρ y) with
  |none=>rw[e]at h;cases h
  |some c=>
   rw[e]at h;simp only[AwE,δ]at h;subst h;rw[VX ho rfl e (.inr rfl)];rfl
 .cases h
end
def Le{α:Type}(m m':AM α):Prop:=∀ H r,m H=V r->m' H=V r
section
variable {α β:Type}
theorem Le.refl(m:AM α):Le m m:=λ_ _ h=>h
theorem Le.fail(m:AM α):Le AM.fail m:=λ_ _ h=>by cases h
theorem Le.bind{m m':AM α}{f f':α->AM β}(h:Le m m')(k:∀ a,Le (f a) (f' a)):Le (m.bind f) (m'.bind f'):=λH r e=>by
 unfold AM.bind at e ⊢;rcases e1:m H with _|⟨a,H1,f1⟩<;>rw[e1]at e
 .cases e
 simp only at e;rcases e2:f a H1 with _|⟨b,H2,f2⟩<;>rw[e2]at e
 .cases e
 simp only at e;rw[h H _ e1];simp only;rw[k a H1 _ e2];exact e
theorem Le.opt{o o':Option α}(h:∀ a,o=V a->o'=V a):Le (AM.opt o) (AM.opt o'):=λH r e=>by
 cases o with
 |none=>cases e
 |some a=>rw[h a rfl];exact e
theorem Le.ret{o:Option α}{m:AM α}(h:∀ a,o=V a->m=AM.ret a):Le (AM.opt o) m:=λH r e=>by
 cases o with
 |none=>cases e
 |some a=>rw[h a rfl];exact e
theorem Le.trans{m m1 m2:AM α}(h:Le m m1)(k:Le m1 m2):Le m m2:=λH r e=>k H r (h H r e)
end
section
variable {P:Program}
theorem IX:∀ xs,AU xs=xs.length
 |[]=>rfl
 |x::r=>by simp[AU,IX r]
theorem KA:∀ xs n,Kz xs n=xs.take n
 |[],_=>by simp[Kz]
 |x::r,0=>by simp[Kz]
 |x::r,n+1=>by simp[Kz,KA r n]
theorem JK:∀ xs n,JJ xs n=xs.drop n
 |[],_=>by simp[JJ]
 |x::r,0=>by simp[JJ]
 |x::r,n+1=>by simp[JJ,JK r n]
theorem MJ:∀ xs,LS xs=xs.flatten
 |[]=>rfl
 |x::r=>by simp[LS,MJ r]
theorem I2:∀ xs,M9 xs=xs.all AV.one
 |[]=>rfl
 |x::r=>by simp[M9,I2 r]
theorem Ao4(a b:Nat):AwO a b=(a == b):=Bool.eq_iff_iff.2 (by simp)
theorem KG(e:Nat):∀ xs,Hk e xs=xs.all λcs=>cs.length == e
 |[]=>rfl
 |x::r=>by simp[Hk,KG e r,Ao4]
theorem KX(T:Ad):∀ l,R6 T l=l.map (AT T)
 |[]=>rfl
 |x::r=>by simp[R6,KX T r]
theorem Nf(T:Ad):∀ l,Nd T l=l.map λp=>(p.1,AT T p.2)
 |[]=>rfl
 |(i,x)::r=>by simp[Nd,Nf T r]
theorem PI{t:TypeId}{row:Bool}{n:Nat}(h1:Cs P t=V row)(h2:row=U->Eg P t=V n)(a:AV):Le (loadM row n a) (loadA P t a):=by
 unfold loadM loadA;rw[h1]
 cases row with
 |true=>rw[h2 rfl];exact Le.refl _
 |false=>exact Le.refl _
theorem AgC{t:TypeId}{n:Nat}(h:Eg P t=V n)(a x:AV):Le (storeM n a x) (storeA P t a x):=by
 unfold storeM storeA;rw[h]
 cases a<;>exact Le.refl _
theorem Abq{t:TypeId}{row:Bool}{n:Nat}(h1:Cs P t=V row)(h2:row=U->Eg P t=V n)(cs:Ad)(off:Nat):Xp row off n cs=Tl P t cs off:=by
 unfold Xp Tl;rw[h1]
 cases row with
 |true=>rw[h2 rfl]
 |false=>rfl
theorem Agf{t et:TypeId}{e:Nat}(h1:Cz P t=V et)(h2:Eg P et=V e){x ix r:AV}(h:QC e x ix=V r):Er P t x ix=V r:=by
 unfold QC at h;unfold Er;rw[h1]
 cases e1:ix.idx with
 |none=>rw[e1]at h;cases h
 |some i=>
  rw[e1]at h;simp only at h
  cases x<;>try (cases h)
  .rename_i b o n e'
   simp only at h ⊢;split at h
   .rename_i hlt
    split at h
    .rename_i he
     subst he;have:i+1<=n:=by simpa[Axu]using hlt
     have:i<n:=by omega
     rw[Ac ⟨this,h2⟩];exact h
    .cases h
   .cases h
  .rename_i xs
   simp only[UU]at h ⊢
   cases e2:xs[i]? with
   |none=>rw[e2]at h;cases h
   |some cs=>
    rw[e2]at h;simp only at h ⊢;split at h
    .rename_i hb
     have:cs.length=e:=by simpa using hb
     rw[Ac (by rw[h2,this])];exact h
    .cases h
theorem Aim{t et:TypeId}{e:Nat}(h1:Cz P t=V et)(h2:Eg P et=V e){x r:AV}{lo hi:Option AV}(h:Ru e x lo hi=V r):Mq P t x lo hi=V r:=by
 have om:∀ n o,Pm n o=Fh n o:=λn o=>by cases o<;>rfl
 unfold Ru at h;unfold Mq;rw[h1];simp only[om,IX,KA,JK,KG]at h
 cases x<;>try (cases h)
 .rename_i b o n e'
  simp only at h ⊢;split at h
  .rename_i l hh e1 e2
   rw[e1,e2];simp only;split at h
   .rename_i c1 c2 c3
    have c3':e'=e:=by simpa using c3
    subst c3';rw[Ac ⟨by simpa using c1,by simpa using c2,h2⟩];exact h
   .cases h
  .cases h
 .rename_i xs
  simp only at h ⊢;split at h
  .rename_i l hh e1 e2
   rw[e1,e2];simp only;split at h
   .rename_i c1 c2 c3
    have c4:(xs.all λcs=>Eg P et == V cs.length)=U:=Awu.2 λcs hcs=>by
     have:=Awu.1 c3 cs hcs;rw[h2];simp at this ⊢;exact this.symm
    rw[Ac ⟨by simpa using c1,by simpa using c2,by rw[h2];rfl,c4⟩];exact h
   .cases h
  .cases h
theorem UF(e:Nat)(x:AV):Le (newsM e x) (newsA e x):=by
 unfold newsM newsA;split
 .dsimp only
  split
  .refine Le.bind (Le.refl _) λk=>?_
   split
   .rename_i c1 c2
    rw[Ac ⟨by simpa using c1,c2⟩];exact Le.refl _
   .exact Le.fail _
  .exact Le.fail _
 .simp only[IX,MJ,KG]
  split
  .rename_i c
   rw[Ac c];exact Le.refl _
  .exact Le.fail _
 .exact Le.refl _
 .exact Le.fail _
theorem LY{t:TypeId}{e b:Nat}{z:AI}(h:OD P t=V (e,z,b)):∃ et i zz,Cz P t=V et/\P.info? et=V i/\Dq P et=V zz/\i.zero=V zz/\zz.cells.size=i.size/\0<i.size/\e=i.size/\z=zz.cells.toList/\b=i.bytes:=by
 unfold OD at h;split at h
 .rename_i et h1
  split at h
  .rename_i i zz h2 h3
   split at h
   .rename_i h4
    simp only[δ,Prod.mk.injEq]at h;refine⟨et,i,zz,h1,h2,h3,?_,h4.1,h4.2,h.1.symm,h.2.1.symm,h.2.2.symm⟩;unfold Dq at h3;rw[h2]at h3;simp only at h3;split at h3
    .split at h3
     .rename_i e5 _;rw[e5];exact h3
     .cases h3
    .cases h3
   .cases h
  .cases h
 .cases h
theorem AcP{t u:TypeId}{e b:Nat}{z:AI}(h:OD P t=V (e,z,b))(hu:DA P u=U)(s x:AV):Le (appM e b s x) (appendA P [t,u] s x):=by
 obtain⟨et,i,zz,h1,h2,h3,h4,h5,h6,rfl,_,rfl⟩:=LY h;have hn:Hw P u=U:=by
  unfold DA at hu;unfold Hw;split at hu
  .rename_i e1;rw[e1]
  .cases hu
 unfold appM appendA;simp only[h1,h2,h4];rw[Ac (show zz.cells.size=i.size/\0<i.size from ⟨h5,h6⟩)];refine Le.bind (by unfold newsU;rw[hn];exact UF _ _) λr=>?_
 unfold appR;split
 .rename_i c
  rw[Ac (show r.1=0 by simpa using c)];exact Le.refl _
 .rename_i c
  rw[Ab (show ¬ r.1=0 by intro e;rw[e]at c;simp at c)];rw[I2];split
  .exact Le.fail _
  .rename_i c1
   rw[Ac c1];split
   .dsimp only
    split
    .rename_i c2 c3
     rw[Ac ⟨rfl,by simpa using c2,by simpa using c3⟩];exact Le.refl _
    .exact Le.fail _
   .dsimp only
    split
    .rename_i c2 c3 c4
     rw[Ac ⟨by simpa using c2,by simpa using c3,by simpa using c4⟩];have c2':=AwH c2;subst c2';refine Le.bind (Le.refl _) λk=>?_
     split
     .rename_i d1 d2 d3
      have d3':=AwH d3;rw[Ac ⟨d1,by omega,.inl d2⟩,Ac d2,d2];exact Le.refl _
     .rename_i d1 d2 d3
      have d3':=AwH d3;rw[Ac ⟨d1,by omega,.inr d3'⟩,Ab (by rw[d2];simp),d2];exact Le.refl _
     .rename_i d1 d2 d3
      split
      .rename_i d4
       rw[Ac ⟨d1,by simpa using d4,.inl d2⟩,Ac d2,d2];exact Le.refl _
      .exact Le.fail _
     .exact Le.fail _
    .exact Le.fail _
   .exact Le.fail _
theorem Aj3{t u:TypeId}{e b:Nat}{z:AI}(h:OD P t=V (e,z,b))(hu:N3 P u=U)(s x:AV):Le (appzM z e b s x) (appendA P [t,u] s x):=by
 obtain⟨et,i,zz,h1,h2,h3,h4,h5,h6,rfl,rfl,rfl⟩:=LY h;have hn:Hw P u=Θ:=by
  unfold N3 at hu;unfold Hw;split at hu
  .rename_i e1;rw[e1]
  .cases hu
 unfold appzM appendA;simp only[h1,h2,h4];rw[Ac (show zz.cells.size=i.size/\0<i.size from ⟨h5,h6⟩)];refine Le.bind ?_ λr=>?_
 .unfold newsU UQ newsZ
  rw[hn,hu];dsimp only;obtain⟨_,_,_,hfl⟩:=Ez h3
  cases x.idx with
  |none=>exact Le.fail _
  |some m=>
   dsimp only;split
   .rename_i c1
    rw [Ac ⟨by     have:m<=9223372036854775807:=by simpa using c1
                   omega,hfl⟩]
    exact Le.refl _
   .exact Le.fail _
 unfold appR;split
 .rename_i c
  rw[Ac (show r.1=0 by simpa using c)];exact Le.refl _
 .rename_i c
  rw[Ab (show ¬ r.1=0 by intro e;rw[e]at c;simp at c)];rw[I2];split
  .exact Le.fail _
  .rename_i c1
   rw[Ac c1];split
   .dsimp only
    split
    .rename_i c2 c3
     rw[Ac ⟨rfl,by simpa using c2,by simpa using c3⟩];exact Le.refl _
    .exact Le.fail _
   .dsimp only
    split
    .rename_i c2 c3 c4
     rw[Ac ⟨by simpa using c2,by simpa using c3,by simpa using c4⟩];have c2':=AwH c2;subst c2';refine Le.bind (Le.refl _) λk=>?_
     split
     .rename_i d1 d2 d3
      have d3':=AwH d3;rw[Ac ⟨d1,by omega,.inl d2⟩,Ac d2,d2];exact Le.refl _
     .rename_i d1 d2 d3
      have d3':=AwH d3;rw[Ac ⟨d1,by omega,.inr d3'⟩,Ab (by rw[d2];simp),d2];exact Le.refl _
     .rename_i d1 d2 d3
      split
      .rename_i d4
       rw[Ac ⟨d1,by simpa using d4,.inl d2⟩,Ac d2,d2];exact Le.refl _
      .exact Le.fail _
     .exact Le.fail _
    .exact Le.fail _
   .exact Le.fail _
theorem Aj5{t:TypeId}{e b:Nat}{z:AI}(h:OD P t=V (e,z,b))(l c:AV):Le (mkslM z e b l c) (makeSliceA P t l c):=by
 obtain⟨et,i,zz,h1,h2,h3,h4,h5,h6,rfl,rfl,rfl⟩:=LY h;unfold mkslM makeSliceA;rw[h1];split
 .rename_i n m e1 e2
  rw[e1,e2];dsimp only;rw[h2,h3];dsimp only;split
  .rename_i c1 c2 c3
   rw[Ac ⟨by simpa using c1,by simpa using c2,by simpa using c3,h5,h6⟩];exact Le.refl _
  .exact Le.fail _
 .exact Le.fail _
theorem Aj4{t u et:TypeId}{e:Nat}(h1:Cz P t=V et)(h2:Eg P et=V e)(d x:AV):Le (cpyM e d x) (copyA P [t,u] d x):=by
 unfold cpyM copyA;simp only[h1];split
 .split
  .rename_i c
   have c':=AwH c;subst c';dsimp only;rw[Ac h2];refine Le.bind (UF _ _) λr=>?_
   simp only[I2];split
   .rename_i c1
    rw[Ac c1];refine Le.bind (Le.refl _) λk=>?_
    split
    .rename_i c2 c3
     rw[Ac ⟨c2,by simpa using c3⟩];exact Le.refl _
    .exact Le.fail _
   .exact Le.fail _
  .exact Le.fail _
 .exact Le.fail _
theorem AgA{t et:TypeId}{e:Nat}{z:Value}(h1:Cz P t=V et)(h2:Eg P et=V e)(h3:Dq P et=V z)(h4:z.cells.size=e/\0<e/\(z.cells.toList.map AV.v).all AV.one=U)(x:AV):Le (clrM z.cells.toList e x) (clearA P [t] x):=by
 unfold clrM clearA;simp only[h1]
 cases x with
 |sl b o n e'=>
  simp only[h3];split
  .rename_i c
   have c':=AwH c;subst c';rw[Ac ⟨h2,h4⟩];refine Le.bind (Le.refl _) λk=>?_
   split
   .rename_i c2 c3
    rw[Ac ⟨c2,by simpa using c3⟩];exact Le.refl _
   .exact Le.fail _
  .exact Le.fail _
 |_=>exact Le.fail _
theorem Qt{o:Oper}{c:Call}{b:Builtin}{x:Operand}(ho:o.op=.call c)(hc:c.callee=.builtin b)(ha:c.args.toList=[x]){ρ:Operand->AV}{u z:Value}(hx:ρ x=.v u)
  (h:∀ cs,Az P (builtin b c.argTypes o.type cs #[u])=V (.value z)):C7 P o ρ=V (FI z):=by
 have e1:B9 ρ x=u:=by unfold B9;rw[hx];rfl
 have ha':c.args=#[x]:=by rw[←AyG (xs:=c.args),ha]
 have cc:(Co o.op&&o.op.operands.toList.all λx=>(ρ x).toVal.isSome)=U:=by
  rw[ho];simp[Co,Op.operands,Call.operands,hc,ha',hx,AV.toVal]
 unfold C7;rw[Ac cc];have:Az P (execOp (B9 ρ) o)=V (.value z):=by
  unfold execOp;rw[ho];simp only[resolve,hc,ha',Ay,CI,AwT,invoke];have e3:#[x].map (B9 ρ)=#[u]:=by simp[e1]
  rw[e3];exact h _
 rw[this];rfl
theorem Qu{o:Oper}{c:Call}{b:Builtin}{x y:Operand}(ho:o.op=.call c)(hc:c.callee=.builtin b)(ha:c.args.toList=[x,y]){ρ:Operand->AV}{u v z:Value}(hx:ρ x=.v u)(hy:ρ y=.v v)
  (h:∀ cs,Az P (builtin b c.argTypes o.type cs #[u,v])=V (.value z)):C7 P o ρ=V (FI z):=by
 have e1:B9 ρ x=u:=by unfold B9;rw[hx];rfl
 have e2:B9 ρ y=v:=by unfold B9;rw[hy];rfl
 have ha':c.args=#[x,y]:=by rw[←AyG (xs:=c.args),ha]
 have cc:(Co o.op&&o.op.operands.toList.all λx=>(ρ x).toVal.isSome)=U:=by
  rw[ho];simp[Co,Op.operands,Call.operands,hc,ha',hx,hy,AV.toVal]
 unfold C7;rw[Ac cc];have:Az P (execOp (B9 ρ) o)=V (.value z):=by
  unfold execOp;rw[ho];simp only[resolve,hc,ha',Ay,CI,AwT,invoke];have e3:#[x,y].map (B9 ρ)=#[u,v]:=by simp[e1,e2]
  rw[e3];exact h _
 rw[this];rfl
def Lm(P:Program)(ents:Nat):Prop:=∀ g,ents.testBit g=U->H9 P g=U
theorem Agz{t:TypeId}{zz:Value}(hz:Dq P t=V zz)(T:Ad)(ps:List (Nat × Operand)) :
  (∀{fs:Array Field} {pl:List (Nat × Nat)},C6 P t=V fs->KY P fs.toList=V pl->NO (pl[·]?) zz.cells.toList (Nd T ps)=LQ P t (ps.map λp=>(p.1,AT T p.2))) ∧
  (∀{et:TypeId} {e:Nat},C6 P t=Δ->P6 P t=V et->Eg P et=V e->NO (λi=>V (i*e,e)) zz.cells.toList (Nd T ps)=LQ P t (ps.map λp=>(p.1,AT T p.2))):=by
 refine⟨λh1 h2=>?_,λh1 h2 h3=>?_⟩
 .unfold NO LQ
  rw[h1,Nf];unfold PA;rw[hz,h1];simp only[h2]
 .unfold NO LQ
  rw[h1,Nf];unfold Pz;rw[hz,h2];simp only[h3]
theorem Zl{t et:TypeId}{e:Nat}{zz:Value}(h1:Cz P t=V et)(h2:Eg P et=V e)(h3:Dq P et=V zz)(n:Nat)(T:Ad)(ps:List (Nat × Operand)) :
  buildSlM zz.cells.toList e n (Nd T ps)=buildSliceA P t n (ps.map λp=>(p.1,AT T p.2)):=by
 unfold buildSlM buildSliceA;rw[h1];simp only[h2,h3,Nf];rfl
theorem AgB{o:Oper}{c:Call}{x:Operand}{t:TypeId}{sl:Bool}(ho:o.op=.call c)(hc:c.callee=.builtin .len)(ha:c.args.toList=[x])(ht:c.argTypes.toList=[t])
  (hs:if sl=U then DA P t=U else DA P t=Θ/\B8 P t=U) (ρ:Operand->AV) :
  Le (AM.opt (ApQ Ak sl (ρ x))) (if DA P t=U then(match Aj6 (ρ x) with
     |some r=>AM.ret r
     |none=>AM.opt (C7 P o ρ)) else AM.opt (C7 P o ρ)):=by
 have ht':c.argTypes=#[t]:=by rw[←AyG (xs:=c.argTypes),ht]
 refine Le.ret λr h=>?_
 unfold ApQ at h
 cases sl with
 |true=>
  rw[Ac rfl]at hs;rw[Ac hs];simp only at h;split at h<;>simp only[δ,reduceCtorEq]at h<;>subst h
  .rename_i e;rw[e];rfl
  .rename_i e;rw[e,IX];rfl
  .rename_i e
   have hu:∃ et,P.underlying t=V (.slice et):=by
    unfold DA at hs;split at hs
    .exact⟨_,‹_›⟩
    .cases hs
   obtain⟨et,hu⟩:=hu;have hg:C7 P o ρ=V (FI (.int .i64 0)):=Qt ho hc ha e λcs=>by
    rw[ht'];simp only[builtin,Builtin.len_,Ay];simp[AQ hu,goInt]
   rw[e,hg];rfl
 |false=>
  rw[Ab (by simp)]at hs;rw[Ab (by rw[hs.1];simp)];simp only at h;split at h<;>simp only[δ,reduceCtorEq]at h
  subst h;rename_i s e;have hu:P.underlying t=V .string:=by
   have:=hs.2;unfold B8 at this;split at this
   .assumption
   .cases this
  have hg:C7 P o ρ=V (FI (.int .i64 s.size)):=Qt ho hc ha e λcs=>by
   rw[ht'];simp only[builtin,Builtin.len_,Ay];simp[AQ hu,goInt]
  rw[hg];rfl
theorem Agy{o:Oper}{c:Call}{x y:Operand}{b:Builtin}(ho:o.op=.call c)(hc:c.callee=.builtin b)(ha:c.args.toList=[x,y])(ρ:Operand->AV){f:Int->Int->Int}
  (hb:(b=.max/\f=Ak.max)\/(b=.min/\f=Ak.min)):Le (AM.opt (Ajg f (ρ x) (ρ y))) (AM.opt (C7 P o ρ)):=by
 refine Le.opt λr h=>?_
 unfold Ajg at h;split at h
 .rename_i k a k' d hx hy
  split at h
  .rename_i hk
   subst hk;simp only[δ]at h;subst h;rcases hb with⟨rfl,rfl⟩|⟨rfl,rfl⟩
   .exact Qu (z:=.int k (Ak.max a d)) ho hc ha hx hy λcs=>by
     simp[builtin,Builtin.max_,Builtin.max2,Ak,I6,Ar.max]
   .exact Qu (z:=.int k (Ak.min a d)) ho hc ha hx hy λcs=>by
     simp[builtin,Builtin.min_,Builtin.min2,Ak,I6,Ar.min]
  .cases h
 .cases h
end
section
variable {P:Program} {Γ:FuncId->Ad->AM AV} {ents:Nat}
theorem Agg{x:AV}{i:Nat}(h:x.idx=V i):∃ k,x=.v (.int k (.ofNat i)):=by
 unfold AV.idx at h;split at h
 .simp_all
 .cases h
theorem Ft{k:IntKind}{i n:Nat}(h:i<=n)(c:BoundsCode):Az P (Instr.sliceBound (.int k (.ofNat i)) n c)=V i:=by
 unfold Instr.sliceBound asIntOf;rw[Ay];simp only[CI,AwT];rw[Ac ⟨by simp,by simpa using h⟩];rfl
theorem Vg{o:Oper}{t:TypeId}{x:Operand}{lo hi:Option Operand}(ho:o.op=.slice t x lo hi Δ)(ht:P.underlying t=V .string){ρ:Operand->AV}{r:AV}(h:Nt Ak (ρ x) (lo.map ρ) (hi.map ρ)=V r):C7 P o ρ=V r:=by
 unfold Nt at h;split at h
 .rename_i s es
  split at h
  .rename_i l hh e1 e2
   split at h
   .rename_i c1 c2
    simp only[δ]at h;subst h;have c1:l<=hh:=by simpa using c1
    have c2:hh<=s.size:=by
     have:Aww hh s.size=U:=c2;simpa using this
    have hlo:(lo=Δ/\l=0)\/∃ y k,lo=V y/\ρ y=.v (.int k (.ofNat l)):=by
     cases lo with
     |none=>simp only[AyL,Pm,δ]at e1;exact .inl ⟨rfl,e1.symm⟩
     |some y=>
      simp only[AwE,Pm]at e1;obtain⟨k,hk⟩  :=Agg e1;exact .inr ⟨y,k,rfl,hk⟩
    have hhi:(hi=Δ/\hh=s.size)\/∃ y k,hi=V y/\ρ y=.v (.int k (.ofNat hh)):=by
     cases hi with
     |none=>
      simp only[AyL,Pm,δ]at e2;exact .inl ⟨rfl,e2.symm⟩
     |some y=>
      simp only[AwE,Pm]at e2;obtain⟨k,hk⟩  :=Agg e2;exact .inr ⟨y,k,rfl,hk⟩
    have hb:Az P (Instr.sliceBounds Θ s.size s.size (lo.map (B9 ρ)) (hi.map (B9 ρ)) Δ)=V (l,hh,s.size):=by
     rcases hlo with⟨rfl,rfl⟩|⟨y,k,rfl,hy⟩<;>rcases hhi with⟨rfl,rfl⟩|⟨z,k',rfl,hz⟩
     .rfl
     .simp only[AyL,AwE,Hj hz,Instr.sliceBounds,Ay,CI,AwT,Ft c2]
     .simp only[AyL,AwE,Hj hy,Instr.sliceBounds,Ay,CI,AwT,Ft c1]
     .simp only[AwE,Hj hy,Hj hz,Instr.sliceBounds,Ay,CI,AwT,Ft c1,Ft c2]
    refine NW (z:=.string (s.extract l hh)) (by rw[ho];rfl) ?_ ?_
    .rw[ho]
     rcases hlo with⟨rfl,_⟩|⟨y,k,rfl,hy⟩<;>rcases hhi with⟨rfl,_⟩|⟨z,k',rfl,hz⟩<;>simp_all [Op.operands,AV.toVal]
    .unfold execOp
     rw[ho]
     show Az P (Instr.sliceAt t (B9 ρ x) (lo.map (B9 ρ)) (hi.map (B9 ρ)) Δ >>= λy=>pure (Next.value y))=_
     rw[Ay,Hj es];have:Az P (Instr.sliceAt t (.string s) (lo.map (B9 ρ)) (hi.map (B9 ρ)) Δ)=V (.string (s.extract l hh)):=by
      unfold Instr.sliceAt;rw[Ay,AQ ht];simp only[AwT];unfold Instr.slice;rw[Ay,AQ ht];simp only[AwT,Option.isSome_none,Awx,if_false];rw[Ay,hb];rfl
     rw[this];rfl
   .cases h
  .cases h
 .cases h
theorem ZX{o:Oper}{t:TypeId}{x i:Operand}(ho:o.op=.index t x i)(ht:P.underlying t=V .string){ρ:Operand->AV}{r:AV}(h:XG Ak (ρ x) (ρ i)=V r):C7 P o ρ=V r:=by
 unfold XG at h;split at h
 .rename_i s j es ei
  split at h
  .rename_i c1
   simp only[δ]at h;subst h;obtain⟨k,hk⟩  :=Agg ei;have c1:j<s.size:=by
    have:Axu j s.size=U:=c1;have:j+1<=s.size:=by simpa[Axu]using this
    omega
   have e1:s[j]? = V (s[j]'c1):=by simp[c1]
   refine NW (z:=.int .u8 (s[j]'c1).toNat) (by rw[ho];rfl) (by rw[ho];simp[Op.operands,es,hk,AV.toVal]) ?_ |>.trans ?_
   .unfold execOp
    rw[ho]
    show Az P (Instr.index t (B9 ρ x) (B9 ρ i) >>= λy=>pure (Next.value y))=_
    rw[Ay,Hj es,Hj hk];have:Az P (Instr.index t (.string s) (.int k (.ofNat j)))=V (.int .u8 (s[j]'c1).toNat):=by
     unfold Instr.index asIntOf;rw[Ay];simp only[CI,AwT];rw[Ay,AQ ht];simp only[AwT];have:(if 0<=(Ax5 j) then s[(Ax5 j).toNat]? else Δ)=V (s[j]'c1):=by
      grind
     rw[this];rfl
    rw[this];rfl
   .have:Ak.sat s j=Ax5 (s[j]'c1).toNat:=by
     show (match s[j]? with
      |some c=>Ax5 c.toNat
      |none=>0)=_
     rw[e1]
    rw[this];rfl
  .cases h
 .cases h
theorem YC{o:Oper}{s d:TypeId}{x:Operand}(ho:o.op=.convert s d x){k k0:IntKind}(hs:P.underlying s=V (.int k0))(hd:P.underlying d=V (.int k)){ρ:Operand->AV}{r:AV}(h:AeT Ak k (ρ x)=V r):C7 P o ρ=V r:=by
 unfold AeT at h;split at h
 .rename_i k1 n e
  simp only[δ]at h;subst h;refine NW (z:=.int k (k.wrap n)) (by rw[ho];rfl) (by rw[ho];simp[Op.operands,e,AV.toVal]) ?_;unfold execOp;rw[ho]
  show Az P (convert s d (B9 ρ x) >>= λy=>pure (Next.value y))=_
  rw[Ay,Hj e];have:Az P (convert s d (.int k1 n))=V (.int k (k.wrap n)):=by
   unfold convert;rw[Ay,AQ hs];simp only[AwT];rw[Ay,AQ hd];rfl
  rw[this];rfl
 .cases h
theorem Akr(hE:Lm P ents)(o:Oper)(T:Ad):Le (mop Ak Γ (Yz P ents o.op) T) (aop P Γ o (AT T)):=by
 unfold aop
 cases ho:o.op<;>simp only[Yz]
 case move x=>exact Le.refl _
 case assign x=>exact Le.refl _
 case pick c a b=>
  simp only[mop];split
  .grind [Le.refl]
  .exact Le.fail _
 case alloc t=>
  unfold allocA
  cases e:Dq P t with
  |none=>exact Le.fail _
  |some z=>exact Le.refl _
 case box t x=>exact Le.refl _
 case build t ps=>
  cases e:Dq P t with
  |none=>exact Le.fail _
  |some z=>
   obtain⟨k1,k2⟩:=Agz e T ps.toList
   cases e1:C6 P t with
   |some fs=>
    simp only
    cases e2:KY P fs.toList with
    |none=>exact Le.fail _
    |some pl=>
     simp only[mop];rw[k1 e1 e2];exact Le.refl _
   |none=>
    simp only
    cases e2:P6 P t with
    |none=>exact Le.fail _
    |some et=>
     simp only
     cases e3:Eg P et with
     |none=>exact Le.fail _
     |some s=>
      simp only[mop];rw[k2 e1 e2 e3];exact Le.refl _
 case buildSlice t n ps=>
  cases e:Cz P t with
  |none=>exact Le.fail _
  |some et=>
   simp only
   cases e2:Eg P et with
   |none=>exact Le.fail _
   |some s=>
    cases e3:Dq P et with
    |none=>exact Le.fail _
    |some z=>
     simp only[mop];rw[Zl e e2 e3];exact Le.refl _
 case load t a=>
  cases e:Cs P t with
  |none=>exact Le.fail _
  |some b=>
   cases b with
   |true=>
    cases e2:Eg P t with
    |none=>exact Le.fail _
    |some n=>exact PI e (λ_=>e2) _
   |false=>exact PI (n:=0) e (λh=>by cases h) _
 case store t a x=>
  cases e:Eg P t with
  |none=>exact Le.fail _
  |some n=>exact AgC e _ _
 case nilCheck x=>
  simp only[mop];split<;>first
   |exact Le.fail _
   |(rename_i e;rw[e];exact Le.refl _)
 case binOp b t x y yt=>
  split
  .rename_i ks hk
   split
   .exact Le.ret λr h=>Sx ho hk (neg:=Θ) rfl h
   .exact Le.ret λr h=>Sx ho hk (neg:=U) rfl h
   .exact Le.fail _
  .split
   .exact Le.fail _
   .rename_i k hk
    exact Le.ret λr h=>Aco ho h
 case unOp u t x=>
  cases u<;>simp only<;>try exact Le.fail _
  case not=>
   exact Le.opt λr h=>by
    unfold AsN at h;split at h
    .rename_i c e
     simp only[δ]at h;subst h;rw[AfU ho e];rfl
    .cases h
  case neg=>
   exact Le.opt λr h=>by
    unfold AsM at h;split at h
    .grind [δ,AfT]
    .cases h
 case makeFunc f a c=>
  simp only[mop,KX];exact Le.refl _
 case slice t x lo hi mx=>
  cases mx with
  |some m=>exact Le.fail _
  |none=>
   simp only
   cases e:Cz P t with
   |none=>
    simp only;split
    .rename_i hst
     refine Le.ret λr h=>?_
     have ht:P.underlying t=V .string:=by
      grind [B8]
     have hn:Mq P t (AT T x) (lo.map (AT T)) (hi.map (AT T))=Δ:=by
      unfold Mq;rw[e];split<;>rename_i q<;>first|cases q|rfl
     rw[hn];simp only;rw[Vg ho ht h];rfl
    .exact Le.fail _
   |some et=>
    simp only
    cases e2:Eg P et with
    |none=>exact Le.fail _
    |some s=>
     refine Le.ret λr h=>?_
     rw[Aim e e2 h]
 case fieldAddr t a f=>
  cases e:C6 P t with
  |none=>exact Le.fail _
  |some fs=>
   simp only
   cases e2:fs[f]? with
   |none=>exact Le.fail _
   |some fd=>
    simp only;split
    .rename_i n e3
     refine Le.opt λr h=>?_
     unfold IS;rw[e];simp only[e2,e3];exact h
    .exact Le.fail _
 case field t x f=>
  cases e:C6 P t with
  |none=>exact Le.fail _
  |some fs=>
   simp only
   cases e2:fs[f]? with
   |none=>exact Le.fail _
   |some fd=>
    simp only;have key:∀{row:Bool} {n:Nat},Cs P fd.type=V row->(row=U->Eg P fd.type=V n)->Le (AM.opt (YU row fd.offset n (AT T x))) (AM.opt (Qn P t (AT T x) f)):=λh1 h2=>by
     refine Le.opt λr h=>?_
     unfold YU at h;unfold Qn;rw[e];split at h
     .grind [Abq]
     .cases h
    cases e3:Cs P fd.type with
    |none=>exact Le.fail _
    |some b=>
     cases b with
     |true=>
      cases e4:Eg P fd.type with
      |none=>exact Le.fail _
      |some n=>exact key e3 λ_=>e4
     |false=>exact key e3 λh=>by cases h
 case indexAddr t x i=>
  cases e:Cz P t with
  |some et=>
   simp only
   cases e2:Eg P et with
   |none=>exact Le.fail _
   |some s=>
    refine Le.ret λr h=>?_
    rw[Agf e e2 h]
  |none=>
   have e0:Er P t (AT T x) (AT T i)=Δ:=by
    unfold Er;rw[e];split<;>first|rfl|simp_all
   cases e1:RW P t with
   |none=>exact Le.fail _
   |some ne=>
    obtain⟨n,et⟩:=ne;simp only
    cases e2:Eg P et with
    |none=>exact Le.fail _
    |some s=>
     simp only[mop];rw[e0];refine Le.opt λr h=>?_
     unfold TW at h;unfold MA;rw[e1];split at h
     .rename_i j ej
      rw[ej];simp only[e2];split at h
      .simp_all
      .cases h
     .cases h
 case index t x i=>
  cases e1:RW P t with
  |none=>
   simp only;split
   .rename_i hst
    refine Le.ret λr h=>?_
    have ht:P.underlying t=V .string:=by
     grind [B8]
    have hn:JO P t (AT T x) (AT T i)=Δ:=by
     unfold JO;rw[e1];split
     .rename_i q _
      cases q
     .rfl
    rw[hn];simp only;rw[ZX ho ht h];rfl
   .exact Le.fail _
  |some ne=>
   obtain⟨n,et⟩:=ne
   show Le (mop Ak Γ (match Eg P et,Cs P et with
    |some e,V U=>MO.index n e U e x i
    |some e,V Θ=>MO.index n e Θ 0 x i
    |_,_=>MO.bad) T) _
   have key:∀{row:Bool} {s m:Nat},Cs P et=V row->Eg P et=V s->(row=U->m=s)->Le (AM.opt (QE n s row m (AT T x) (AT T i))) (match JO P t (AT T x) (AT T i) with
     |some r=>AM.ret r
     |none=>AM.opt (C7 P o (AT T))):=λ{row s m} h1 h2 h3=>by
    refine Le.ret λr h=>?_
    have:JO P t (AT T x) (AT T i)=V r:=by
     unfold QE at h;unfold JO;rw[e1];split at h
     .rename_i cs j ej1 ej2
      simp only[ej1,ej2,h2];split at h
      .rename_i hlt
       have:j+1<=n:=by simpa[Axu]using hlt
       rw[Ac (by omega),←Abq (n:=m) h1 (λhr=>by rw[h3 hr];exact h2)];exact h
      .cases h
     .cases h
    rw[this]
   cases e2:Eg P et with
   |none=>exact Le.fail _
   |some s=>
    cases e3:Cs P et with
    |none=>exact Le.fail _
    |some b=>
     cases b with
     |true=>exact key e3 e2 λ_=>rfl
     |false=>exact key e3 e2 λh=>by cases h
 case extract x i=>exact Le.refl _
 case makeSlice t l c=>
  cases e:OD P t with
  |none=>exact Le.fail _
  |some ezb=>
   obtain⟨s,z,b⟩:=ezb;exact Aj5 e _ _
 case call c=>
  cases hc:c.callee with
  |invoke=>exact Le.fail _
  |value f=>
   simp only
   cases f with
   |func g=>
    simp only;split
    .simp_all [mop,AT,Le.refl,List.append_nil,List.nil_append,Ac,KX]
    .exact Le.fail _
   |tmp t=>
    simp only[mop,KX];split
    .rename_i g a cs e
     rw[e];simp only;split
     .rename_i hb
      rw[Ac (hE g hb)];exact Le.refl _
     .exact Le.fail _
    .exact Le.fail _
   |const v=>
    simp only[mop,KX];split
    .rename_i g a cs e
     rw[e];simp only;split
     .rename_i hb
      rw[Ac (hE g hb)];exact Le.refl _
     .exact Le.fail _
    .exact Le.fail _
   |global v=>
    simp only[mop,KX];split
    .rename_i g a cs e
     rw[e];simp only;split
     .rename_i hb
      rw[Ac (hE g hb)];exact Le.refl _
     .exact Le.fail _
    .exact Le.fail _
  |builtin b=>
   cases b<;>simp only<;>try exact Le.fail _
   .-- append
    split
    .rename_i s x t u ea et
     rw[ea];simp only[et];split
     .rename_i e b' h1 h2
      exact AcP h1 h2 _ _
     .rename_i e z b' h1 h2
      split
      .rename_i h3
       exact Aj3 h1 h3 _ _
      .exact Le.fail _
     .exact Le.fail _
    .exact Le.fail _
   .-- clear
    split
    .rename_i x t ea et
     rw[ea];simp only[et];split
     .rename_i ett h1
      split
      .rename_i e z h2 h3
       split
       .rename_i h4
        exact AgA h1 h2 h3 h4 _
       .exact Le.fail _
      .exact Le.fail _
     .exact Le.fail _
    .exact Le.fail _
   .-- copy
    split
    .rename_i s x t u ea et
     rw[ea];simp only[et];split
     .rename_i ett h1 h2
      cases e2:Eg P ett with
      |none=>exact Le.fail _
      |some s=>exact Aj4 h1 e2 _ _
     .exact Le.fail _
    .exact Le.fail _
   .-- len
    split
    .rename_i x t ea et
     rw[ea,et];split
     .rename_i h1
      exact AgB ho hc ea et (by rw[Ac rfl];exact h1) _
     .rename_i h1
      split
      .rename_i h2
       exact AgB ho hc ea et (by rw[Ab (by simp)];exact⟨by simpa using h1,h2⟩) _
      .exact Le.fail _
    .exact Le.fail _
   .split
    .rename_i x y ea
     exact Agy ho hc ea _ (.inl ⟨rfl,rfl⟩)
    .exact Le.fail _
   .split
    .rename_i x y ea
     exact Agy ho hc ea _ (.inr ⟨rfl,rfl⟩)
    .exact Le.fail _
 case convert s d x=>
  split
  .rename_i k0 k hs hd
   have b1:Ej P s=Θ:=by
    unfold Ej Cz;rw[hs]
   have b2:B8 P s=Θ:=by
    unfold B8;rw[hs]
   rw[Ab (by rw[b1];simp),b2,Bool.false_and];refine Le.ret λr h=>?_
   have:=YC ho hs hd h;simp only;rw[this];rfl
  .cases b1:Ej P s with
   |false=>exact Le.fail _
   |true=>
    cases b2:B8 P d with
    |false=>exact Le.fail _
    |true=>
     simp only[mop,strM]
     cases b3:R3 (AT T x) with
     |false=>exact Le.fail _
     |true=>
      rw[Ac (by first|exact⟨trivial,trivial,rfl⟩|exact⟨trivial,trivial,b3⟩|simp_all)];exact Le.bind (UF _ _) λ_=>Le.refl _
 all_goals exact Le.fail _
end
section
variable {A:Ar}
theorem Loc.loadM(row:Bool)(n:Nat)(a:AV):Loc (loadM row n a):=by
 unfold Go.Proofs.YtlmhajfbpplpoaaGreat.loadM
 cases row
 .grind [Loc.bind,Loc.opt,Loc.rdAt]
 .grind [Loc.bind,Loc.rdAt,Loc.ret]
theorem Loc.storeM(n:Nat)(a x:AV):Loc (storeM n a x):=by
 unfold Go.Proofs.YtlmhajfbpplpoaaGreat.storeM;split
 .exact Loc.ite (Loc.bind (Loc.getB _) λk=>Loc.ite (Loc.bind (Loc.setB _ _) λ_=>Loc.ret _) Loc.fail) Loc.fail
 .exact Loc.fail
theorem Loc.buildSlM(z:AI)(e n:Nat)(ps:List (Nat × AV)):Loc (buildSlM z e n ps):=by
 grind [Go.Proofs.YtlmhajfbpplpoaaGreat.buildSlM,Loc.bind,Loc.fail,Loc.newB,Loc.ret]
theorem Loc.newsM(e:Nat)(x:AV):Loc (newsM e x):=by
 unfold Go.Proofs.YtlmhajfbpplpoaaGreat.newsM;split
 .grind [Loc.bind,Loc.fail,Loc.getB,Loc.ret]
 .grind [Loc.fail,Loc.ret]
 .exact Loc.ret _
 .exact Loc.fail
theorem Loc.appR(e b:Nat)(s:AV)(r:Nat × Ad):Loc (appR e b s r):=by
 unfold Go.Proofs.YtlmhajfbpplpoaaGreat.appR
 repeat' split
 all_goals first
  |exact Loc.fail
  |exact Loc.ret _
  |exact Loc.bind (Loc.newB _) λ_=>Loc.ret _
  |refine Loc.bind (Loc.getB _) λk=>?_
 repeat' split
 all_goals first
  |exact Loc.fail
  |exact Loc.bind (Loc.delB _) λ_=>Loc.bind (Loc.newB _) λ_=>Loc.ret _
  |exact Loc.bind (Loc.setB _ _) λ_=>Loc.bind (Loc.newB _) λ_=>Loc.ret _
theorem Loc.appM(e b:Nat)(s x:AV):Loc (appM e b s x):=Loc.bind (Loc.newsM _ _) λr=>Loc.appR _ _ _ _
theorem Loc.appzM(z:AI)(e b:Nat)(s x:AV):Loc (appzM z e b s x):=by
 refine Loc.bind ?_ λr=>Loc.appR _ _ _ _
 unfold UQ
 repeat' split
 all_goals first
  |exact Loc.fail
  |exact Loc.ret _
theorem Loc.mkslM(z:AI)(e b:Nat)(l c:AV):Loc (mkslM z e b l c):=by
 grind [Go.Proofs.YtlmhajfbpplpoaaGreat.mkslM,Loc.bind,Loc.fail,Loc.newB,Loc.ret]
theorem Loc.cpyM(e:Nat)(d x:AV):Loc (cpyM e d x):=by
 unfold Go.Proofs.YtlmhajfbpplpoaaGreat.cpyM;split
 .grind [Loc.bind,Loc.fail,Loc.getB,Loc.newsM,Loc.ret,Loc.setB]
 .exact Loc.fail
theorem Loc.clrM(z:AI)(e:Nat)(x:AV):Loc (clrM z e x):=by
 unfold Go.Proofs.YtlmhajfbpplpoaaGreat.clrM;split
 .grind [Loc.bind,Loc.fail,Loc.getB,Loc.ret,Loc.setB]
 .exact Loc.fail
theorem Loc.strM(x:AV):Loc (strM x):=by
 grind [Go.Proofs.YtlmhajfbpplpoaaGreat.strM,Loc.bind,Loc.fail,Loc.newsM,Loc.opt]
theorem Loc.mop{Γ:FuncId->Ad->AM AV}(hΓ:∀ f args,Loc (Γ f args))(o:MO)(T:Ad):Loc (mop A Γ o T):=by
 unfold Go.Proofs.YtlmhajfbpplpoaaGreat.mop
 repeat' split
 all_goals first
  |exact Loc.fail
  |exact Loc.ret _
  |exact Loc.opt _
  |exact Loc.boxA _
  |exact Loc.bind (Loc.newB _) λ_=>Loc.ret _
  |exact Loc.buildSlM _ _ _ _
  |exact Loc.loadM _ _ _
  |exact Loc.storeM _ _ _
  |exact Loc.mkslM _ _ _ _ _
  |exact Loc.appM _ _ _ _
  |exact Loc.appzM _ _ _ _ _
  |exact Loc.cpyM _ _ _
  |exact Loc.clrM _ _ _
  |exact Loc.strM _
  |exact hΓ _ _
theorem Loc.coreM{Γ:FuncId->Ad->AM AV}(hΓ:∀ f args,Loc (Γ f args))(o:MOp)(T:Ad):Loc (coreM A Γ o T):=by
 grind [Go.Proofs.YtlmhajfbpplpoaaGreat.coreM,Loc.fail,Loc.mop,Loc.ret]
def chainM(A:Ar)(Γ:FuncId->Ad->AM AV)(l:List MOp)(T:Ad):AM (Ad × List Foot):=λH=>match runM A Γ l T H with
 |some (T',H',fs)=>V ((T',fs),H',⟨fs.flatMap (·.rd),fs.flatMap (·.wr)⟩)
 |none=>Δ
theorem VI(Γ:FuncId->Ad->AM AV)(o:MOp)(r:List MOp)(T:Ad) :
  chainM A Γ (o::r) T=(logged (coreM A Γ o T)).bind λvf=>(chainM A Γ r (CH T o.dst vf.1)).bind λq=>AM.ret (q.1,vf.2::q.2):=by
 funext H
 simp only[chainM,runM,AM.bind,logged,AM.ret];rcases Go.Proofs.YtlmhajfbpplpoaaGreat.coreM A Γ o T H with _|⟨v,H1,f⟩
 .rfl
 simp only;rcases runM A Γ r (CH T o.dst v) H1 with _|⟨T2,H2,fs⟩
 .rfl
 .simp
theorem Loc.chainM{Γ:FuncId->Ad->AM AV}(hΓ:∀ f args,Loc (Γ f args)):∀(l:List MOp) (T:Ad),Loc (chainM A Γ l T)
 |[],T=>by
  have:Go.Proofs.YtlmhajfbpplpoaaGreat.chainM A Γ [] T=AM.ret (T,[]):=by funext H;simp[Go.Proofs.YtlmhajfbpplpoaaGreat.chainM,runM,AM.ret]
  rw[this];exact Loc.ret _
 |o::r,T=>by
  rw[VI];exact Loc.bind (Loc.logged (Loc.coreM hΓ o T)) λ_=>Loc.bind (Loc.chainM hΓ r _) λ_=>Loc.ret _
theorem AkM(Γ:FuncId->Ad->AM AV)(ops:List MOp)(bf:Option (Aj))(T:Ad) :
  regM A Γ ops bf T=(chainM A Γ ops T).bind λr=>match bf with
   |none=>AM.ret (.normal,r.1)
   |some bf=>(match FV bf r.2 with
    |true=>AM.ret (.normal,r.1)
    |false=>AM.fail):=by
 funext H
 unfold Go.Proofs.YtlmhajfbpplpoaaGreat.regM Go.Proofs.YtlmhajfbpplpoaaGreat.chainM AM.bind
 cases e0:runM A Γ ops T H with
 |none=>simp[e0]
 |some r=>
  obtain⟨T',H',fs⟩:=r
  cases bf with
  |none=>simp[AM.ret,e0]
  |some bf=>cases e:FV bf fs<;>simp[AM.ret,AM.fail,e,e0]
theorem Loc.regM{Γ:FuncId->Ad->AM AV}(hΓ:∀ f args,Loc (Γ f args))(ops:List MOp)(bf:Option (Aj))(T:Ad):Loc (regM A Γ ops bf T):=by
 grind [Loc.bind,Loc.chainM,Loc.fail,Loc.ret,AkM]
theorem Loc.adoptB1(b i e:Nat):Loc (adoptB1 b i e):=by
 grind [Go.Proofs.YtlmhajfbpplpoaaGreat.adoptB1,Loc.bind,Loc.fail,Loc.getB,Loc.newB,Loc.ret,Loc.setB]
theorem Loc.nilB(b i:Nat):Loc (nilB b i):=by
 grind [Go.Proofs.YtlmhajfbpplpoaaGreat.nilB,Loc.bind,Loc.getB,Loc.ret,Loc.setB]
theorem Loc.adoptB(b i e:Nat):Loc (adoptB b i e):=by
 grind [Go.Proofs.YtlmhajfbpplpoaaGreat.adoptB,Loc.adoptB1,Loc.nilB]
theorem Loc.adoptM:∀(l:List (Nat × Nat)) (T:Ad),Loc (adoptM l T)
 |[],T=>Loc.ret _
 |(t,e)::r,T=>by
  unfold Go.Proofs.YtlmhajfbpplpoaaGreat.adoptM;split
  .exact Loc.bind (Loc.newB _) λb=>Loc.adoptM r _
  .split
   .exact Loc.bind (Loc.adoptB _ _ _) λ_=>Loc.adoptM r T
   .exact Loc.adoptM r T
theorem Loc.frz0(x:AV):Loc (frz0 x):=by
 unfold Go.Proofs.YtlmhajfbpplpoaaGreat.frz0;split<;>first
  |exact Loc.ret _
  |exact Loc.fail
mutual
theorem Loc.frz:∀(n:Nat) (x:AV),Loc (frz n x)
 |0,x=>by
  unfold Go.Proofs.YtlmhajfbpplpoaaGreat.frz;exact Loc.frz0 x
 |n+1,x=>by
  unfold Go.Proofs.YtlmhajfbpplpoaaGreat.frz;split
  .exact Loc.ret _
  .refine Loc.bind (Loc.getB _) λk=>?_
   split
   .exact Loc.fail
   .refine Loc.bind ?_ λ_=>?_
    .split
     .exact Loc.setB _ _
     .exact Loc.ret _
    .split
     .exact Loc.ret _
     .refine Loc.bind (Loc.frzL n _) λcs=>?_
      split
      .exact Loc.ret _
      .exact Loc.fail
  .exact Loc.bind (Loc.frzL n _) λ_=>Loc.ret _
  .exact Loc.bind (Loc.frzL n _) λ_=>Loc.ret _
  .exact Loc.ret _
theorem Loc.frzL:∀(n:Nat) (l:Ad),Loc (frzL n l)
 |n,[]=>by
  unfold Go.Proofs.YtlmhajfbpplpoaaGreat.frzL;exact Loc.ret _
 |0,_::_=>by
  unfold Go.Proofs.YtlmhajfbpplpoaaGreat.frzL;exact Loc.fail
 |n+1,x::r=>by
  unfold Go.Proofs.YtlmhajfbpplpoaaGreat.frzL;exact Loc.bind (Loc.frz n x) λ_=>Loc.bind (Loc.frzL n r) λ_=>Loc.ret _
end
theorem Loc.frzB(b:Nat):Loc (frzB b):=by
 grind [Go.Proofs.YtlmhajfbpplpoaaGreat.frzB,Loc.bind,Loc.fail,Loc.frzL,Loc.getB,Loc.ret,Loc.setB]
theorem Loc.frzT:∀(l:Aj) (T:Ad),Loc (frzT l T)
 |[],T=>Loc.ret _
 |t::r,T=>by
  unfold Go.Proofs.YtlmhajfbpplpoaaGreat.frzT;split
  .exact Loc.bind (Loc.frzB _) λ_=>Loc.frzT r T
  .exact Loc.bind (Loc.frz _ _) λ_=>Loc.frzT r _
  .exact Loc.frzT r T
theorem Loc.evC{Γ:FuncId->Ad->AM AV}{Λ:Nat->Ad->AM (AX × Ad)}(hΓ:∀ f args,Loc (Γ f args))(hΛ:∀ i T,Loc (Λ i T)):∀(c:MC) (T:Ad),Loc (evC A Γ Λ c T)
 |.skip,T=>Loc.ret _
 |.reg ops bf,T=>Loc.regM hΓ _ _ _
 |.seq a b,T=>by
  unfold Go.Proofs.YtlmhajfbpplpoaaGreat.evC;refine Loc.bind (Loc.evC hΓ hΛ a T) λr=>?_
  split
  .exact Loc.evC hΓ hΛ b _
  .exact Loc.ret _
 |.cond c a b,T=>by
  unfold Go.Proofs.YtlmhajfbpplpoaaGreat.evC;split
  .split
   .exact Loc.evC hΓ hΛ a T
   .exact Loc.evC hΓ hΛ b T
  .exact Loc.fail
 |.block id c,T=>by
  unfold Go.Proofs.YtlmhajfbpplpoaaGreat.evC;refine Loc.bind (Loc.evC hΓ hΛ c T) λr=>?_
  split
  .simp_all [Loc.ite,Loc.ret]
  .exact Loc.ret _
 |.loop i h,T=>by
  grind [Go.Proofs.YtlmhajfbpplpoaaGreat.evC,Loc.adoptM,Loc.bind,Loc.fail,Loc.frzT,Loc.ret]
 |.exit id,T=>Loc.ret _
 |.ret,T=>Loc.ret _
 |.bad,_=>Loc.fail
theorem Loc.delC(b i:Nat):Loc (delC b i):=by
 grind [Go.Proofs.YtlmhajfbpplpoaaGreat.delC,Loc.bind,Loc.delB,Loc.getB,Loc.ret]
theorem Loc.delT:∀(l:Aj) (T:Ad),Loc (delT l T)
 |[],T=>Loc.ret _
 |t::r,T=>by
  unfold Go.Proofs.YtlmhajfbpplpoaaGreat.delT;split
  .exact Loc.bind (Loc.delB _) λ_=>Loc.delT r T
  .exact Loc.bind (Loc.delB _) λ_=>Loc.delT r T
  .split
   .exact Loc.bind (Loc.delC _ _) λ_=>Loc.delT r T
   .exact Loc.delT r T
theorem Loc.touchS(x:AV):Loc (touchS x):=by
 unfold Go.Proofs.YtlmhajfbpplpoaaGreat.touchS;split
 .grind [Loc.bind,Loc.delB,Loc.getB,Loc.newB,Loc.ret]
 .exact Loc.ret _
theorem Loc.touchL:∀ l:Ad,Loc (touchL l)
 |[]=>Loc.ret _
 |x::r=>by
  unfold Go.Proofs.YtlmhajfbpplpoaaGreat.touchL;exact Loc.bind (Loc.touchS x) λ_=>Loc.bind (Loc.touchL r) λ_=>Loc.ret _
theorem Loc.touchB(b:Nat):Loc (touchB b):=by
 grind [Go.Proofs.YtlmhajfbpplpoaaGreat.touchB,Loc.bind,Loc.fail,Loc.getB,Loc.ret,Loc.setB,Loc.touchL]
theorem Loc.touchI:∀ l:Aj,Loc (touchI l)
 |[]=>Loc.ret _
 |b::r=>by
  unfold Go.Proofs.YtlmhajfbpplpoaaGreat.touchI;exact Loc.bind (Loc.touchB b) λ_=>Loc.touchI r
theorem Loc.touchV(x:AV):Loc (touchV x):=by
 unfold Go.Proofs.YtlmhajfbpplpoaaGreat.touchV;split
 .exact Loc.touchS _
 .grind [Loc.bind,Loc.ret,Loc.touchI,Loc.touchL]
 .grind [Loc.bind,Loc.ret,Loc.touchI]
theorem Loc.touchA:∀(m:List Bool) (l:Ad),Loc (touchA m l)
 |m,[]=>by cases m with
  |nil=>exact Loc.ret _
  |cons b m=>cases b<;>exact Loc.ret _
 |true::m,x::r=>by
  unfold Go.Proofs.YtlmhajfbpplpoaaGreat.touchA;exact Loc.bind (Loc.touchI _) λ_=>Loc.bind (Loc.touchA m r) λ_=>Loc.ret _
 |false::m,x::r=>by
  unfold Go.Proofs.YtlmhajfbpplpoaaGreat.touchA;exact Loc.bind (Loc.touchV x) λ_=>Loc.bind (Loc.touchA m r) λ_=>Loc.ret _
 |[],x::r=>by
  unfold Go.Proofs.YtlmhajfbpplpoaaGreat.touchA;exact Loc.bind (Loc.touchV x) λ_=>Loc.bind (Loc.touchA [] r) λ_=>Loc.ret _
end
def Gh(μ:Mu)(F:AP)(w:World)(H H':AH)(Q:Mu->AP->Prop):Prop:=
 ∃ μ' F',Later μ μ' F F' w w/\HRep μ' F' w H'.get/\(∀ b,(b<H.next\/H'.next<=b)->μ' b=μ b)/\Q μ' F'
section
variable {μ:Mu} {F:AP} {w:World} {H H1 H2:AH}
theorem Gh.same{Q:Mu->AP->Prop}(hH:HRep μ F w H.get)(h:Q μ F):Gh μ F w H H Q:=⟨μ,F,Later.refl _ _ _,hH,λ_ _=>rfl,h⟩
theorem Gh.trans{Q:Mu->AP->Prop}(hn1:H.next<=H1.next)(hn2:H1.next<=H2.next){Q1:Mu->AP->Prop}(h:Gh μ F w H H1 Q1)(k:∀ μ' F',Later μ μ' F F' w w->HRep μ' F' w H1.get->(∀ b,(b<H.next\/H1.next<=b)->μ' b=μ b)->Q1 μ' F'->Gh μ' F' w H1 H2 Q):Gh μ F w H H2 Q:=by
 obtain⟨μ1,F1,h1,h2,h3,h4⟩:=h;obtain⟨μ2,F2,k1,k2,k3,k4⟩:=k μ1 F1 h1 h2 h3 h4;refine⟨μ2,F2,h1.trans k1,k2,λb hb=>?_,k4⟩;rw[k3 b (by omega),h3 b (by omega)]
theorem Gh.mono{Q Q':Mu->AP->Prop}(h:Gh μ F w H H1 Q)(k:∀ μ' F',Later μ μ' F F' w w->Q μ' F'->Q' μ' F'):Gh μ F w H H1 Q':=by
 obtain⟨μ1,F1,h1,h2,h3,h4⟩:=h;exact⟨μ1,F1,h1,h2,h3,k _ _ h1 h4⟩
theorem So:∀(n e:Nat) (l:Ad) (i:Nat),(By n e l)[i]? = if i<n then V ((l.drop (i*e)).take e) else Δ
 |0,e,l,i=>by simp[By]
 |n+1,e,l,0=>by simp[By]
 |n+1,e,l,i+1=>by
  simp only[By,List.getElem?_cons_succ,So n e (l.drop e) i,List.drop_drop,Nat.add_lt_add_iff_right];rw[show e+i*e=(i+1)*e by rw[Nat.add_mul];omega]
theorem IP:∀(n e:Nat) (l:Ad),(By n e l).length=n
 |0,e,l=>rfl
 |n+1,e,l=>by simp[By,IP n]
theorem Q2{l:Ad}(h:A4 l=U)(n:Nat):A4 (l.take n)=U:=by
 grind [List.mem_of_mem_take,BN]
theorem Q0{l:Ad}(h:A4 l=U)(n:Nat):A4 (l.drop n)=U:=by
 grind [List.mem_of_mem_drop,BN]
theorem OU:∀(n e:Nat) {l:Ad},A4 l=U->J1 (By n e l)=U
 |0,e,l,h=>rfl
 |n+1,e,l,h=>by
  have:=OU n e (Q0 h e);unfold J1 at this ⊢;simp[By,Q2 h,this]
theorem Adw{g q m e c:Nat}{cs:Ad}(hn:A4 cs=U)(hl:cs.length=m*e)(hm:m<=c)(hc:c<=maxLen){u:Value}(hu:u=.slice (V ⟨g,q,Δ⟩) m c)(hr:m≠0->RepAt μ F w g cs q):Rep μ F w (.ls (By m e cs)) u:=by
 simp only[Rep];refine⟨OU m e hn,V ⟨g,q,Δ⟩,c,by rw[IP];exact hu,by rw[IP];exact hm,hc,λhne=>⟨g,q,e,rfl,?_⟩⟩;have hm0:m≠0:=λh0=>hne (by rw[h0];rfl)
 have hr:=hr hm0;refine RepRows.mk λi x hx=>?_
 rw[So]at hx;split at hx
 .rename_i hi
  simp only[δ]at hx;subst hx;have h1:i*e+e<=m*e:=by rw[←Nat.succ_mul];exact Nat.mul_le_mul_right e hi
  refine⟨by rw[AwL,AwR,hl];omega,?_⟩;have h2:=hr.drop (i*e);refine RepAt.mk λj y hy=>?_
  rw[Aw8]at hy;split at hy
  .exact h2.get hy
  .cases hy
 .cases hx
theorem Iw{b:Nat}{k:ABlk}{u:Unit}{H H':AH}{ft:Foot}(h:AM.setB b k H=V (u,H',ft)):H'=H.put b k/\∃ k0,H.get b=V k0:=by
 unfold AM.setB at h
 cases e:H.get b with
 |none=>rw[e]at h;cases h
 |some k0=>
  rw[e]at h;simp only[δ,Prod.mk.injEq]at h;exact⟨h.2.1.symm,k0,rfl⟩
theorem V2(n:Nat)(x:AV){y:AV}{H':AH}{ft:Foot}(hw:H.wf)(h:frz n x H=V (y,H',ft)):H.next<=H'.next/\H'.wf:=⟨(Loc.frz n x H y H' ft hw h).next,(Loc.frz n x H y H' ft hw h).wf⟩
theorem SE(n:Nat)(x:Ad){y:Ad}{H':AH}{ft:Foot}(hw:H.wf)(h:frzL n x H=V (y,H',ft)):H.next<=H'.next/\H'.wf:=⟨(Loc.frzL n x H y H' ft hw h).next,(Loc.frzL n x H y H' ft hw h).wf⟩
theorem Ap7{b:Nat}{k k0:ABlk}(hw:H.wf)(hb:H.get b=V k0):(H.put b k).wf:=λc h1 h2=>by
 rw[AH.get_put]
 by_cases hcb:c=b
 .subst hcb
  rw[hw c h1 h2]at hb
  cases hb
 .rw[Ab hcb];exact hw c h1 h2
theorem Re{z u:Value}(hx:Rep μ F w (.v z) u):Rep μ F w (Aha z) u:=by
 unfold Aha;split
 .rename_i e
  simp only[Rep]at hx ⊢;rw[hx.1,KU e];exact⟨rfl,Δ,0,rfl,ω _,Axb _,λh=>absurd rfl h⟩
 .exact hx
end
mutual
theorem KP:∀(n:Nat) (x:AV) {μ:Mu} {F:AP} {w:World} {H:AH} {u:Value} {y:AV} {H':AH} {ft:Foot},Rep μ F w x u->HRep μ F w H.get->H.wf->frz n x H=V (y,H',ft)->Gh μ F w H H' λμ' F'=>Rep μ' F' w y u
 |0,x,μ,F,w,H,u,y,H',ft,hx,hH,hw,h=>by
  simp only[frz]at h
  cases x<;>simp only[frz0]at h<;>first
   |exact(Aq h).elim
   | (obtain⟨rfl,rfl⟩:=At h
      first
       |exact Gh.same hH hx
       |exact Gh.same hH (Re hx))
 |n+1,.v z,μ,F,w,H,u,y,H',ft,hx,hH,hw,h=>by
  simp only[frz]at h;obtain⟨rfl,rfl⟩:=At h;exact Gh.same hH (Re hx)
 |n+1,.sl b o m e,μ,F,w,H,u,y,H',ft,hx,hH,hw,h=>by
   simp only[frz]at h;obtain⟨k,H1,f1,f2,h1,h2⟩:=bind_some h;obtain⟨hk,e1⟩:=B0 h1;rw[e1]at h2
   cases hle:Aww (o+m*e) k.cells.length with
   |false=>rw[hle]at h2;exact(Aq h2).elim
   |true=>
    rw[hle]at h2;have hle':o+m*e<=k.cells.length:=by simpa using hle
    obtain⟨_,H2,f3,f4,h3,h4⟩:=bind_some h2;simp only[Rep]at hx;obtain⟨p,hp,hu⟩:=hx;obtain⟨p',hp',hB⟩:=hH.blk b k hk;rw[hp]at hp'
    cases hp'
    have step:∃ F1,Later μ μ F F1 w w/\HRep μ F1 w H2.get/\(∀ i,i<k.cells.length->F1 p.g (p.o+i))/\H2.next=H.next/\H2.wf:=by
     cases hst:k.st with
     |true=>
      rw[hst]at h3;obtain⟨e2,k0,hk0⟩:=Iw h3;obtain⟨g1,g2⟩:=SM hH hk hp;refine⟨_,g2,?_,λi hi=>.inr ⟨rfl,by omega,by omega⟩,by rw[e2];rfl,by rw[e2];exact Ap7 hw hk0⟩;have:H2.get=λc=>if c=b then V { k with st:=Θ } else H.get c:=by
       funext c
       rw[e2,AH.get_put]
      rw[this];exact g1
     |false=>
      rw[hst]at h3;obtain⟨_,e2⟩:=At h3;rw[e2];exact⟨F,Later.refl _ _ _,hH,λi hi=>hB.kept hst i hi,rfl,hw⟩
    obtain⟨F1,g1,g2,g3,g4,g5⟩:=step;obtain⟨us,r1,r2⟩:=D8 (g:=p.g) (cs:=(k.cells.drop o).take (m*e)) (o:=p.o+o) (μ:=μ) (F:=F1) (w:=w) (by
     intro i x hi;rw[Aw8]at hi;split at hi
     .rw[List.getElem?_drop]at hi
      obtain⟨u',q1,q2⟩:=hB.cell (o+i) x hi;exact⟨u',by rw[AwA];exact q1,q2.later g1⟩
     .cases hi)
    have hlen:us.length=m*e:=by
     rw[r1.length,AwL,AwR];omega
    have fin:∀{cs:Ad} {H3:AH},H2.next<=H3.next->A4 cs=U->Gh μ F1 w H2 H3 (λμ' F'=>RepList μ' F' w cs us)->Gh μ F w H H3 λμ' F'=>Rep μ' F' w (.ls (By m e cs)) u:=by
     intro cs H3 n3 hno hG;refine Gh.trans (H1:=H2) (by omega) n3 (Q1:=λμ' F'=>μ'=μ/\F'=F1) ⟨μ,F1,g1,g2,λ_ _=>rfl,rfl,rfl⟩ ?_;rintro μ' F' _ _ _ ⟨rfl,rfl⟩;refine hG.mono λμ2 F2 l2 hr=>?_
     have hcl:cs.length=m*e:=by rw[←hr.length,hlen]
     rcases hu with⟨rfl,rfl⟩|⟨q,c,rfl,hq,hmc,hcm,hroom⟩
     .simp only[By,Rep]
      exact⟨rfl,Δ,0,rfl,ω _,Axb _,λh=>absurd rfl h⟩
     .refine Adw hno hcl hmc hcm rfl λhm0=>?_
      have hq':=hq (by omega);rw[hq'];refine RepAt.mk λi x hi=>?_
      obtain⟨v,v1,v2⟩:=hr.get hi;have hi':i<m*e:=by rw[←hcl];exact(List.getElem?_eq_some_iff.1 hi).1
      refine⟨(l2.prot _ _ (by rw[AwA];exact g3 (o+i) (by omega))).1,v,r2 i v v1,v2⟩
    cases hno0:(k.ex||A4 ((k.cells.drop o).take (m*e))) with
    |true=>
     rw[hno0]at h4;obtain⟨rfl,rfl⟩:=At h4;have hno:A4 ((k.cells.drop o).take (m*e))=U:=by
      cases hx:k.ex with
      |true=>exact Q2 (Q0 (hB.pure hx) _) _
      |false=>rw[hx,Bool.false_or]at hno0;exact hno0
     exact fin (ω _) hno (Gh.same g2 r1)
    |false=>
     rw[hno0]at h4;obtain⟨cs,H3,f5,f6,h5,h6⟩:=bind_some h4;have hG:=Gx n _ r1 g2 g5 h5;obtain⟨n3,w3⟩:=SE n _ g5 h5
     cases hno:A4 cs with
     |true=>
      rw[hno]at h6;obtain⟨rfl,rfl⟩:=At h6;exact fin n3 hno hG
     |false=>rw[hno]at h6;exact(Aq h6).elim
 |n+1,.agg cs,μ,F,w,H,u,y,H',ft,hx,hH,hw,h=>by
   simp only[frz]at h;obtain⟨cs',H1,f1,f2,h1,h2⟩:=bind_some h;obtain⟨rfl,rfl⟩:=At h2;simp only[Rep]at hx;obtain⟨us,rfl,hr⟩:=hx;refine(Gx n _ hr hH hw h1).mono λμ' F' _ hq=>?_
   simp only[Rep];exact⟨us,rfl,hq⟩
 |n+1,.tup cs,μ,F,w,H,u,y,H',ft,hx,hH,hw,h=>by
   simp only[frz]at h;obtain⟨cs',H1,f1,f2,h1,h2⟩:=bind_some h;obtain⟨rfl,rfl⟩:=At h2;simp only[Rep]at hx;obtain⟨us,rfl,hr⟩:=hx;refine(Gx n _ hr hH hw h1).mono λμ' F' _ hq=>?_
   simp only[Rep];exact⟨us,rfl,hq⟩
 |n+1,.ptr b o,μ,F,w,H,u,y,H',ft,hx,hH,hw,h=>by
   simp only[frz]at h;obtain⟨rfl,rfl⟩:=At h;exact Gh.same hH hx
 |n+1,.ls xs,μ,F,w,H,u,y,H',ft,hx,hH,hw,h=>by
   simp only[frz]at h;obtain⟨rfl,rfl⟩:=At h;exact Gh.same hH hx
 |n+1,.lp xs,μ,F,w,H,u,y,H',ft,hx,hH,hw,h=>by
   simp only[frz]at h;obtain⟨rfl,rfl⟩:=At h;exact Gh.same hH hx
 |n+1,.fn f a c,μ,F,w,H,u,y,H',ft,hx,hH,hw,h=>by
   simp only[frz]at h;obtain⟨rfl,rfl⟩:=At h;exact Gh.same hH hx
 |n+1,.any,μ,F,w,H,u,y,H',ft,hx,hH,hw,h=>by
   simp only[frz]at h;obtain⟨rfl,rfl⟩:=At h;exact Gh.same hH hx
theorem Gx:∀(n:Nat) (l:Ad) {μ:Mu} {F:AP} {w:World} {H:AH} {us:AI} {y:Ad} {H':AH} {ft:Foot},RepList μ F w l us->HRep μ F w H.get->H.wf->frzL n l H=V (y,H',ft)->Gh μ F w H H' λμ' F'=>RepList μ' F' w y us
 |n,[],μ,F,w,H,us,y,H',ft,hx,hH,hw,h=>by
  unfold frzL at h;obtain⟨rfl,rfl⟩:=At h;exact Gh.same hH hx
 |0,_::_,μ,F,w,H,us,y,H',ft,hx,hH,hw,h=>by
  unfold frzL at h;exact(Aq h).elim
 |n+1,x::r,μ,F,w,H,us,y,H',ft,hx,hH,hw,h=>by
  unfold frzL at h;obtain⟨x',H1,f1,f2,h1,h2⟩:=bind_some h;obtain⟨r',H2,f3,f4,h3,h4⟩:=bind_some h2;obtain⟨rfl,rfl⟩:=At h4;simp only[RepList]at hx;obtain⟨u,t,rfl,hu,ht⟩:=hx;obtain⟨n1,w1⟩:=V2 n x hw h1;obtain⟨n2,w2⟩:=SE n r w1 h3;refine Gh.trans n1 n2 (KP n x hu hH hw h1) λμ1 F1 l1 hH1 _ hx1=>?_
  refine(Gx n r (ht.later' l1) hH1 w1 h3).mono λμ2 F2 l2 hr2=>?_
  simp only[RepList];exact⟨u,t,rfl,hx1.later l2,hr2⟩
end
