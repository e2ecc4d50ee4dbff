/- Code with all types' siz -/
import Derived.Test.YtpncilciembjdaaGreatDoorBAH
set_option linter.all false
open Array renaming toArray_toList->ArF
open Bool renaming and_eq_true->Ape,false_eq_true->Aqw
open Int renaming ofNat->Aq0
open List renaming all_eq_true->Apd,getElem?_take->ApN,length_drop->AqA,length_take->Apg
open Nat renaming add_assoc->Apz,beq->ApE,ble->Apa,blt->ApR,eq_of_beq_eq_true->Apt,le_refl->φ,min->Ap7,zero_add->Apy,zero_le->ApM
open Option renaming bind_some->ApH,map_none->ArI,map_some->ApG
namespace Go.Proofs.YtpncilciembjdaaGreatDoor
open Option.some renaming injEq->δ
open Go.RowKit
structure Ar0 where
 add:IntKind->Int->Int->Int
 sub:IntKind->Int->Int->Int
 mul:IntKind->Int->Int->Int
 quo:IntKind->Int->Int->Int
 rem:IntKind->Int->Int->Int
 bits:BinOp->IntKind->Int->Int->Int
 shl:IntKind->Int->Int->Int
 shr:IntKind->Int->Int->Int
 conv:IntKind->Int->Int
 lt:Int->Int->Bool
 le:Int->Int->Bool
 eq:Int->Int->Bool
 max:Int->Int->Int
 min:Int->Int->Int
 beq:Bool->Bool->Bool
 band:Bool->Bool->Bool
 seq:ByteArray->ByteArray->Bool
 slt:ByteArray->ByteArray->Bool
 slen:ByteArray->Nat
 cat:ByteArray->ByteArray->ByteArray
 sat:ByteArray->Nat->Int
 ssub:ByteArray->Nat->Nat->ByteArray
inductive Ar where
 |mk (r:Ar0)
 |no
def Ar.add(A:Ar)(x0:IntKind)(x1:Int)(x2:Int):Int:=match A with
 |.mk r=>r.add x0 x1 x2
 |.no=>0
def Ar.sub(A:Ar)(x0:IntKind)(x1:Int)(x2:Int):Int:=match A with
 |.mk r=>r.sub x0 x1 x2
 |.no=>0
def Ar.mul(A:Ar)(x0:IntKind)(x1:Int)(x2:Int):Int:=match A with
 |.mk r=>r.mul x0 x1 x2
 |.no=>0
def Ar.quo(A:Ar)(x0:IntKind)(x1:Int)(x2:Int):Int:=match A with
 |.mk r=>r.quo x0 x1 x2
 |.no=>0
def Ar.rem(A:Ar)(x0:IntKind)(x1:Int)(x2:Int):Int:=match A with
 |.mk r=>r.rem x0 x1 x2
 |.no=>0
def Ar.bits(A:Ar)(x0:BinOp)(x1:IntKind)(x2:Int)(x3:Int):Int:=match A with
 |.mk r=>r.bits x0 x1 x2 x3
 |.no=>0
def Ar.shl(A:Ar)(x0:IntKind)(x1:Int)(x2:Int):Int:=match A with
 |.mk r=>r.shl x0 x1 x2
 |.no=>0
def Ar.shr(A:Ar)(x0:IntKind)(x1:Int)(x2:Int):Int:=match A with
 |.mk r=>r.shr x0 x1 x2
 |.no=>0
def Ar.conv(A:Ar)(x0:IntKind)(x1:Int):Int:=match A with
 |.mk r=>r.conv x0 x1
 |.no=>0
def Ar.lt(A:Ar)(x0:Int)(x1:Int):Bool:=match A with
 |.mk r=>r.lt x0 x1
 |.no=>false
def Ar.le(A:Ar)(x0:Int)(x1:Int):Bool:=match A with
 |.mk r=>r.le x0 x1
 |.no=>false
def Ar.eq(A:Ar)(x0:Int)(x1:Int):Bool:=match A with
 |.mk r=>r.eq x0 x1
 |.no=>false
def Ar.max(A:Ar)(x0:Int)(x1:Int):Int:=match A with
 |.mk r=>r.max x0 x1
 |.no=>0
def Ar.min(A:Ar)(x0:Int)(x1:Int):Int:=match A with
 |.mk r=>r.min x0 x1
 |.no=>0
def Ar.not(_:Ar)(b:Bool):Bool:=!b
def Ar.beq(A:Ar)(x0:Bool)(x1:Bool):Bool:=match A with
 |.mk r=>r.beq x0 x1
 |.no=>false
def Ar.band(A:Ar)(x0:Bool)(x1:Bool):Bool:=match A with
 |.mk r=>r.band x0 x1
 |.no=>false
def Ar.seq(A:Ar)(x0:ByteArray)(x1:ByteArray):Bool:=match A with
 |.mk r=>r.seq x0 x1
 |.no=>false
def Ar.slt(A:Ar)(x0:ByteArray)(x1:ByteArray):Bool:=match A with
 |.mk r=>r.slt x0 x1
 |.no=>false
def Ar.slen(A:Ar)(x0:ByteArray):Nat:=match A with
 |.mk r=>r.slen x0
 |.no=>0
def Ar.cat(A:Ar)(x0:ByteArray)(x1:ByteArray):ByteArray:=match A with
 |.mk r=>r.cat x0 x1
 |.no=>ByteArray.empty
def Ar.sat(A:Ar)(x0:ByteArray)(x1:Nat):Int:=match A with
 |.mk r=>r.sat x0 x1
 |.no=>0
def Ar.ssub(A:Ar)(x0:ByteArray)(x1:Nat)(x2:Nat):ByteArray:=match A with
 |.mk r=>r.ssub x0 x1 x2
 |.no=>ByteArray.empty
def Qa(b:BinOp)(k:IntKind)(x y:Int):Int:=match b with
 |.and=>k.wrap (BitVec.ofInt k.bits x &&& BitVec.ofInt k.bits y).toNat
 |.or=>k.wrap (BitVec.ofInt k.bits x ||| BitVec.ofInt k.bits y).toNat
 |.xor=>k.wrap (BitVec.ofInt k.bits x ^^^ BitVec.ofInt k.bits y).toNat
 |_=>k.wrap (BitVec.ofInt k.bits x &&& ~~~BitVec.ofInt k.bits y).toNat
def FS:Ar0 where
 add k x y:=k.wrap (x+y)
 sub k x y:=k.wrap (x-y)
 mul k x y:=k.wrap (x*y)
 quo k x y:=k.wrap (x.tdiv y)
 rem _ x y:=x.tmod y
 bits b k x y:=Qa b k x y
 shl k x y:=k.wrap (x*2 ^ (Ap7 y.toNat k.bits))
 shr k x y:=x.fdiv (2 ^ (Ap7 y.toNat k.bits))
 conv k x:=k.wrap x
 lt x y:=decide (x<y)
 le x y:=decide (x<=y)
 eq x y:=x == y
 max x y:=if x<y then y else x
 min x y:=if y<x then y else x
 beq a b:=a == b
 band a b:=a&&b
 seq a b:=a.toList == b.toList
 slt a b:=Op.bytesLess a.toList b.toList
 slen a:=a.size
 cat a b:=a++b
 sat a i:=match a[i]? with
  |some c=>Aq0 c.toNat
  |none=>0
 ssub a l h:=a.extract l h
def Ag:Ar:=.mk FS
inductive MO where
 |mv (x:Operand)
 |pick (c a b:Operand)
 |alloc (z:List Value)
 |box (x:Operand)
 |buildS (z:List Value) (pl:List (Nat × Nat)) (ps:List (Nat × Operand))
 |buildR (z:List Value) (e:Nat) (ps:List (Nat × Operand))
 |buildSl (z:List Value) (e n:Nat) (ps:List (Nat × Operand))
 |ld (row:Bool) (n:Nat) (a:Operand)
 |st (n:Nat) (a x:Operand)
 |nilck (x:Operand)
 |bin (ek:Nat) (b:BinOp) (x y:Operand)
 |eqs (neg:Bool) (ks:List Nat) (x y:Operand)
 |not (x:Operand)
 |neg (x:Operand)
 |mkfn (f:Fn) (a c:List Operand)
 |slice (e:Nat) (x:Operand) (lo hi:Option Operand)
 |faddr (off:Nat) (a:Operand)
 |field (row:Bool) (off n:Nat) (x:Operand)
 |iaddr (e:Nat) (x i:Operand)
 |aaddr (n e:Nat) (x i:Operand)
 |index (n e:Nat) (row:Bool) (sz:Nat) (x i:Operand)
 |ext (x:Operand) (i:Nat)
 |mksl (z:List Value) (e bytes:Nat) (l c:Operand)
 |app (e bytes:Nat) (s x:Operand)
 |appz (z:List Value) (e bytes:Nat) (s x:Operand)
 |cpy (e:Nat) (d x:Operand)
 |clr (z:List Value) (e:Nat) (x:Operand)
 |len (sl:Bool) (x:Operand)
 |sidx (x i:Operand)
 |sslice (x:Operand) (lo hi:Option Operand)
 |iconv (k:IntKind) (x:Operand)
 |str (x:Operand)
 |mx (x y:Operand)
 |mn (x y:Operand)
 |callF (f:FuncId) (args:List Operand)
 |callV (ents:Nat) (x:Operand) (args:List Operand)
 |bad
structure MOp where
 dst:Option Nat
 op:MO
 g:Option (Nat × Bool)
structure LpH where
 n:Nat
 live:List Bool
 ad:List (Nat × Nat)
 fz:List Nat
 outs:List (Nat × (List Bool × (List Nat × List Nat)))
inductive MC where
 |skip
 |reg (ops:List MOp) (bf:Option (List Nat))
 |seq (a b:MC)
 |cond (c:Operand) (a b:MC)
 |block (id:Nat) (c:MC)
 |loop (i:Nat) (h:LpH)
 |exit (id:Nat)
 |ret
 |bad
section
variable (A:Ar)
def loadM(row:Bool)(n:Nat)(a:AV):AM AV:=match row with
 |true=>(rdAt a n).bind λcs=>AM.ret (.agg cs)
 |false=>(rdAt a 1).bind λcs=>AM.opt (S4 cs)
def storeM(n:Nat)(a x:AV):AM AV:=match a with
 |.ptr b o=>
  if x.cells.length=n/\x.cells.all AV.one=true then
   (AM.getB b).bind λk=>if k.st=true/\o+n<=k.cells.length/\(!k.ex||AZ x.cells)=true then(AM.setB b { k with cells:=AG k.cells o x.cells }).bind λ_=>AM.ret AV.undef else AM.fail
  else AM.fail
 |_=>AM.fail
def Rh(row:Bool)(off n:Nat)(cs:List AV):Option AV:=match row with
 |true=>some (.agg ((cs.drop off).take n))
 |false=>cs[off]?
def SG(row:Bool)(off n:Nat)(x:AV):Option AV:=match x with
 |.agg cs=>Rh row off n cs
 |_=>none
def Jl(place:Nat->Option (Nat × Nat))(z:List Value)(ps:List (Nat × AV)):Option AV:=
 if ps.any (λp=>F9 p.2) then none else(EE place (z.map .v) ps).map .agg
def buildSlM(z:List Value)(e n:Nat)(ps:List (Nat × AV)):AM AV:=
 if n*e<=16777216/\n<=maxLen/\ps.any (λp=>F9 p.2)=false then
  match EE (λi=>some (i*e,e)) (BM (z.map .v) (n*e)) ps with
  |some cs=>if AZ cs=true then(AM.newB ⟨cs,true,true⟩).bind λb=>AM.ret (.sl b 0 n e) else(AM.newB ⟨cs,true,false⟩).bind λb=>AM.ret (.sl b 0 n e)
  |none=>AM.fail
 else AM.fail
def Rf:List (List AV)->Nat->Option (List AV)
 |[],_=>none
 |x::_,0=>some x
 |_::r,n+1=>Rf r n
theorem PD:∀(xs:List (List AV)) (n:Nat),Rf xs n=xs[n]?
 |[],_=>by simp[Rf]
 |x::r,0=>by simp[Rf]
 |x::r,n+1=>by simp[Rf,PD r n]
def MB(e:Nat)(x ix:AV):Option AV:=match ix.idx with
 |some i=>(match x with
  |.sl b o n e'=>(match ApR i n with
   |true=>if e'=e then some (.ptr b (o+i*e)) else none
   |false=>none)
  |.ls xs=>(match Rf xs i with
   |some cs=>(match ApE cs.length e with
    |true=>some (.lp cs)
    |false=>none)
   |none=>none)
  |_=>none)
 |none=>none
def OM(n e:Nat)(x ix:AV):Option AV:=match ix.idx with
 |some i=>(match ApR i n with
  |true=>MI x (i*e)
  |false=>none)
 |none=>none
def ME(n e:Nat)(row:Bool)(sz:Nat)(x ix:AV):Option AV:=match x,ix.idx with
 |.agg cs,some i=>(match ApR i n with
  |true=>Rh row (i*e) sz cs
  |false=>none)
 |_,_=>none
def Hz:List (List AV)->Nat->List (List AV)
 |[],_=>[]
 |_::_,0=>[]
 |x::r,n+1=>x::Hz r n
def Hq:List (List AV)->Nat->List (List AV)
 |[],_=>[]
 |x::r,0=>x::r
 |_::r,n+1=>Hq r n
def AF:List (List AV)->Nat
 |[]=>0
 |_::r=>AF r+1
def FF(e:Nat):List (List AV)->Bool
 |[]=>true
 |x::r=>ApE x.length e&&FF e r
def K3(n:Nat):Option AV->Option Nat
 |some x=>x.idx
 |none=>some n
def M8(e:Nat)(x:AV)(lo hi:Option AV):Option AV:=match x with
 |.sl b o n e'=>(match K3 0 lo,K3 n hi with
  |some l,some h=>(match Apa l h,Apa h n,ApE e' e with
   |true,true,true=>some (.sl b (o+l*e) (h-l) e)
   |_,_,_=>none)
  |_,_=>none)
 |.ls xs=>(match K3 0 lo,K3 (AF xs) hi with
  |some l,some h=>(match Apa l h,Apa h (AF xs),FF e xs with
   |true,true,true=>some (.ls (Hq (Hz xs h) l))
   |_,_,_=>none)
  |_,_=>none)
 |_=>none
def Aic(sl:Bool)(x:AV):Option AV:=match sl with
 |true=>(match x with
  |.sl _ _ n _=>some (.v (.int .i64 (Aq0 n)))
  |.ls xs=>some (.v (.int .i64 (Aq0 (AF xs))))
  |.v (.slice none 0 0)=>some (.v (.int .i64 (Aq0 0)))
  |_=>none)
 |false=>(match x with
  |.v (.string s)=>some (.v (.int .i64 (Aq0 (A.slen s))))
  |_=>none)
def XM:List Nat->List AV->List AV->Option Bool
 |[],[],[]=>some true
 |1::ks,.v (.bool a)::r,.v (.bool b)::q=>(match XM ks r q with
  |some t=>some (A.band (A.beq a b) t)
  |none=>none)
 |0::ks,.v (.int k a)::r,.v (.int k' b)::q=>if k=k' then(match XM ks r q with
  |some t=>some (A.band (A.eq a b) t)
  |none=>none) else none
 |2::ks,.v (.string a)::r,.v (.string b)::q=>(match XM ks r q with
  |some t=>some (A.band (A.seq a b) t)
  |none=>none)
 |_,_,_=>none
def AhB(neg:Bool)(ks:List Nat)(x y:AV):Option AV:=match x,y with
 |.agg xs,.agg ys=>(match XM A ks xs ys with
  |some t=>(match neg with
   |true=>some (.v (.bool (A.not t)))
   |false=>some (.v (.bool t)))
  |none=>none)
 |_,_=>none
def eqM(ek:Nat)(x y:AV):Option Bool:=match ek,x,y with
 |4,.v (.bool a),.v (.bool b)=>some (A.beq a b)
 |1,.ptr ..,.v (.pointer none)=>some false
 |1,.lp ..,.v (.pointer none)=>some false
 |1,.v (.pointer none),.v (.pointer none)=>some true
 |2,.sl _ _ (_+1) _,.v (.slice none 0 0)=>some false
 |2,.v (.slice none 0 0),.v (.slice none 0 0)=>some true
 |3,.fn ..,.v .nilFunc=>some false
 |3,.v .nilFunc,.v .nilFunc=>some true
 |_,_,_=>none
def IA(b:BinOp)(x y:AV):Option AV:=match x,y with
 |.v (.int k a),.v (.int k' c)=>(match b with
  |.shl=>(match A.lt c 0 with
   |true=>none
   |false=>some (.v (.int k (A.shl k a c))))
  |.shr=>(match A.lt c 0 with
   |true=>none
   |false=>some (.v (.int k (A.shr k a c))))
  |b=>if k=k' then(match b with
   |.and=>some (.v (.int k (A.bits .and k a c)))
   |.or=>some (.v (.int k (A.bits .or k a c)))
   |.xor=>some (.v (.int k (A.bits .xor k a c)))
   |.andNot=>some (.v (.int k (A.bits .andNot k a c)))
   |.quo=>(match A.eq c 0 with
    |true=>none
    |false=>some (.v (.int k (A.quo k a c))))
   |.rem=>(match A.eq c 0 with
    |true=>none
    |false=>some (.v (.int k (A.rem k a c))))
   |.add=>some (.v (.int k (A.add k a c)))
   |.sub=>some (.v (.int k (A.sub k a c)))
   |.mul=>some (.v (.int k (A.mul k a c)))
   |.eql=>some (.v (.bool (A.eq a c)))
   |.neq=>some (.v (.bool (A.not (A.eq a c))))
   |.lss=>some (.v (.bool (A.lt a c)))
   |.leq=>some (.v (.bool (A.le a c)))
   |.gtr=>some (.v (.bool (A.lt c a)))
   |.geq=>some (.v (.bool (A.le c a)))
   |_=>none) else none)
 |.v (.string a),.v (.string c)=>(match b with
   |.add=>(match Apa (A.slen a+A.slen c) 9223372036854775807 with
    |true=>some (.v (.string (A.cat a c)))
    |false=>none)
   |.eql=>some (.v (.bool (A.seq a c)))
   |.neq=>some (.v (.bool (A.not (A.seq a c))))
   |.lss=>some (.v (.bool (A.slt a c)))
   |.geq=>some (.v (.bool (A.not (A.slt a c))))
   |_=>none)
 |_,_=>none
def AaU(ek:Nat)(b:BinOp)(x y:AV):Option AV:=match ek,b with
 |0,_=>IA A b x y
 |_,.eql=>(eqM A ek x y).map λt=>.v (.bool t)
 |_,.neq=>(eqM A ek x y).map λt=>.v (.bool (A.not t))
 |_,_=>none
def AaK(f:Int->Int->Int)(x y:AV):Option AV:=match x,y with
 |.v (.int k a),.v (.int k' c)=>if k=k' then some (.v (.int k (f a c))) else none
 |_,_=>none
def Rx(x i:AV):Option AV:=match x,i.idx with
 |.v (.string s),some i=>(match ApR i (A.slen s) with
  |true=>some (.v (.int .u8 (A.sat s i)))
  |false=>none)
 |_,_=>none
def I9(x:AV)(lo hi:Option AV):Option AV:=match x with
 |.v (.string s)=>(match K3 0 lo,K3 (A.slen s) hi with
  |some l,some h=>(match Apa l h,Apa h (A.slen s) with
   |true,true=>some (.v (.string (A.ssub s l h)))
   |_,_=>none)
  |_,_=>none)
 |_=>none
def W3(k:IntKind)(x:AV):Option AV:=match x with
 |.v (.int _ n)=>some (.v (.int k (A.conv k n)))
 |_=>none
def AlI(x:AV):Option AV:=match x with
 |.v (.bool b)=>some (.v (.bool (A.not b)))
 |_=>none
def AlG(x:AV):Option AV:=match x with
 |.v (.int k n)=>some (.v (.int k (A.sub k 0 n)))
 |_=>none
def Hj:List (List AV)->List AV
 |[]=>[]
 |x::r=>x++Hj r
def newsM(e:Nat)(x:AV):AM (Nat × List AV):=match x with
 |.sl b o n e'=>if e'=e then(AM.getB b).bind λk=>match Apa (o+n*e) k.cells.length,(k.ex||AZ ((k.cells.drop o).take (n*e))) with
   |true,true=>AM.ret (n,(k.cells.drop o).take (n*e))
   |_,_=>AM.fail
   else AM.fail
 |.ls xs=>(match FF e xs with
  |true=>AM.ret (AF xs,Hj xs)
  |false=>AM.fail)
 |.v (.slice none 0 0)=>AM.ret (0,[])
 |_=>AM.fail
def GI:List AV->Bool
 |[]=>true
 |x::r=>x.one&&GI r
def PA(z:List Value)(e:Nat)(x:AV):AM (Nat × List AV):=match x.idx with
 |some m=>(match Apa m 9223372036854775807 with
  |true=>AM.ret (m,BM (z.map .v) (m*e))
  |false=>AM.fail)
 |none=>AM.fail
def appR(e bytes:Nat)(s:AV)(r:Nat × List AV):AM AV:=
 match ApE r.1 0 with
 |true=>if NA s=true then AM.ret s else AM.fail
 |false=>match GI r.2 with
  |false=>AM.fail
  |true=>(match s with
   |.v (.slice none 0 0)=>(match Apa (r.1*bytes) 140737488355328,Apa r.1 maxLen with
    |true,true=>(AM.newB ⟨r.2,true,true⟩).bind λb=>AM.ret (.sl b 0 r.1 e)
    |_,_=>AM.fail)
   |.sl b o n e'=>(match ApE e' e,Apa ((n+r.1)*bytes) 140737488355328,Apa (n+r.1) maxLen with
    |true,true,true=>(AM.getB b).bind λk=>match k.ex,k.st,ApE (o+n*e) k.cells.length with
     |true,true,true=>(AM.delB b).bind λ_=>(AM.newB ⟨(k.cells.take (o+n*e)).drop o++r.2,true,true⟩).bind λb'=>AM.ret (.sl b' 0 (n+r.1) e)
     |true,false,true=>(AM.setB b { k with ex:=false }).bind λ_=>(AM.newB ⟨(k.cells.take (o+n*e)).drop o++r.2,false,true⟩).bind λb'=>AM.ret (.sl b' 0 (n+r.1) e)
     |true,true,false=>(match Apa (o+n*e) k.cells.length with
      |true=>(AM.delB b).bind λ_=>(AM.newB ⟨(k.cells.take (o+n*e)).drop o++r.2,true,true⟩).bind λb'=>AM.ret (.sl b' 0 (n+r.1) e)
      |false=>AM.fail)
     |_,_,_=>AM.fail
    |_,_,_=>AM.fail)
   |_=>AM.fail)
def appM(e bytes:Nat)(s x:AV):AM AV:=(newsM e x).bind λr=>appR e bytes s r
def appzM(z:List Value)(e bytes:Nat)(s x:AV):AM AV:=(PA z e x).bind λr=>appR e bytes s r
def mkslM(z:List Value)(e bytes:Nat)(l c:AV):AM AV:=match l.idx,c.idx with
 |some n,some m=>(match Apa n m,Apa (m*bytes) 140737488355328,Apa m maxLen with
  |true,true,true=>(AM.newB ⟨BM (z.map .v) (n*e),true,true⟩).bind λb=>AM.ret (.sl b 0 n e)
  |_,_,_=>AM.fail)
 |_,_=>AM.fail
def cpyM(e:Nat)(d x:AV):AM AV:=match d with
 |.sl b o n e'=>(match ApE e' e with
  |true=>(newsM e x).bind λr=>match GI (r.2.take (Ap7 r.1 n*e)) with
   |true=>(AM.getB b).bind λk=>match k.st,Apa (o+n*e) k.cells.length with
    |true,true=>(AM.setB b { k with cells:=AG k.cells o (r.2.take (Ap7 r.1 n*e)) }).bind λ_=>AM.ret (.v (.int .i64 (Aq0 (Ap7 r.1 n))))
    |_,_=>AM.fail
   |false=>AM.fail
  |false=>AM.fail)
 |_=>AM.fail
def clrM(z:List Value)(e:Nat)(x:AV):AM AV:=match x with
 |.sl b o n e'=>(match ApE e' e with
  |true=>(AM.getB b).bind λk=>match k.st,Apa (o+n*e) k.cells.length with
   |true,true=>(AM.setB b { k with cells:=AG k.cells o (BM (z.map .v) (n*e)) }).bind λ_=>AM.ret (.tup [])
   |_,_=>AM.fail
  |false=>AM.fail)
 |_=>AM.fail
def strM(x:AV):AM AV:=match NA x with
 |true=>(newsM 1 x).bind λr=>AM.opt ((bytesOf r.2).map λl=>.v (.string ⟨l.toArray⟩))
 |false=>AM.fail
def IU(T:List AV):List (Nat × Operand)->List (Nat × AV)
 |[]=>[]
 |(i,x)::r=>(i,AR T x)::IU T r
def NC(T:List AV):List Operand->List AV
 |[]=>[]
 |x::r=>AR T x::NC T r
def mop(Γ:FuncId->List AV->AM AV)(o:MO)(T:List AV):AM AV:=match o with
 |.mv x=>AM.ret (AR T x)
 |.pick c a b=>(match AR T c with
  |.v (.bool t)=>(match t with
   |true=>AM.ret (AR T a)
   |false=>AM.ret (AR T b))
  |_=>AM.fail)
 |.alloc z=>(AM.newB ⟨z.map .v,true,false⟩).bind λb=>AM.ret (.ptr b 0)
 |.box x=>boxA (AR T x)
 |.buildS z pl ps=>AM.opt (Jl (pl[·]?) z (IU T ps))
 |.buildR z e ps=>AM.opt (Jl (λi=>some (i*e,e)) z (IU T ps))
 |.buildSl z e n ps=>buildSlM z e n (IU T ps)
 |.ld row n a=>loadM row n (AR T a)
 |.st n a x=>storeM n (AR T a) (AR T x)
 |.nilck x=>(match AR T x with
  |.ptr b o=>AM.ret (.ptr b o)
  |.lp cs=>AM.ret (.lp cs)
  |.fn (.func f) a c=>AM.ret (.fn (.func f) a c)
  |_=>AM.fail)
 |.bin ek b x y=>AM.opt (AaU A ek b (AR T x) (AR T y))
 |.eqs neg ks x y=>AM.opt (AhB A neg ks (AR T x) (AR T y))
 |.not x=>AM.opt (AlI A (AR T x))
 |.neg x=>AM.opt (AlG A (AR T x))
 |.mkfn f a c=>AM.ret (.fn f (NC T a) (NC T c))
 |.slice e x lo hi=>AM.opt (M8 e (AR T x) (lo.map (AR T)) (hi.map (AR T)))
 |.faddr off a=>AM.opt (MI (AR T a) off)
 |.field row off n x=>AM.opt (SG row off n (AR T x))
 |.iaddr e x i=>AM.opt (MB e (AR T x) (AR T i))
 |.aaddr n e x i=>AM.opt (OM n e (AR T x) (AR T i))
 |.index n e row sz x i=>AM.opt (ME n e row sz (AR T x) (AR T i))
 |.ext x i=>AM.opt (IH (AR T x) i)
 |.mksl z e bytes l c=>mkslM z e bytes (AR T l) (AR T c)
 |.app e bytes s x=>appM e bytes (AR T s) (AR T x)
 |.appz z e bytes s x=>appzM z e bytes (AR T s) (AR T x)
 |.cpy e d x=>cpyM e (AR T d) (AR T x)
 |.clr z e x=>clrM z e (AR T x)
 |.len sl x=>AM.opt (Aic A sl (AR T x))
 |.sidx x i=>AM.opt (Rx A (AR T x) (AR T i))
 |.sslice x lo hi=>AM.opt (I9 A (AR T x) (lo.map (AR T)) (hi.map (AR T)))
 |.iconv k x=>AM.opt (W3 A k (AR T x))
 |.str x=>strM (AR T x)
 |.mx x y=>AM.opt (AaK (A.max) (AR T x) (AR T y))
 |.mn x y=>AM.opt (AaK (A.min) (AR T x) (AR T y))
 |.callF f args=>Γ f (NC T args)
 |.callV ents x args=>(match AR T x with
  |.fn (.func g) a cs=>(match ents.testBit g with
   |true=>Γ g (a++NC T args++cs)
   |false=>AM.fail)
  |_=>AM.fail)
 |.bad=>AM.fail
def RX(T:List AV)(g:Option (Nat × Bool)):Option Bool:=match g with
 |none=>some true
 |some (d,want)=>match T[d]? with
  |some (.v (.bool b))=>(match want with
   |true=>some b
   |false=>some (A.not b))
  |some (.v (.tuple _))=>some false
  |_=>none
def coreM(Γ:FuncId->List AV->AM AV)(o:MOp)(T:List AV):AM AV:=match RX A T o.g with
 |some t=>(match t with
  |true=>mop A Γ o.op T
  |false=>AM.ret AV.undef)
 |none=>AM.fail
def runM(Γ:FuncId->List AV->AM AV):List MOp->List AV->AH->Option (List AV × AH × List Foot)
 |[],T,H=>some (T,H,[])
 |o::r,T,H=>match coreM A Γ o T H with
  |none=>none
  |some (v,H1,f)=>match runM Γ r (B9 T o.dst v) H1 with
   |none=>none
   |some (T2,H2,fs)=>some (T2,H2,f::fs)
def regM(Γ:FuncId->List AV->AM AV)(ops:List MOp)(bf:Option (List Nat))(T:List AV):AM (AX × List AV):=λH=>match runM A Γ ops T H with
 |none=>none
 |some (T',H',fs)=>match bf with
  |none=>some ((.normal,T'),H',⟨fs.flatMap (·.rd),fs.flatMap (·.wr)⟩)
  |some bf=>(match DY bf fs with
   |true=>some ((.normal,T'),H',⟨fs.flatMap (·.rd),fs.flatMap (·.wr)⟩)
   |false=>none)
def Cd{α:Type}:List Bool->List α->List α
 |true::l,x::r=>x::Cd l r
 |false::l,_::r=>Cd l r
 |_,_=>[]
def BU:List Bool->Nat->List AV->List AV
 |_,0,_=>[]
 |true::l,n+1,x::xs=>x::BU l n xs
 |true::l,n+1,[]=>.any::BU l n []
 |false::l,n+1,xs=>.any::BU l n xs
 |[],n+1,_=>.any::BU [] n []
def axN:AX->Nat
 |.exit i=>i+1
 |_=>0
def Ab0:List (Nat × (List Bool × (List Nat × List Nat)))->Nat->List Bool × (List Nat × List Nat)
 |[],_=>([],([],[]))
 |(k,m)::r,n=>match ApE k n with
  |true=>m
  |false=>Ab0 r n
def LpH.out(h:LpH)(x:AX):List Bool:=(Ab0 h.outs (axN x)).1
def LpH.fzo(h:LpH)(x:AX):List Nat:=(Ab0 h.outs (axN x)).2.1
def LpH.dlo(h:LpH)(x:AX):List Nat:=(Ab0 h.outs (axN x)).2.2
def Rc(T:List AV)(t:Nat):Bool:=match T[t]? with
 |some (.v z)=>JC z
 |_=>false
theorem YG{T:List AV}{t:Nat}(h:Rc T t=true):T[t]? = some (.v (.slice none 0 0)):=by
 unfold Rc at h;split at h
 .rename_i z e
  rw[e,Ha h]
 .cases h
def E0(cs:List AV)(i:Nat):Bool:=match cs[i]? with
 |some (.v z)=>JC z
 |_=>false
def adoptB1(b i e:Nat):AM Unit:=(AM.getB b).bind λk=>match k.ex,E0 k.cells i with
 |false,true=>(AM.newB ⟨[],true,true⟩).bind λc=>(AM.getB b).bind λk2=>(match k2.ex,E0 k2.cells i with
  |false,true=>AM.setB b { k2 with cells:=k2.cells.set i (.sl c 0 0 e) }
  |_,_=>AM.fail)
 |_,_=>AM.ret ()
def nilB(b i:Nat):AM Unit:=(AM.getB b).bind λk=>match k.ex,E0 k.cells i with
 |false,true=>AM.setB b { k with cells:=k.cells.set i (.ls []) }
 |_,_=>AM.ret ()
def adoptB(b i e:Nat):AM Unit:=match ApE e 0 with
 |true=>nilB b i
 |false=>adoptB1 b i e
def NO(T:List AV)(t:Nat):Option (Nat × Nat):=match Apa 1000000 t with
 |true=>(match T[t % 1000000]? with
  |some (.ptr b o)=>some (b,o+(t / 1000000-1))
  |_=>none)
 |false=>none
def adoptM:List (Nat × Nat)->List AV->AM (List AV)
 |[],T=>AM.ret T
 |(t,e)::r,T=>match Rc T t with
  |true=>(AM.newB ⟨[],true,true⟩).bind λb=>adoptM r (T.set t (.sl b 0 0 e))
  |false=>(match NO T t with
   |some q=>(adoptB q.1 q.2 e).bind λ_=>adoptM r T
   |none=>adoptM r T)
def Bh:Nat->Nat->List AV->List (List AV)
 |0,_,_=>[]
 |n+1,e,l=>l.take e::Bh n e (l.drop e)
def YF(z:Value):AV:=match JC z with
 |true=>.ls []
 |false=>.v z
def frz0(x:AV):AM AV:=match x with
 |.v z=>AM.ret (YF z)
 |.sl ..=>AM.fail
 |.agg _=>AM.fail
 |.tup _=>AM.fail
 |x=>AM.ret x
mutual
def frz:Nat->AV->AM AV
 |0,x=>frz0 x
 |n+1,x=>match x with
  |.v z=>AM.ret (YF z)
  |.sl b o m e=>(AM.getB b).bind λk=>match Apa (o+m*e) k.cells.length with
   |false=>AM.fail
   |true=>(match k.st with
    |true=>AM.setB b { k with st:=false }
    |false=>AM.ret ()).bind λ_=>match (k.ex||AZ ((k.cells.drop o).take (m*e))) with
     |true=>AM.ret (.ls (Bh m e ((k.cells.drop o).take (m*e))))
     |false=>(frzL n ((k.cells.drop o).take (m*e))).bind λcs=>match AZ cs with
      |true=>AM.ret (.ls (Bh m e cs))
      |false=>AM.fail
  |.agg cs=>(frzL n cs).bind λcs=>AM.ret (.agg cs)
  |.tup cs=>(frzL n cs).bind λcs=>AM.ret (.tup cs)
  |x=>AM.ret x
def frzL:Nat->List AV->AM (List AV)
 |_,[]=>AM.ret []
 |0,_::_=>AM.fail
 |n+1,x::r=>(frz n x).bind λx=>(frzL n r).bind λr=>AM.ret (x::r)
end
def frzB(b:Nat):AM Unit:=(AM.getB b).bind λk=>match k.ex,k.st with
 |false,true=>(frzL 1000 k.cells).bind λcs=>(AM.getB b).bind λk2=>(match k2.ex,ApE cs.length k2.cells.length with
  |false,true=>AM.setB b { k2 with cells:=cs }
  |_,_=>AM.fail)
 |_,_=>AM.ret ()
def frzT:List Nat->List AV->AM (List AV)
 |[],T=>AM.ret T
 |t::r,T=>match T[t]? with
  |some (.ptr b _)=>(frzB b).bind λ_=>frzT r T
  |some x=>(frz 1000 x).bind λy=>frzT r (T.set t y)
  |none=>frzT r T
def evC(Γ:FuncId->List AV->AM AV)(Λ:Nat->List AV->AM (AX × List AV)):MC->List AV->AM (AX × List AV)
 |.skip,T=>AM.ret (.normal,T)
 |.reg ops bf,T=>regM A Γ ops bf T
 |.seq a b,T=>(evC Γ Λ a T).bind λr=>match r.1 with
  |.normal=>evC Γ Λ b r.2
  |ax=>AM.ret (ax,r.2)
 |.cond c a b,T=>(match AR T c with
  |.v (.bool t)=>(match t with
   |true=>evC Γ Λ a T
   |false=>evC Γ Λ b T)
  |_=>AM.fail)
 |.block id c,T=>(evC Γ Λ c T).bind λr=>match r.1 with
  |.exit i=>if i=id then AM.ret (.normal,r.2) else AM.ret (.exit i,r.2)
  |ax=>AM.ret (ax,r.2)
 |.loop i h,T=>(adoptM h.ad T).bind λT=>(frzT h.fz T).bind λT=>match ApE T.length h.n with
  |true=>(Λ i (Cd h.live T)).bind λr=>AM.ret (r.1,BU (h.out r.1) h.n r.2)
  |false=>AM.fail
 |.exit id,T=>AM.ret (.exit id,T)
 |.ret,T=>AM.ret (.ret,T)
 |.bad,_=>AM.fail
end
mutual
def AV.ids:AV->List Nat
 |.v _=>[]
 |.ptr b _=>[b]
 |.sl b _ _ _=>[b]
 |.ls _=>[]
 |.lp _=>[]
 |.agg cs=>Ea cs
 |.tup cs=>Ea cs
 |.fn _ a c=>Ea a++Ea c
 |.any=>[]
def Ea:List AV->List Nat
 |[]=>[]
 |x::r=>x.ids++Ea r
end
mutual
def AV.ren(τ:Nat->Nat):AV->AV
 |.v x=>.v x
 |.ptr b o=>.ptr (τ b) o
 |.sl b o n e=>.sl (τ b) o n e
 |.ls xs=>.ls xs
 |.lp cs=>.lp cs
 |.agg cs=>.agg (Ge τ cs)
 |.tup cs=>.tup (Ge τ cs)
 |.fn f a c=>.fn f (Ge τ a) (Ge τ c)
 |.any=>.any
def Ge(τ:Nat->Nat):List AV->List AV
 |[]=>[]
 |x::r=>x.ren τ::Ge τ r
end
def ABlk.ren(τ:Nat->Nat)(k:ABlk):ABlk:=match k.ex with
 |true=>k
 |false=>{ k with cells:=Ge τ k.cells }
def ABlk.ids(k:ABlk):List Nat:=match k.ex with
 |true=>[]
 |false=>Ea k.cells
inductive BO where
 |keep
 |del
 |set (k:ABlk)
def BO.ids:BO->List Nat
 |.set k=>k.ids
 |_=>[]
def BO.ren(τ:Nat->Nat):BO->BO
 |.keep=>.keep
 |.del=>.del
 |.set k=>.set (k.ren τ)
abbrev DF:=List AV->List ABlk->Option (AV × List BO)
inductive Key where
 |fn (f:Nat)
 |lp (f i:Nat)
inductive Orc where
 |mk (f:Key->List AV->List ABlk->Option (AV × List BO))
 |no
def Orc.ask(D:Orc)(k:Key)(args:List AV)(bs:List ABlk):Option (AV × List BO):=match D with
 |.mk f=>f k args bs
 |.no=>none
def EP(b:Nat):List Nat->Bool
 |[]=>false
 |c::r=>match ApE b c with
  |true=>true
  |false=>EP b r
def idx(b:Nat):List Nat->Nat
 |[]=>0
 |c::r=>match ApE b c with
  |true=>0
  |false=>idx b r+1
def trav:Nat->List Nat->List Nat->AM (List Nat)
 |_,[],acc=>AM.ret acc
 |0,_::_,_=>AM.fail
 |n+1,b::r,acc=>match EP b acc with
  |true=>trav n r acc
  |false=>(AM.getB b).bind λk=>trav n (r++k.ids) (acc++[b])
def readAll:List Nat->AM (List ABlk)
 |[]=>AM.ret []
 |b::r=>(AM.getB b).bind λk=>(readAll r).bind λl=>AM.ret (k::l)
def nextB:AM Nat:=λH=>some (H.next,H,⟨[],[]⟩)
def writeAll(σ:Nat->Nat):List Nat->List BO->AM (List BO)
 |[],out=>AM.ret out
 |_::_,[]=>AM.fail
 |b::r,o::out=>(match o with
  |.keep=>AM.ret ()
  |.del=>AM.delB b
  |.set k=>AM.setB b (k.ren σ)).bind λ_=>writeAll σ r out
def newAll(σ:Nat->Nat):List BO->AM Unit
 |[]=>AM.ret ()
 |.set k::out=>(AM.newB (k.ren σ)).bind λ_=>newAll σ out
 |_::_=>AM.fail
def VE:List Nat->Nat->Option Nat
 |[],_=>none
 |x::_,0=>some x
 |_::r,n+1=>VE r n
def F7(L:List Nat)(n c:Nat):Nat:=match VE L c with
 |some b=>b
 |none=>n+(c-L.length)
def LP(n:Nat):List Nat->Bool
 |[]=>true
 |c::r=>match ApR c n with
  |true=>LP n r
  |false=>false
def OQ(n:Nat):List BO->Bool
 |[]=>true
 |o::r=>match LP n o.ids with
  |true=>OQ n r
  |false=>false
def callD(D:DF)(args:List AV):AM AV:=
 (trav 4096 (Ea args) []).bind λL=>(readAll L).bind λbs=>
  (AM.opt (D (Ge (λb=>idx b L) args) (bs.map (ABlk.ren λb=>idx b L)))).bind λr=>
   match LP r.2.length r.1.ids,OQ r.2.length r.2 with
   |true,true=>nextB.bind λn=>(writeAll (F7 L n) L r.2).bind λout=>(newAll (F7 L n) out).bind λ_=>AM.ret (r.1.ren (F7 L n))
   |_,_=>AM.fail
def CN:Nat->List ABlk->List (Nat × ABlk)
 |_,[]=>[]
 |n,k::r=>(n,k)::CN (n+1) r
def S7(H:AH)(wr:List Nat)(b:Nat):BO:=match EP b wr with
 |false=>.keep
 |true=>(match H.get b with
  |some k=>.set k
  |none=>.del)
def Aeg(H:AH)(b:Nat):BO:=match H.get b with
 |some k=>.set k
 |none=>.del
def DI:Nat->Nat->List Nat
 |_,0=>[]
 |a,n+1=>a::DI (a+1) n
def Em(m:List AV->AM AV):DF:=λargs bs=>match m args ⟨CN 0 bs,bs.length,none⟩ with
 |some (r,H',ft)=>some (r,(DI 0 bs.length).map (S7 H' ft.wr)++(DI bs.length (H'.next-bs.length)).map (Aeg H'))
 |none=>none
def S3:List BO->Nat->Option BO
 |[],_=>none
 |x::_,0=>some x
 |_::r,n+1=>S3 r n
def Fc(k:Nat)(out:List BO):Nat->List Nat->List Nat->Option (List Nat)
 |_,[],acc=>some acc
 |0,_::_,_=>none
 |n+1,b::r,acc=>match ApR b k with
  |true=>Fc k out n r acc
  |false=>match EP b acc with
   |true=>Fc k out n r acc
   |false=>match S3 out b with
    |some (.set kb)=>Fc k out n (r++kb.ids) (acc++[b])
    |_=>none
def Vh(k:Nat)(acc:List Nat)(b:Nat):Nat:=match ApR b k with
 |true=>b
 |false=>k+idx b acc
def Hy:List BO->Nat->List BO
 |[],_=>[]
 |_::_,0=>[]
 |x::r,n+1=>x::Hy r n
def SQ:List BO->List Nat
 |[]=>[]
 |o::r=>o.ids++SQ r
def Ri(τ:Nat->Nat)(out:List BO):List Nat->List BO
 |[]=>[]
 |b::r=>(match S3 out b with
  |some o=>o.ren τ
  |none=>.del)::Ri τ out r
def Y8(τ:Nat->Nat):List BO->List BO
 |[]=>[]
 |o::r=>o.ren τ::Y8 τ r
def Np(D:DF):DF:=λargs bs=>match D args bs with
 |none=>none
 |some (r,out)=>match Fc bs.length out 4096 (r.ids++SQ (Hy out bs.length)) []with
  |none=>none
  |some acc=>some (r.ren (Vh bs.length acc),Y8 (Vh bs.length acc) (Hy out bs.length)++Ri (Vh bs.length acc) out acc)
def YN(own:List (Nat × Nat))(f i:Nat):Bool:=match own with
 |[]=>false
 |(g,j)::r=>match ApE f g,ApE i j with
  |true,true=>true
  |_,_=>YN r f i
def frzA(own:List (Nat × Nat))(f:Nat):Nat->List AV->AM (List AV)
 |_,[]=>AM.ret []
 |i,x::r=>match YN own f i with
  |true=>(frzA own f (i+1) r).bind λr=>AM.ret (x::r)
  |false=>(frz 1000 x).bind λx=>(frzA own f (i+1) r).bind λr=>AM.ret (x::r)
def touchS(x:AV):AM AV:=match x with
 |.sl b o n e=>(AM.getB b).bind λk=>match k.ex with
  |true=>(AM.delB b).bind λ_=>(AM.newB k).bind λc=>AM.ret (.sl c o n e)
  |false=>AM.ret (.sl b o n e)
 |x=>AM.ret x
def touchL:List AV->AM (List AV)
 |[]=>AM.ret []
 |x::r=>(touchS x).bind λx=>(touchL r).bind λr=>AM.ret (x::r)
def touchB(b:Nat):AM Unit:=(AM.getB b).bind λk=>match k.ex,k.st with
 |false,true=>(touchL k.cells).bind λcs=>(AM.getB b).bind λk2=>(match k2.ex,ApE cs.length k2.cells.length with
  |false,true=>AM.setB b { k2 with cells:=cs }
  |_,_=>AM.fail)
 |true,true=>AM.setB b k
 |_,_=>AM.ret ()
def touchI:List Nat->AM Unit
 |[]=>AM.ret ()
 |b::r=>(touchB b).bind λ_=>touchI r
def touchV(x:AV):AM AV:=match x with
 |.sl b o n e=>touchS (.sl b o n e)
 |.agg cs=>(touchL cs).bind λcs=>(touchI (Ea cs)).bind λ_=>AM.ret (.agg cs)
 |x=>(touchI x.ids).bind λ_=>AM.ret x
def touchA:List Bool->List AV->AM (List AV)
 |_,[]=>AM.ret []
 |true::m,x::r=>(touchI x.ids).bind λ_=>(touchA m r).bind λr=>AM.ret (x::r)
 |false::m,x::r=>(touchV x).bind λx=>(touchA m r).bind λr=>AM.ret (x::r)
 |[],x::r=>(touchV x).bind λx=>(touchA [] r).bind λr=>AM.ret (x::r)
def LpH.nt(h:LpH)(x:AX):List Bool:=Cd (h.out x) ((DI 0 h.n).map λt=>EP (1000000+t) (h.dlo x))
def delC(b i:Nat):AM Unit:=(AM.getB b).bind λk=>match k.cells[i]? with
 |some (.sl c _ _ _)=>AM.delB c
 |_=>AM.ret ()
def delT:List Nat->List AV->AM Unit
 |[],_=>AM.ret ()
 |t::r,T=>match T[t]? with
  |some (.sl b _ _ _)=>(AM.delB b).bind λ_=>delT r T
  |some (.ptr b _)=>(AM.delB b).bind λ_=>delT r T
  |_=>(match NO T t with
   |some q=>(delC q.1 q.2).bind λ_=>delT r T
   |none=>delT r T)
inductive MRes where
 |tmp (t:Nat)
 |cell (t:Nat) (row:Bool) (n:Nat)
structure MFn where
 nt:Nat
 res:List MRes
 body:MC
 loops:List (LpH × MC)
 own:Bool
 tch:Bool
def resM(T:List AV):List MRes->AM (List AV)
 |[]=>AM.ret []
 |.tmp t::r=>(resM T r).bind λl=>AM.ret ((T[t]?).getD AV.undef::l)
 |.cell x row n::r=>(loadM row n ((T[x]?).getD AV.undef)).bind λv=>(resM T r).bind λl=>AM.ret (v::l)
def WP:AX->AV
 |.normal=>.v (.bool false)
 |.ret=>.v (.bool true)
 |.exit i=>.v (.int .i64 (Aq0 i))
 |.goto _=>.any
def R6:AV->Option AX
 |.v (.bool true)=>some .ret
 |.v (.bool false)=>some .normal
 |.v (.int .i64 (.ofNat i))=>some (.exit i)
 |_=>none
section
variable (A:Ar) (D:Orc) (own:List (Nat × Nat))
def callsM(f:FuncId)(args:List AV):AM AV:=(frzA own f 0 args).bind λl=>callD (D.ask (.fn f)) l
def loopsM(f i:Nat)(xs:List AV):AM (AX × List AV):=(callD (D.ask (.lp f i)) xs).bind λr=>match r with
 |.tup (x::ys)=>(match R6 x with
  |some ax=>AM.ret (ax,ys)
  |none=>AM.fail)
 |_=>AM.fail
def fnM(f:Nat)(mf:MFn)(args:List AV):AM AV:=(evC A (callsM D own) (loopsM D f) mf.body (O8 mf.nt args)).bind λr=>match r.1 with
 |.exit _=>AM.fail
 |.goto _=>AM.fail
 |_=>(resM r.2 mf.res).bind λl=>(match mf.own with
  |true=>AM.ret (Hl l)
  |false=>frz 1000 (Hl l)).bind λv=>match mf.tch with
   |true=>(touchI (Ea args)).bind λ_=>AM.ret v
   |false=>AM.ret v
def lpM(f i:Nat)(h:LpH)(c:MC)(xs:List AV):AM AV:=(evC A (callsM D own) (loopsM D f) c (BU h.live h.n xs)).bind λr=>match r.1 with
 |.normal=>(frzT h.fz r.2).bind λT=>(loopsM D f i (Cd h.live T)).bind λq=>AM.ret (.tup (WP q.1::q.2))
 |.goto _=>AM.fail
 |ax=>(frzT (h.fzo ax) r.2).bind λT=>(delT (h.dlo ax) T).bind λ_=>(touchA (h.nt ax) (Cd (h.out ax) T)).bind λys=>AM.ret (.tup (WP ax::ys))
end
section
variable (P:Program)
def PE(t:TypeId):Option Nat:=match P.underlying t with
 |some .bool=>some 1
 |some (.int _)=>some 0
 |some .string=>some 2
 |_=>none
def NW:List Field->Nat->Option (List Nat)
 |[],_=>some []
 |f::r,n=>if(f.offset == n&&f.name != "_"&&(B0 P f.type == some false))=true then(match PE P f.type,NW r (n+1) with
  |some k,some ks=>some (k::ks)
  |_,_=>none) else none
def eqS(t:TypeId):Option (List Nat):=match P.underlying t with
 |some (.struct fs)=>if(!P.stoodInHeld t&&!P.eqGuardType P.depth t)=true then NW P fs.toList 0 else none
 |_=>none
def Fs(t:TypeId):Nat:=match P.underlying t with
 |some (.pointer _)=>1
 |some (.slice _)=>2
 |some (.func ..)=>3
 |some .bool=>4
 |some (.int _)=>0
 |some .string=>0
 |_=>9
def J6(t:TypeId):Option (Nat × List Value × Nat):=match B2 P t with
 |some et=>(match P.info? et,Cw P et with
  |some i,some z=>if z.cells.size=i.size/\0<i.size then some (i.size,z.cells.toList,i.bytes) else none
  |_,_=>none)
 |none=>none
def Sj(ents:Nat)(o:Op):MO:=match o with
 |.move x=>.mv x
 |.assign x=>.mv x
 |.pick c a b=>.pick c a b
 |.alloc t=>(match Cw P t with
  |some z=>.alloc z.cells.toList
  |none=>.bad)
 |.box _ x=>.box x
 |.build t ps=>(match Cw P t,Cj P t with
  |some z,some fs=>(match He P fs.toList with
   |some pl=>.buildS z.cells.toList pl ps.toList
   |none=>.bad)
  |some z,none=>(match LF P t with
   |some et=>(match C7 P et with
    |some e=>.buildR z.cells.toList e ps.toList
    |none=>.bad)
   |none=>.bad)
  |_,_=>.bad)
 |.buildSlice t n ps=>(match B2 P t with
  |some et=>(match C7 P et,Cw P et with
   |some e,some z=>.buildSl z.cells.toList e n ps.toList
   |_,_=>.bad)
  |none=>.bad)
 |.load t a=>(match B0 P t,C7 P t with
  |some true,some n=>.ld true n a
  |some false,_=>.ld false 0 a
  |_,_=>.bad)
 |.store t a x=>(match C7 P t with
  |some n=>.st n a x
  |none=>.bad)
 |.nilCheck x=>.nilck x
 |.binOp b t x y _=>(match eqS P t with
  |some ks=>(match b with
   |.eql=>.eqs false ks x y
   |.neq=>.eqs true ks x y
   |_=>.bad)
  |none=>(match Fs P t with
   |9=>.bad
   |k=>.bin k b x y))
 |.unOp .not _ x=>.not x
 |.unOp .neg _ x=>.neg x
 |.makeFunc f a c=>.mkfn f a.toList c.toList
 |.slice t x lo hi none=>(match B2 P t with
  |some et=>(match C7 P et with
   |some e=>.slice e x lo hi
   |none=>.bad)
  |none=>if BQ P t then .sslice x lo hi else .bad)
 |.fieldAddr t a f=>(match Cj P t with
  |some fs=>(match fs[f]? with
   |some fd=>(match C7 P fd.type with
    |some (_+1)=>.faddr fd.offset a
    |_=>.bad)
   |none=>.bad)
  |none=>.bad)
 |.field t x f=>(match Cj P t with
  |some fs=>(match fs[f]? with
   |some fd=>(match B0 P fd.type,C7 P fd.type with
    |some true,some n=>.field true fd.offset n x
    |some false,_=>.field false fd.offset 0 x
    |_,_=>.bad)
   |none=>.bad)
  |none=>.bad)
 |.indexAddr t x i=>(match B2 P t,Nu P t with
  |some et,_=>(match C7 P et with
   |some e=>.iaddr e x i
   |none=>.bad)
  |none,some (n,et)=>(match C7 P et with
   |some e=>.aaddr n e x i
   |none=>.bad)
  |_,_=>.bad)
 |.index t x i=>(match Nu P t with
  |some (n,et)=>(match C7 P et,B0 P et with
   |some e,some true=>.index n e true e x i
   |some e,some false=>.index n e false 0 x i
   |_,_=>.bad)
  |none=>if BQ P t then .sidx x i else .bad)
 |.convert s d x=>(match P.underlying s,P.underlying d with
  |some (.int _),some (.int k)=>.iconv k x
  |_,_=>(match C9 P s,BQ P d with
   |true,true=>.str x
   |_,_=>.bad))
 |.extract x i=>.ext x i
 |.makeSlice t l c=>(match J6 P t with
  |some (e,z,by')=>.mksl z e by' l c
  |none=>.bad)
 |.call c=>(match c.callee with
  |.builtin .append=>(match c.args.toList,c.argTypes.toList with
   |[s,x],[t,u]=>(match J6 P t,CD P u with
    |some (e,_,by'),true=>.app e by' s x
    |some (e,z,by'),false=>(match JB P u with
     |true=>.appz z e by' s x
     |false=>.bad)
    |_,_=>.bad)
   |_,_=>.bad)
  |.builtin .copy=>(match c.args.toList,c.argTypes.toList with
   |[d,x],[t,u]=>(match B2 P t,CD P u with
    |some et,true=>(match C7 P et with
     |some e=>.cpy e d x
     |none=>.bad)
    |_,_=>.bad)
   |_,_=>.bad)
  |.builtin .clear=>(match c.args.toList,c.argTypes.toList with
   |[x],[t]=>(match B2 P t with
    |some et=>(match C7 P et,Cw P et with
     |some e,some z=>if z.cells.size=e/\0<e/\(z.cells.toList.map AV.v).all AV.one=true then .clr z.cells.toList e x else .bad
     |_,_=>.bad)
    |none=>.bad)
   |_,_=>.bad)
  |.builtin .len=>(match c.args.toList,c.argTypes.toList with
   |[x],[t]=>if CD P t then .len true x else if BQ P t then .len false x else .bad
   |_,_=>.bad)
  |.builtin .max=>(match c.args.toList with
   |[x,y]=>.mx x y
   |_=>.bad)
  |.builtin .min=>(match c.args.toList with
   |[x,y]=>.mn x y
   |_=>.bad)
  |.builtin _=>.bad
  |.value f=>(match f with
   |.func g=>if Fo P g then .callF g c.args.toList else .bad
   |_=>.callV ents f c.args.toList)
  |.invoke ..=>.bad)
 |_=>.bad
def W1(ops:Array Oper)(g:Option (Nat × Bool)):Option (Option (Nat × Bool)):=match g with
 |none=>some none
 |some (j,want)=>match (ops[j]?).bind (·.dst) with
  |some d=>some (some (d,want))
  |none=>none
def Ho(ents:Nat)(ops:Array Oper)(o:Oper):MOp:=match W1 ops o.guard with
 |some g=>⟨o.dst,Sj P ents o.op,g⟩
 |none=>⟨o.dst,.bad,none⟩
abbrev AB:=List LpH
def Bv(ents:Nat)(hs:AB):Code->Nat->MC × List (LpH × MC)
 |.skip,_=>(.skip,[])
 |.region _ ops d,_=>(.reg (ops.toList.map (Ho P ents ops)) (if d then some (P5 ops) else none),[])
 |.seq a b,n=>match Bv ents hs a n with
  |(ma,la)=>match Bv ents hs b (n+la.length) with
   |(mb,lb)=>(.seq ma mb,la++lb)
 |.cond c a b,n=>match Bv ents hs a n with
  |(ma,la)=>match Bv ents hs b (n+la.length) with
   |(mb,lb)=>(.cond c ma mb,la++lb)
 |.block id c,n=>match Bv ents hs c n with
  |(mc,lc)=>(.block id mc,lc)
 |.loop c,n=>match Bv ents hs c (n+1),hs[n]? with
  |(mc,lc),some h=>(.loop n h,(h,mc)::lc)
  |(mc,lc),none=>(.bad,(⟨0,[],[],[],[]⟩,mc)::lc)
 |.exit id,_=>(.exit id,[])
 |.ret,_=>(.ret,[])
 |_,_=>(.bad,[])
def Hp(rs:List ResultVar):List MRes:=rs.map λr=>match r with
 |.tmp t=>.tmp t
 |.cell t ty=>match B0 P ty,C7 P ty with
  |some true,some n=>.cell t true n
  |some false,_=>.cell t false 0
  |_,_=>.tmp 1000000
end
section
variable {P:Program}
@[simp] theorem Cc{α:Type}(a:α):Ay P (pure a:Sem α)=some a:=rfl
@[simp] theorem Z5{α:Type}(a:α):Ay P (Sem.pure a:Sem α)=some a:=rfl
theorem Hs{α β:Type}(k:α->Sem β):∀(s:Sem α),Ay P (s.bind k)=(Ay P s).bind λa=>Ay P (k a)
 |.pure a=>rfl
 |.program f=>by simp only[Sem.bind,Ay];exact Hs k (f P)
 |.load ..=>rfl
 |.store ..=>rfl
 |.new ..=>rfl
 |.shape ..=>rfl
 |.freeze ..=>rfl
 |.frozen ..=>rfl
 |.getObj ..=>rfl
 |.setObj ..=>rfl
 |.choose ..=>rfl
 |.sys ..=>rfl
 |.mark ..=>rfl
 |.halt ..=>rfl
@[simp] theorem At{α β:Type}(s:Sem α)(k:α->Sem β):Ay P (s >>= k)=(Ay P s).bind λa=>Ay P (k a):=Hs k s
@[simp] theorem K5:Ay P program=some P:=rfl
theorem AP{t:TypeId}{d:TypeDesc}(h:P.underlying t=some d):Ay P (underlying t)=some d:=by
 unfold underlying;simp[h]
theorem MH{t:TypeId}(h:Fs P t=1):∃ e,P.underlying t=some (.pointer e):=by
 unfold Fs at h;split at h<;>first|exact⟨_,‹_›⟩|cases h
theorem TV{t:TypeId}(h:Fs P t=2):∃ e,P.underlying t=some (.slice e):=by
 unfold Fs at h;split at h<;>first|exact⟨_,‹_›⟩|cases h
theorem TU{t:TypeId}(h:Fs P t=3):∃ a b c,P.underlying t=some (.func a b c):=by
 unfold Fs at h;split at h<;>first|exact⟨_,_,_,‹_›⟩|cases h
theorem Vt{t:TypeId}(h:Fs P t=4):P.underlying t=some .bool:=by
 unfold Fs at h;split at h<;>first|assumption|cases h
theorem NZ{o:Oper}{b:BinOp}{t yt:TypeId}{x y:Operand}(ho:o.op=.binOp b t x y yt){ρ:Operand->AV}{u v z:Value}(hx:(ρ x).toVal=some u)(hy:(ρ y).toVal=some v)
  (h:Ay P (do eqGuard b t x y u v;binOp b t u v)=some z):Ck P o ρ=some (Ed z):=by
 have e1:BR ρ x=u:=by unfold BR;rw[hx];rfl
 have e2:BR ρ y=v:=by unfold BR;rw[hy];rfl
 have c:(BX o.op&&o.op.operands.toList.all λx=>(ρ x).toVal.isSome)=true:=by
  rw[ho];simp[BX,Op.operands,hx,hy]
 unfold Ck;rw[if_pos c];have:Ay P (execOp (BR ρ) o)=some (.value z):=by
  unfold execOp;rw[ho];simp only[e1,e2];rw[At,h];rfl
 rw[this];rfl
theorem Mg{o:Oper}{b:BinOp}{t yt:TypeId}{x y:Operand}(ho:o.op=.binOp b t x y yt){ρ:Operand->AV}{u v z:Value}(hx:ρ x=.v u)(hy:ρ y=.v v)
  (h:Ay P (do eqGuard b t x y u v;binOp b t u v)=some z):Ck P o ρ=some (Ed z):=NZ ho (by rw[hx];rfl) (by rw[hy];rfl) h
theorem XS{o:Oper}{t:TypeId}{x:Operand}(ho:o.op=.unOp .not t x){ρ:Operand->AV}{c:Bool}(hx:ρ x=.v (.bool c)):Ck P o ρ=some (.v (.bool !c)):=by
 have e1:BR ρ x=.bool c:=by unfold BR;rw[hx];rfl
 have cc:(BX o.op&&o.op.operands.toList.all λx=>(ρ x).toVal.isSome)=true:=by
  rw[ho];simp[BX,Op.operands,hx,AV.toVal]
 unfold Ck;rw[if_pos cc];have:Ay P (execOp (BR ρ) o)=some (.value (.bool !c)):=by
  unfold execOp;rw[ho];simp only[e1];rw[At];rfl
 rw[this];rfl
theorem XR{o:Oper}{t:TypeId}{x:Operand}(ho:o.op=.unOp .neg t x){ρ:Operand->AV}{k:IntKind}{n:Int}(hx:ρ x=.v (.int k n)):Ck P o ρ=some (.v (.int k (Ag.sub k 0 n))):=by
 have e1:BR ρ x=.int k n:=by unfold BR;rw[hx];rfl
 have cc:(BX o.op&&o.op.operands.toList.all λx=>(ρ x).toVal.isSome)=true:=by
  rw[ho];simp[BX,Op.operands,hx,AV.toVal]
 unfold Ck;rw[if_pos cc];have:Ay P (execOp (BR ρ) o)=some (.value (.int k (Ag.sub k 0 n))):=by
  unfold execOp;rw[ho];simp only[e1];rw[At];rfl
 rw[this];rfl
theorem Vl{b:BinOp}{t:TypeId}{x y:Operand}{k k':IntKind}{a c:Int}:Ay P (eqGuard b t x y (.int k a) (.int k' c))=some ():=by
 unfold eqGuard
 cases b<;>simp
theorem Vm{b:BinOp}{t:TypeId}{x y:Operand}{a c:ByteArray}:Ay P (eqGuard b t x y (.string a) (.string c))=some ():=by
 unfold eqGuard
 cases b<;>simp
theorem AaL{o:Oper}{b:BinOp}{t yt:TypeId}{x y:Operand}(ho:o.op=.binOp b t x y yt){ρ:Operand->AV}{k k':IntKind}{a c:Int}(hx:ρ x=.v (.int k a))(hy:ρ y=.v (.int k' c)){z:Value}(hz:Ay P (binOp b t (.int k a) (.int k' c))=some z):Ck P o ρ=some (Ed z):=
 Mg ho hx hy (by rw[At,Vl];exact hz)
theorem U1{o:Oper}{b:BinOp}{t yt:TypeId}{x y:Operand}(ho:o.op=.binOp b t x y yt){ρ:Operand->AV}{r:AV}(h:IA Ag b (ρ x) (ρ y)=some r):Ck P o ρ=some r/\E3 P t (ρ x) (ρ y)=false:=by
 unfold IA at h;split at h
 .rename_i k a k' c hx hy
  refine⟨?_,by rw[hx,hy];rfl⟩;have key:∀ z,Ay P (binOp b t (.int k a) (.int k' c))=some z->Ck P o ρ=some (Ed z):=λz hz=>AaL ho hx hy hz
  have shf:∀{op:BinOp} {v:Value},¬ c<0->(∀ n,n=Ap7 c.toNat k.bits->Ay P (match op with
    |.shl=>(pure (.int k (k.wrap (a*2 ^ n))):Sem Value)
    |.shr=>pure (.int k (a.fdiv (2 ^ n)))
    |_=>stuck "shift: << >> expected")=some v)->Ay P (Op.shift op k a k' c)=some v:=λ{op v} hc hv=>by
   unfold Op.shift;rw[if_neg hc];exact hv _ rfl
  have div:∀{op:BinOp} {v:Value},¬ c=0->Ay P (match op with
    |.quo=>(pure (.int k (k.wrap (a.tdiv c))):Sem Value)
    |.rem=>pure (.int k (a.tmod c))
    |_=>stuck "intDiv: / % expected")=some v->Ay P (Op.intDiv op k a c)=some v:=λ{op v} hc hv=>by
   unfold Op.intDiv;rw[if_neg hc];exact hv
  cases b with
  |shl=>
   simp only at h
   cases e:Ag.lt c 0 with
   |true=>rw[e]at h;cases h
   |false=>
    rw[e]at h;simp only[δ]at h;subst h;have hc:¬ c<0:=of_decide_eq_false e;exact key (.int k (Ag.shl k a c)) (by
     show Ay P (Op.shift .shl k a k' c)=_
     exact shf hc λn hn=>by rw[hn];rfl)
  |shr=>
   simp only at h
   cases e:Ag.lt c 0 with
   |true=>rw[e]at h;cases h
   |false=>
    rw[e]at h;simp only[δ]at h;subst h;have hc:¬ c<0:=of_decide_eq_false e;exact key (.int k (Ag.shr k a c)) (by
     show Ay P (Op.shift .shr k a k' c)=_
     exact shf hc λn hn=>by rw[hn];rfl)
  |_=>
   simp only at h;split at h
   .rename_i hk
    subst hk
    try simp only[δ,reduceCtorEq]at h
    first
     | (subst h
        first
         |exact key (.int k (k.wrap (a+c))) (by simp[binOp,Op.intArith])
         |exact key (.int k (k.wrap (a-c))) (by simp[binOp,Op.intArith])
         |exact key (.int k (k.wrap (a*c))) (by simp[binOp,Op.intArith])
         |exact key (.int k (Ag.bits .and k a c)) (by simp[binOp,Op.intBits,Ag,FS,Ar.bits,Qa])
         |exact key (.int k (Ag.bits .or k a c)) (by simp[binOp,Op.intBits,Ag,FS,Ar.bits,Qa])
         |exact key (.int k (Ag.bits .xor k a c)) (by simp[binOp,Op.intBits,Ag,FS,Ar.bits,Qa])
         |exact key (.int k (Ag.bits .andNot k a c)) (by simp[binOp,Op.intBits,Ag,FS,Ar.bits,Qa])
         |exact key (.bool (a == c)) (by simp[binOp,Op.intCmp])
         |exact key (.bool (a != c)) (by simp[binOp,Op.intCmp])
         |exact key (.bool (decide (a<c))) (by simp[binOp,Op.intCmp])
         |exact key (.bool (decide (a<=c))) (by simp[binOp,Op.intCmp])
         |exact key (.bool (decide (c<a))) (by simp[binOp,Op.intCmp])
         |exact key (.bool (decide (c<=a))) (by simp[binOp,Op.intCmp]))
     | (cases e:Ag.eq c 0 with
        |true=>rw[e]at h;cases h
        |false=>
         rw[e]at h;simp only[δ]at h;subst h;have hc:¬ c=0:=λe0=>by subst e0;exact absurd e (by simp[Ag,FS,Ar.eq])
         first
          |exact key (.int k (Ag.quo k a c)) (by
            have:binOp .quo t (.int k a) (.int k c)=Op.intDiv .quo k a c:=by simp[binOp]
            rw[this];exact div hc rfl)
          |exact key (.int k (Ag.rem k a c)) (by
            have:binOp .rem t (.int k a) (.int k c)=Op.intDiv .rem k a c:=by simp[binOp]
            rw[this];exact div hc rfl))
   .cases h
 .rename_i a c hx hy
  refine⟨?_,by rw[hx,hy];rfl⟩;have key:∀ z,Ay P (binOp b t (.string a) (.string c))=some z->Ck P o ρ=some (Ed z):=λz hz=>Mg ho hx hy (by rw[At,Vm];exact hz)
  cases b with
  |add=>
   simp only at h
   cases e:Apa (Ag.slen a+Ag.slen c) 9223372036854775807 with
   |false=>rw[e]at h;cases h
   |true=>
    rw[e]at h;simp only[δ]at h;subst h;have e1:a.size+c.size<=9223372036854775807:=Nat.le_of_ble_eq_true e;refine key (.string (a++c)) ?_;simp only[binOp,Op.stringOp];rw[if_neg (by
     have:IntKind.i64.max=9223372036854775807:=by decide
     rw[this];omega)]
    rfl
  |eql=>simp only[δ]at h;subst h;exact key (.bool (a.toList == c.toList)) (by simp[binOp,Op.stringOp])
  |neq=>simp only[δ]at h;subst h;exact key (.bool !(a.toList == c.toList)) (by simp[binOp,Op.stringOp])
  |lss=>simp only[δ]at h;subst h;exact key (.bool (Op.bytesLess a.toList c.toList)) (by simp[binOp,Op.stringOp])
  |geq=>simp only[δ]at h;subst h;exact key (.bool !(Op.bytesLess a.toList c.toList)) (by simp[binOp,Op.stringOp])
  |_=>cases h
 .cases h
def U0(P:Program)(o:Oper)(b:BinOp)(t:TypeId)(x y:Operand)(ρ:Operand->AV):AM AV:=if E3 P t (ρ x) (ρ y)=true then(match b with
   |.eql=>AM.ret (.v (.bool false))
   |.neq=>AM.ret (.v (.bool true))
   |_=>AM.fail) else AM.opt (Ck P o ρ)
theorem Aa4{t:TypeId}{x y:Operand}{u v:Value}(hu:∀ us vs,¬ (u=.agg us/\v=.agg vs))(hn:u≠.nilIface){b:BinOp}:Ay P (eqGuard b t x y u v)=some ():=by
 have key:Ay P (match u,v with
  |.nilIface,.nilIface=>do
   if(x matches .const _)||(y matches .const _) then return
   if ←Op.eqGuardIn Op.maxDepth t u v then unsupported (.noEntry "binop/eql: two nil values of an interface type with methods, neither of them the literal nil")
  |.agg _,.agg _=>do
   if !(←program).eqGuardType (←program).depth t then return
   if ←Op.eqGuardIn Op.maxDepth t u v then unsupported (.noEntry "binop/eql: two nil values of an interface type with methods, in a part of a struct or an array")
  |_,_=>pure ())=some ():=by
  split
  .exact absurd rfl hn
  .exact absurd ⟨rfl,rfl⟩ (hu _ _)
  .rfl
 unfold eqGuard
 cases b<;>first
  |rfl
  |exact key
theorem O6{o:Oper}{b:BinOp}{t yt:TypeId}{x y:Operand}(ho:o.op=.binOp b t x y yt){ρ:Operand->AV}{u v:Value}{c:Bool}(hx:ρ x=.v u)(hy:ρ y=.v v)
  (hu:∀ us vs,¬ (u=.agg us/\v=.agg vs)) (hn:u≠.nilIface) (hi:∀ k a k' c,¬ (u=.int k a/\v=.int k' c)) (hfl:∀ k a,u≠.float k a) (hc:∀ k a c,u≠.complex k a c) (hs:∀ a,u≠.string a)
  (h:Ay P (Op.equal t u v)=some c) (hb:b=.eql\/b=.neq):Ck P o ρ=some (.v (.bool (if b=.eql then c else !c))):=by
 have:Ck P o ρ=some (Ed (.bool (if b=.eql then c else !c))):=by
  refine Mg ho hx hy ?_;rw[At,Aa4 hu hn];rcases hb with rfl|rfl
  .cases u<;>first
    |(exfalso;first|exact hfl _ _ rfl|exact hc _ _ _ rfl|exact hs _ rfl)
    |(cases v<;>first
      |(exfalso;exact hi _ _ _ _ ⟨rfl,rfl⟩)
      |(simp only[ApH,Go.binOp,At,h,Cc];rfl))
  .cases u<;>first
    |(exfalso;first|exact hfl _ _ rfl|exact hc _ _ _ rfl|exact hs _ rfl)
    |(cases v<;>first
      |(exfalso;exact hi _ _ _ _ ⟨rfl,rfl⟩)
      |(simp only[ApH,Go.binOp,At,h,Cc];rfl))
 exact this
theorem Vd{t:TypeId}(hu:P.underlying t=some .bool)(d:Nat)(a c:Bool):Ay P (Op.equalIn (d+1) t (.bool a) (.bool c))=some (a == c):=by
 unfold Op.equalIn;rw[At,AP hu];rfl
theorem XL{t e:TypeId}(hu:P.underlying t=some (.pointer e))(d:Nat):Ay P (Op.equalIn (d+1) t (.pointer none) (.pointer none))=some true:=by
 unfold Op.equalIn;rw[At,AP hu];rfl
theorem Aa3{t e:TypeId}(hu:P.underlying t=some (.slice e))(d:Nat):Ay P (Op.equalIn (d+1) t (.slice none 0 0) (.slice none 0 0))=some true:=by
 unfold Op.equalIn;rw[At,AP hu];rfl
theorem Aa2{t:TypeId}{a b:Array TypeId}{c:Bool}(hu:P.underlying t=some (.func a b c))(d:Nat):Ay P (Op.equalIn (d+1) t .nilFunc .nilFunc)=some true:=by
 unfold Op.equalIn;rw[At,AP hu];rfl
theorem Qs{o:Oper}{b:BinOp}{t yt:TypeId}{x y:Operand}(ho:o.op=.binOp b t x y yt){ρ:Operand->AV}{ek:Nat}(hk:Fs P t=ek){c:Bool}(h:eqM Ag ek (ρ x) (ρ y)=some c)(hb:b=.eql\/b=.neq) :
  U0 P o b t x y ρ=AM.ret (.v (.bool (if b=.eql then c else !c))):=by
 unfold eqM at h;unfold U0;split at h<;>simp only[δ,reduceCtorEq]at h<;>try subst h
 .-- bool
  rename_i a c hx hy;have hu:=Vt hk;rw[if_neg (by rw[hx,hy];simp[E3])];have:Ay P (Op.equal t (.bool a) (.bool c))=some (a == c):=Vd hu 9999 a c;rw[O6 ho hx hy (by simp) (by simp) (by simp) (by simp) (by simp) (by simp) this hb];rfl
 .rename_i hx hy
  obtain⟨e,hu⟩:=MH hk;rw[if_pos (by rw[hx,hy];simp[E3,hu])];rcases hb with rfl|rfl<;>rfl
 .rename_i hx hy
  obtain⟨e,hu⟩:=MH hk;rw[if_pos (by rw[hx,hy];simp[E3,hu])];rcases hb with rfl|rfl<;>rfl
 .rename_i hx hy
  obtain⟨e,hu⟩:=MH hk;rw[if_neg (by rw[hx,hy];simp[E3])];have:Ay P (Op.equal t (.pointer none) (.pointer none))=some true:=XL hu 9999;rw[O6 ho hx hy (by simp) (by simp) (by simp) (by simp) (by simp) (by simp) this hb];rfl
 .rename_i hx hy
  obtain⟨e,hu⟩:=TV hk;rw[if_pos (by rw[hx,hy];simp[E3,hu])];rcases hb with rfl|rfl<;>rfl
 .rename_i hx hy
  obtain⟨e,hu⟩:=TV hk;rw[if_neg (by rw[hx,hy];simp[E3])];have:Ay P (Op.equal t (.slice none 0 0) (.slice none 0 0))=some true:=Aa3 hu 9999;rw[O6 ho hx hy (by simp) (by simp) (by simp) (by simp) (by simp) (by simp) this hb];rfl
 .rename_i hx hy
  obtain⟨e,e2,e3,hu⟩:=TU hk;rw[if_pos (by rw[hx,hy];simp[E3,hu])];rcases hb with rfl|rfl<;>rfl
 .rename_i hx hy
  obtain⟨e,e2,e3,hu⟩:=TU hk;rw[if_neg (by rw[hx,hy];simp[E3])];have:Ay P (Op.equal t .nilFunc .nilFunc)=some true:=Aa2 hu 9999;rw[O6 ho hx hy (by simp) (by simp) (by simp) (by simp) (by simp) (by simp) this hb];rfl
def HP:Nat->Value->Value->Option Bool
 |1,.bool a,.bool b=>some (a == b)
 |0,.int k a,.int k' b=>if k=k' then some (a == b) else none
 |2,.string a,.string b=>some (a == b)
 |_,_,_=>none
def Dy:List Nat->List Value->List Value->Option Bool
 |[],[],[]=>some true
 |k::ks,u::us,v::vs=>(match HP k u v,Dy ks us vs with
  |some a,some b=>some (a&&b)
  |_,_=>none)
 |_,_,_=>none
theorem G5(a b:ByteArray):(a == b)=(a.data == b.data):=by
 cases a;cases b;rfl
theorem Qe(a b:ByteArray):(a.toList == b.toList)=(a == b):=by
 rw[Go.ByteArray.toList_eq,Go.ByteArray.toList_eq,G5];simp
theorem IG:∀{ks:List Nat} {xs ys:List AV} {c:Bool},XM Ag ks xs ys=some c->∃ us vs,Gf xs=some us/\Gf ys=some vs/\Dy ks us vs=some c
 |[],[],[],c,h=>by simp only[XM,δ]at h;subst h;exact⟨[],[],rfl,rfl,rfl⟩
 |ks,xs,ys,c,h=>by
  unfold XM at h;split at h
  .simp only[δ]at h;subst h;exact⟨[],[],rfl,rfl,rfl⟩
  .rename_i ks a r b q
   cases e:XM Ag ks r q with
   |none=>rw[e]at h;cases h
   |some t=>
    rw[e]at h;simp only[δ]at h;subst h;obtain⟨us,vs,h1,h2,h3⟩:=IG e;exact⟨.bool a::us,.bool b::vs,by simp only[Gf,h1],by simp only[Gf,h2],by simp only[Dy,HP,h3];rfl⟩
  .rename_i ks k a r k' b q
   split at h
   .rename_i hk
    cases e:XM Ag ks r q with
    |none=>rw[e]at h;cases h
    |some t=>
     rw[e]at h;simp only[δ]at h;subst h;obtain⟨us,vs,h1,h2,h3⟩:=IG e;exact⟨.int k a::us,.int k' b::vs,by simp only[Gf,h1],by simp only[Gf,h2],by simp only[Dy,HP,h3,if_pos hk];rfl⟩
   .cases h
  .rename_i ks a r b q
   cases e:XM Ag ks r q with
   |none=>rw[e]at h;cases h
   |some t=>
    rw[e]at h;simp only[δ]at h;subst h;obtain⟨us,vs,h1,h2,h3⟩:=IG e;refine⟨.string a::us,.string b::vs,by simp only[Gf,h1],by simp only[Gf,h2],?_⟩;simp only[Dy,HP,h3]
    show some ((a == b)&&t)=some ((a.toList == b.toList)&&t)
    rw[Qe]
  .cases h
theorem Ve{t:TypeId}{k:Nat}(hk:PE P t=some k){u v:Value}{c:Bool}(h:HP k u v=some c)(d:Nat):Ay P (Op.equalIn (d+1) t u v)=some c:=by
 unfold HP at h;unfold PE at hk;split at h
 .simp only[δ]at h
  subst h;split at hk<;>simp only[δ,reduceCtorEq]at hk<;>try (exact absurd hk (by decide))
  rename_i hu;unfold Op.equalIn;rw[At,AP hu];rfl
 .split at h
  .rename_i ek
   simp only[δ]at h;subst h;split at hk<;>simp only[δ,reduceCtorEq]at hk<;>try (exact absurd hk (by decide))
   rename_i hu;unfold Op.equalIn;rw[At,AP hu];simp only[ApH,ek,if_true];rfl
  .cases h
 .simp only[δ]at h
  subst h;split at hk<;>simp only[δ,reduceCtorEq]at hk<;>try (exact absurd hk (by decide))
  rename_i hu;unfold Op.equalIn;rw[At,AP hu];rfl
 .cases h
theorem Oh{t:TypeId}(h:B0 P t=some false){cs:Array Value}{n:Nat}{u:Value}(hu:cs[n]? = some u):Ay P (part t cs n)=some u:=by
 unfold part;have:Ay P (isAgg t)=some false:=by
  unfold isAgg;unfold B0 at h
  cases e:P.underlying t with
  |none=>rw[e]at h;cases h
  |some d=>
   rw[e]at h;simp only[ApG,δ]at h;rw[At,AP e]
   cases d<;>first | (simp[Yh]at h;done) | rfl
 rw[At,this];simp[hu]
theorem Jr{o:Oper}{ρ:Operand->AV}{z:Value}(hn:BX o.op=true)(ha:(o.op.operands.toList.all λx=>(ρ x).toVal.isSome)=true)(h:Ay P (execOp (BR ρ) o)=some (.value z)):Ck P o ρ=some (Ed z):=by
 unfold Ck;rw[if_pos (by rw[hn,ha];rfl),h];rfl
theorem E7{ρ:Operand->AV}{x:Operand}{u:Value}(h:ρ x=.v u):BR ρ x=u:=by unfold BR;rw[h];rfl
theorem IF{xs ys:Array Value}(d:Nat):∀(fs:List Field) (n:Nat) {ks:List Nat} {us vs:List Value} {c:Bool},NW P fs n=some ks->Dy ks us vs=some c->(∀(i:Nat) u,us[i]? = some u->xs[n+i]? = some u)->(∀(i:Nat) u,vs[i]? = some u->ys[n+i]? = some u)->Ay P (Op.eqFields (d+1) xs ys fs)=some c
 |[],n,ks,us,vs,c,hf,hc,hx,hy=>by
  simp only[NW,δ]at hf;subst hf
  cases us<;>cases vs<;>simp only[Dy,δ,reduceCtorEq]at hc
  subst hc;rfl
 |f::r,n,ks,us,vs,c,hf,hc,hx,hy=>by
  simp only[NW]at hf;split at hf
  .rename_i h1
   simp only[Ape,beq_iff_eq,bne_iff_ne]at h1;obtain⟨⟨h1,h2⟩,h3⟩:=h1
   cases e1:PE P f.type with
   |none=>rw[e1]at hf;cases hf
   |some k=>
    cases e2:NW P r (n+1) with
    |none=>rw[e1,e2]at hf;cases hf
    |some ks'=>
     rw[e1,e2]at hf;simp only[δ]at hf;subst hf
     cases us with
     |nil=>simp[Dy]at hc
     |cons u us=>
      cases vs with
      |nil=>simp[Dy]at hc
      |cons v vs=>
       simp only[Dy]at hc
       cases e3:HP k u v with
       |none=>rw[e3]at hc;cases hc
       |some a=>
        cases e4:Dy ks' us vs with
        |none=>rw[e3,e4]at hc;cases hc
        |some b=>
         rw[e3,e4]at hc;simp only[δ]at hc;subst hc;have ih:=IF d r (n+1) e2 e4 (λi u hi=>by have:=hx (i+1) u (by simpa using hi);rwa [show n+1+i=n+(i+1) by omega]) (λi u hi=>by have:=hy (i+1) u (by simpa using hi);rwa [show n+1+i=n+(i+1) by omega]);unfold Op.eqFields;rw[if_pos h2,h1,At,Oh h3 (show xs[n]? = some u from hx 0 u rfl)];simp only[ApH];rw[At,Oh h3 (show ys[n]? = some v from hy 0 v rfl)];simp only[ApH];rw[At,Ve e1 e3 d];simp only[ApH]
         cases a with
         |true=>simpa using ih
         |false=>simp
  .cases hf
theorem Qr{t:TypeId}{fs:Array Field}(ht:P.underlying t=some (.struct fs))(hp:P.stoodInHeld t=false)(d:Nat)(xs ys:Array Value):Ay P (Op.equalIn (d+1) t (.agg xs) (.agg ys))=Ay P (Op.eqFields d xs ys fs.toList):=by
 unfold Op.equalIn;rw[At,AP ht];simp only[ApH,At,K5,hp,Aqw,if_false];rw[←Array.forIn_toList];generalize fs.toList=l;clear ht
 induction l with
 |nil=>simp[Op.eqFields]
 |cons f fs ih=>
  simp only[List.forIn_cons,Op.eqFields];split
  .simp only[At]
   cases Ay P (part f.type xs f.offset) with
   |none=>rfl
   |some a=>
    simp only[ApH,At]
    cases Ay P (part f.type ys f.offset) with
    |none=>rfl
    |some b=>
     simp only[ApH,At]
     cases Ay P (Op.equalIn d f.type a b) with
     |none=>rfl
     |some r=>
      cases r
      .simp
      .simpa using ih
  .simpa using ih
theorem NV{o:Oper}{b:BinOp}{t yt:TypeId}{x y:Operand}(ho:o.op=.binOp b t x y yt){ρ:Operand->AV}{ks:List Nat}(hk:eqS P t=some ks){r:AV}{neg:Bool}(hb:b=if neg then .neq else .eql)(h:AhB Ag neg ks (ρ x) (ρ y)=some r):U0 P o b t x y ρ=AM.ret r:=by
 unfold AhB at h;split at h
 .rename_i xs ys ex ey
  cases e:XM Ag ks xs ys with
  |none=>rw[e]at h;cases h
  |some c=>
   rw[e]at h;obtain⟨us,vs,h1,h2,h3⟩:=IG e;unfold eqS at hk;split at hk
   .rename_i fs hu
    split at hk
    .rename_i hc
     simp only[Ape,Bool.not_eq_true']at hc;have key:Ay P (Op.equalIn 10000 t (.agg us.toArray) (.agg vs.toArray))=some c:=by
      rw[Qr hu hc.1 9999];exact IF 9998 fs.toList 0 hk h3 (λi u hi=>by rw[Apy];simpa using hi) (λi u hi=>by rw[Apy];simpa using hi)
     have g:Ck P o ρ=some (Ed (.bool (if neg then !c else c))):=by
      refine NZ ho (u:=.agg us.toArray) (v:=.agg vs.toArray) (by rw[ex];simp only[AV.toVal,h1]) (by rw[ey];simp only[AV.toVal,h2]) ?_;have g1:Ay P (eqGuard b t x y (.agg us.toArray) (.agg vs.toArray))=some ():=by
       unfold eqGuard;rw[hb]
       cases neg<;>simp[hc.2]
      rw[At,g1];simp only[ApH];rw[hb]
      cases neg
      .show Ay P (binOp .eql t (.agg us.toArray) (.agg vs.toArray))=_
       have:binOp .eql t (.agg us.toArray) (.agg vs.toArray)=(do let r ←Op.equalIn 10000 t (.agg us.toArray) (.agg vs.toArray);pure (.bool r)):=rfl;rw[this,At,key];rfl
      .show Ay P (binOp .neq t (.agg us.toArray) (.agg vs.toArray))=_
       have:binOp .neq t (.agg us.toArray) (.agg vs.toArray)=(do let r ←Op.equalIn 10000 t (.agg us.toArray) (.agg vs.toArray);pure (.bool !r)):=rfl;rw[this,At,key];rfl
     unfold U0;rw[if_neg (by rw[ex,ey];simp[E3]),g]
     cases neg<;>(simp only[δ]at h;rw[←h];rfl)
    .cases hk
   .cases hk
 .cases h
theorem Va{o:Oper}{b:BinOp}{t yt:TypeId}{x y:Operand}(ho:o.op=.binOp b t x y yt){ρ:Operand->AV}{r:AV}(h:AaU Ag (Fs P t) b (ρ x) (ρ y)=some r):U0 P o b t x y ρ=AM.ret r:=by
 unfold AaU at h;split at h
 .obtain⟨h1,h2⟩:=U1 (P:=P) ho h
  unfold U0;rw[if_neg (by rw[h2];simp),h1];rfl
 .rename_i hk
  cases e:eqM Ag (Fs P t) (ρ x) (ρ y) with
  |none=>rw[e]at h;cases h
  |some c=>
   rw[e]at h;simp only[ApG,δ]at h;subst h;rw[Qs ho rfl e (.inl rfl)];rfl
 .cases e:eqM Ag (Fs P t) (ρ x) (ρ y) with
  |none=>rw[e]at h;cases h
  |some c=>
   rw[e]at h;simp only[ApG,δ]at h;subst h;rw[Qs ho rfl e (.inr rfl)];rfl
 .cases h
end
def Le{α:Type}(m m':AM α):Prop:=∀ H r,m H=some r->m' H=some r
section
variable {α β:Type}
theorem Le.refl(m:AM α):Le m m:=λ_ _ h=>h
theorem Le.fail(m:AM α):Le AM.fail m:=λ_ _ h=>by cases h
theorem Le.bind{m m':AM α}{f f':α->AM β}(h:Le m m')(k:∀ a,Le (f a) (f' a)):Le (m.bind f) (m'.bind f'):=λH r e=>by
 unfold AM.bind at e ⊢;rcases e1:m H with _|⟨a,H1,f1⟩<;>rw[e1]at e
 .cases e
 simp only at e;rcases e2:f a H1 with _|⟨b,H2,f2⟩<;>rw[e2]at e
 .cases e
 simp only at e;rw[h H _ e1];simp only;rw[k a H1 _ e2];exact e
theorem Le.opt{o o':Option α}(h:∀ a,o=some a->o'=some a):Le (AM.opt o) (AM.opt o'):=λH r e=>by
 cases o with
 |none=>cases e
 |some a=>rw[h a rfl];exact e
theorem Le.ret{o:Option α}{m:AM α}(h:∀ a,o=some a->m=AM.ret a):Le (AM.opt o) m:=λH r e=>by
 cases o with
 |none=>cases e
 |some a=>rw[h a rfl];exact e
theorem Le.trans{m m1 m2:AM α}(h:Le m m1)(k:Le m1 m2):Le m m2:=λH r e=>k H r (h H r e)
end
section
variable {P:Program}
theorem FP:∀ xs,AF xs=xs.length
 |[]=>rfl
 |x::r=>by simp[AF,FP r]
theorem Nf:∀ xs n,Hz xs n=xs.take n
 |[],_=>by simp[Hz]
 |x::r,0=>by simp[Hz]
 |x::r,n+1=>by simp[Hz,Nf r n]
theorem L7:∀ xs n,Hq xs n=xs.drop n
 |[],_=>by simp[Hq]
 |x::r,0=>by simp[Hq]
 |x::r,n+1=>by simp[Hq,L7 r n]
theorem ID:∀ xs,Hj xs=xs.flatten
 |[]=>rfl
 |x::r=>by simp[Hj,ID r]
theorem E4:∀ xs,GI xs=xs.all AV.one
 |[]=>rfl
 |x::r=>by simp[GI,E4 r]
theorem Ahn(a b:Nat):ApE a b=(a == b):=Bool.eq_iff_iff.2 (by simp)
theorem GX(e:Nat):∀ xs,FF e xs=xs.all λcs=>cs.length == e
 |[]=>rfl
 |x::r=>by simp[FF,GX e r,Ahn]
theorem Hd(T:List AV):∀ l,NC T l=l.map (AR T)
 |[]=>rfl
 |x::r=>by simp[NC,Hd T r]
theorem IV(T:List AV):∀ l,IU T l=l.map λp=>(p.1,AR T p.2)
 |[]=>rfl
 |(i,x)::r=>by simp[IU,IV T r]
theorem Ln{t:TypeId}{row:Bool}{n:Nat}(h1:B0 P t=some row)(h2:row=true->C7 P t=some n)(a:AV):Le (loadM row n a) (loadA P t a):=by
 unfold loadM loadA;rw[h1]
 cases row with
 |true=>rw[h2 rfl];exact Le.refl _
 |false=>exact Le.refl _
theorem Yt{t:TypeId}{n:Nat}(h:C7 P t=some n)(a x:AV):Le (storeM n a x) (storeA P t a x):=by
 unfold storeM storeA;rw[h]
 cases a<;>exact Le.refl _
theorem Ut{t:TypeId}{row:Bool}{n:Nat}(h1:B0 P t=some row)(h2:row=true->C7 P t=some n)(cs:List AV)(off:Nat):Rh row off n cs=Og P t cs off:=by
 unfold Rh Og;rw[h1]
 cases row with
 |true=>rw[h2 rfl]
 |false=>rfl
theorem Ye{t et:TypeId}{e:Nat}(h1:B2 P t=some et)(h2:C7 P et=some e){x ix r:AV}(h:MB e x ix=some r):Dh P t x ix=some r:=by
 unfold MB at h;unfold Dh;rw[h1]
 cases e1:ix.idx with
 |none=>rw[e1]at h;cases h
 |some i=>
  rw[e1]at h;simp only at h
  cases x<;>try (cases h)
  .rename_i b o n e'
   simp only at h ⊢;split at h
   .rename_i hlt
    split at h
    .rename_i he
     subst he;have:i+1<=n:=by simpa[ApR]using hlt
     have:i<n:=by omega
     rw[if_pos ⟨this,h2⟩];exact h
    .cases h
   .cases h
  .rename_i xs
   simp only[PD]at h ⊢
   cases e2:xs[i]? with
   |none=>rw[e2]at h;cases h
   |some cs=>
    rw[e2]at h;simp only at h ⊢;split at h
    .rename_i hb
     have:cs.length=e:=by simpa using hb
     rw[if_pos (by rw[h2,this])];exact h
    .cases h
theorem Zv{t et:TypeId}{e:Nat}(h1:B2 P t=some et)(h2:C7 P et=some e){x r:AV}{lo hi:Option AV}(h:M8 e x lo hi=some r):Iq P t x lo hi=some r:=by
 have om:∀ n o,K3 n o=D0 n o:=λn o=>by cases o<;>rfl
 unfold M8 at h;unfold Iq;rw[h1];simp only[om,FP,Nf,L7,GX]at h
 cases x<;>try (cases h)
 .rename_i b o n e'
  simp only at h ⊢;split at h
  .rename_i l hh e1 e2
   rw[e1,e2];simp only;split at h
   .rename_i c1 c2 c3
    have c3':e'=e:=by simpa using c3
    subst c3';rw[if_pos ⟨by simpa using c1,by simpa using c2,h2⟩];exact h
   .cases h
  .cases h
 .rename_i xs
  simp only at h ⊢;split at h
  .rename_i l hh e1 e2
   rw[e1,e2];simp only;split at h
   .rename_i c1 c2 c3
    have c4:(xs.all λcs=>C7 P et == some cs.length)=true:=Apd.2 λcs hcs=>by
     have:=Apd.1 c3 cs hcs;rw[h2];simp at this ⊢;exact this.symm
    rw[if_pos ⟨by simpa using c1,by simpa using c2,by rw[h2];rfl,c4⟩];exact h
   .cases h
  .cases h
theorem Pm(e:Nat)(x:AV):Le (newsM e x) (newsA e x):=by
 unfold newsM newsA;split
 .dsimp only
  split
  .refine Le.bind (Le.refl _) λk=>?_
   split
   .rename_i c1 c2
    rw[if_pos ⟨by simpa using c1,c2⟩];exact Le.refl _
   .exact Le.fail _
  .exact Le.fail _
 .simp only[FP,ID,GX]
  split
  .rename_i c
   rw[if_pos c];exact Le.refl _
  .exact Le.fail _
 .exact Le.refl _
 .exact Le.fail _
theorem H8{t:TypeId}{e b:Nat}{z:List Value}(h:J6 P t=some (e,z,b)):∃ et i zz,B2 P t=some et/\P.info? et=some i/\Cw P et=some zz/\i.zero=some zz/\zz.cells.size=i.size/\0<i.size/\e=i.size/\z=zz.cells.toList/\b=i.bytes:=by
 unfold J6 at h;split at h
 .rename_i et h1
  split at h
  .rename_i i zz h2 h3
   split at h
   .rename_i h4
    simp only[δ,Prod.mk.injEq]at h;refine⟨et,i,zz,h1,h2,h3,?_,h4.1,h4.2,h.1.symm,h.2.1.symm,h.2.2.symm⟩;unfold Cw at h3;rw[h2]at h3;simp only at h3;split at h3
    .split at h3
     .rename_i e5 _;rw[e5];exact h3
     .cases h3
    .cases h3
   .cases h
  .cases h
 .cases h
theorem Vu{t u:TypeId}{e b:Nat}{z:List Value}(h:J6 P t=some (e,z,b))(hu:CD P u=true)(s x:AV):Le (appM e b s x) (appendA P [t,u] s x):=by
 obtain⟨et,i,zz,h1,h2,h3,h4,h5,h6,rfl,_,rfl⟩:=H8 h;have hn:Fg P u=true:=by
  unfold CD at hu;unfold Fg;split at hu
  .rename_i e1;rw[e1]
  .cases hu
 unfold appM appendA;simp only[h1,h2,h4];rw[if_pos (show zz.cells.size=i.size/\0<i.size from ⟨h5,h6⟩)];refine Le.bind (by unfold newsU;rw[hn];exact Pm _ _) λr=>?_
 unfold appR;split
 .rename_i c
  rw[if_pos (show r.1=0 by simpa using c)];exact Le.refl _
 .rename_i c
  rw[if_neg (show ¬ r.1=0 by intro e;rw[e]at c;simp at c)];rw[E4];split
  .exact Le.fail _
  .rename_i c1
   rw[if_pos c1];split
   .dsimp only
    split
    .rename_i c2 c3
     rw[if_pos ⟨rfl,by simpa using c2,by simpa using c3⟩];exact Le.refl _
    .exact Le.fail _
   .dsimp only
    split
    .rename_i c2 c3 c4
     rw[if_pos ⟨by simpa using c2,by simpa using c3,by simpa using c4⟩];have c2':=Apt c2;subst c2';refine Le.bind (Le.refl _) λk=>?_
     split
     .rename_i d1 d2 d3
      have d3':=Apt d3;rw[if_pos ⟨d1,by omega,.inl d2⟩,if_pos d2,d2];exact Le.refl _
     .rename_i d1 d2 d3
      have d3':=Apt d3;rw[if_pos ⟨d1,by omega,.inr d3'⟩,if_neg (by rw[d2];simp),d2];exact Le.refl _
     .rename_i d1 d2 d3
      split
      .rename_i d4
       rw[if_pos ⟨d1,by simpa using d4,.inl d2⟩,if_pos d2,d2];exact Le.refl _
      .exact Le.fail _
     .exact Le.fail _
    .exact Le.fail _
   .exact Le.fail _
theorem Ab1{t u:TypeId}{e b:Nat}{z:List Value}(h:J6 P t=some (e,z,b))(hu:JB P u=true)(s x:AV):Le (appzM z e b s x) (appendA P [t,u] s x):=by
 obtain⟨et,i,zz,h1,h2,h3,h4,h5,h6,rfl,rfl,rfl⟩:=H8 h;have hn:Fg P u=false:=by
  unfold JB at hu;unfold Fg;split at hu
  .rename_i e1;rw[e1]
  .cases hu
 unfold appzM appendA;simp only[h1,h2,h4];rw[if_pos (show zz.cells.size=i.size/\0<i.size from ⟨h5,h6⟩)];refine Le.bind ?_ λr=>?_
 .unfold newsU PA newsZ
  rw[hn,hu];dsimp only;obtain⟨_,_,_,hfl⟩:=Dl h3
  cases x.idx with
  |none=>exact Le.fail _
  |some m=>
   dsimp only;split
   .rename_i c1
    rw [if_pos ⟨by have:m<=9223372036854775807:=by simpa using c1
                   omega,hfl⟩]
    exact Le.refl _
   .exact Le.fail _
 unfold appR;split
 .rename_i c
  rw[if_pos (show r.1=0 by simpa using c)];exact Le.refl _
 .rename_i c
  rw[if_neg (show ¬ r.1=0 by intro e;rw[e]at c;simp at c)];rw[E4];split
  .exact Le.fail _
  .rename_i c1
   rw[if_pos c1];split
   .dsimp only
    split
    .rename_i c2 c3
     rw[if_pos ⟨rfl,by simpa using c2,by simpa using c3⟩];exact Le.refl _
    .exact Le.fail _
   .dsimp only
    split
    .rename_i c2 c3 c4
     rw[if_pos ⟨by simpa using c2,by simpa using c3,by simpa using c4⟩];have c2':=Apt c2;subst c2';refine Le.bind (Le.refl _) λk=>?_
     split
     .rename_i d1 d2 d3
      have d3':=Apt d3;rw[if_pos ⟨d1,by omega,.inl d2⟩,if_pos d2,d2];exact Le.refl _
     .rename_i d1 d2 d3
      have d3':=Apt d3;rw[if_pos ⟨d1,by omega,.inr d3'⟩,if_neg (by rw[d2];simp),d2];exact Le.refl _
     .rename_i d1 d2 d3
      split
      .rename_i d4
       rw[if_pos ⟨d1,by simpa using d4,.inl d2⟩,if_pos d2,d2];exact Le.refl _
      .exact Le.fail _
     .exact Le.fail _
    .exact Le.fail _
   .exact Le.fail _
theorem Ab3{t:TypeId}{e b:Nat}{z:List Value}(h:J6 P t=some (e,z,b))(l c:AV):Le (mkslM z e b l c) (makeSliceA P t l c):=by
 obtain⟨et,i,zz,h1,h2,h3,h4,h5,h6,rfl,rfl,rfl⟩:=H8 h;unfold mkslM makeSliceA;rw[h1];split
 .rename_i n m e1 e2
  rw[e1,e2];dsimp only;rw[h2,h3];dsimp only;split
  .rename_i c1 c2 c3
   rw[if_pos ⟨by simpa using c1,by simpa using c2,by simpa using c3,h5,h6⟩];exact Le.refl _
  .exact Le.fail _
 .exact Le.fail _
theorem Ab2{t u et:TypeId}{e:Nat}(h1:B2 P t=some et)(h2:C7 P et=some e)(d x:AV):Le (cpyM e d x) (copyA P [t,u] d x):=by
 unfold cpyM copyA;simp only[h1];split
 .split
  .rename_i c
   have c':=Apt c;subst c';dsimp only;rw[if_pos h2];refine Le.bind (Pm _ _) λr=>?_
   simp only[E4];split
   .rename_i c1
    rw[if_pos c1];refine Le.bind (Le.refl _) λk=>?_
    split
    .rename_i c2 c3
     rw[if_pos ⟨c2,by simpa using c3⟩];exact Le.refl _
    .exact Le.fail _
   .exact Le.fail _
  .exact Le.fail _
 .exact Le.fail _
theorem Yr{t et:TypeId}{e:Nat}{z:Value}(h1:B2 P t=some et)(h2:C7 P et=some e)(h3:Cw P et=some z)(h4:z.cells.size=e/\0<e/\(z.cells.toList.map AV.v).all AV.one=true)(x:AV):Le (clrM z.cells.toList e x) (clearA P [t] x):=by
 unfold clrM clearA;simp only[h1]
 cases x with
 |sl b o n e'=>
  simp only[h3];split
  .rename_i c
   have c':=Apt c;subst c';rw[if_pos ⟨h2,h4⟩];refine Le.bind (Le.refl _) λk=>?_
   split
   .rename_i c2 c3
    rw[if_pos ⟨c2,by simpa using c3⟩];exact Le.refl _
   .exact Le.fail _
  .exact Le.fail _
 |_=>exact Le.fail _
theorem Mh{o:Oper}{c:Call}{b:Builtin}{x:Operand}(ho:o.op=.call c)(hc:c.callee=.builtin b)(ha:c.args.toList=[x]){ρ:Operand->AV}{u z:Value}(hx:ρ x=.v u)
  (h:∀ cs,Ay P (builtin b c.argTypes o.type cs #[u])=some (.value z)):Ck P o ρ=some (Ed z):=by
 have e1:BR ρ x=u:=by unfold BR;rw[hx];rfl
 have ha':c.args=#[x]:=by rw[←ArF (xs:=c.args),ha]
 have cc:(BX o.op&&o.op.operands.toList.all λx=>(ρ x).toVal.isSome)=true:=by
  rw[ho];simp[BX,Op.operands,Call.operands,hc,ha',hx,AV.toVal]
 unfold Ck;rw[if_pos cc];have:Ay P (execOp (BR ρ) o)=some (.value z):=by
  unfold execOp;rw[ho];simp only[resolve,hc,ha',At,Cc,ApH,invoke];have e3:#[x].map (BR ρ)=#[u]:=by simp[e1]
  rw[e3];exact h _
 rw[this];rfl
theorem Mi{o:Oper}{c:Call}{b:Builtin}{x y:Operand}(ho:o.op=.call c)(hc:c.callee=.builtin b)(ha:c.args.toList=[x,y]){ρ:Operand->AV}{u v z:Value}(hx:ρ x=.v u)(hy:ρ y=.v v)
  (h:∀ cs,Ay P (builtin b c.argTypes o.type cs #[u,v])=some (.value z)):Ck P o ρ=some (Ed z):=by
 have e1:BR ρ x=u:=by unfold BR;rw[hx];rfl
 have e2:BR ρ y=v:=by unfold BR;rw[hy];rfl
 have ha':c.args=#[x,y]:=by rw[←ArF (xs:=c.args),ha]
 have cc:(BX o.op&&o.op.operands.toList.all λx=>(ρ x).toVal.isSome)=true:=by
  rw[ho];simp[BX,Op.operands,Call.operands,hc,ha',hx,hy,AV.toVal]
 unfold Ck;rw[if_pos cc];have:Ay P (execOp (BR ρ) o)=some (.value z):=by
  unfold execOp;rw[ho];simp only[resolve,hc,ha',At,Cc,ApH,invoke];have e3:#[x,y].map (BR ρ)=#[u,v]:=by simp[e1,e2]
  rw[e3];exact h _
 rw[this];rfl
def Ex(P:Program)(ents:Nat):Prop:=∀ g,ents.testBit g=true->Fo P g=true
theorem Yq{t:TypeId}{zz:Value}(hz:Cw P t=some zz)(T:List AV)(ps:List (Nat × Operand)) :
  (∀{fs:Array Field} {pl:List (Nat × Nat)},Cj P t=some fs->He P fs.toList=some pl->Jl (pl[·]?) zz.cells.toList (IU T ps)=HL P t (ps.map λp=>(p.1,AR T p.2))) ∧
  (∀{et:TypeId} {e:Nat},Cj P t=none->LF P t=some et->C7 P et=some e->Jl (λi=>some (i*e,e)) zz.cells.toList (IU T ps)=HL P t (ps.map λp=>(p.1,AR T p.2))):=by
 refine⟨λh1 h2=>?_,λh1 h2 h3=>?_⟩
 .unfold Jl HL
  rw[h1,IV];unfold Lg;rw[hz,h1];simp only[h2]
 .unfold Jl HL
  rw[h1,IV];unfold Ld;rw[hz,h2];simp only[h3]
theorem SV{t et:TypeId}{e:Nat}{zz:Value}(h1:B2 P t=some et)(h2:C7 P et=some e)(h3:Cw P et=some zz)(n:Nat)(T:List AV)(ps:List (Nat × Operand)) :
  buildSlM zz.cells.toList e n (IU T ps)=buildSliceA P t n (ps.map λp=>(p.1,AR T p.2)):=by
 unfold buildSlM buildSliceA;rw[h1];simp only[h2,h3,IV];rfl
theorem Ys{o:Oper}{c:Call}{x:Operand}{t:TypeId}{sl:Bool}(ho:o.op=.call c)(hc:c.callee=.builtin .len)(ha:c.args.toList=[x])(ht:c.argTypes.toList=[t])
  (hs:if sl=true then CD P t=true else CD P t=false/\BQ P t=true) (ρ:Operand->AV) :
  Le (AM.opt (Aic Ag sl (ρ x))) (if CD P t=true then(match Ab5 (ρ x) with
     |some r=>AM.ret r
     |none=>AM.opt (Ck P o ρ)) else AM.opt (Ck P o ρ)):=by
 have ht':c.argTypes=#[t]:=by rw[←ArF (xs:=c.argTypes),ht]
 refine Le.ret λr h=>?_
 unfold Aic at h
 cases sl with
 |true=>
  rw[if_pos rfl]at hs;rw[if_pos hs];simp only at h;split at h<;>simp only[δ,reduceCtorEq]at h<;>subst h
  .rename_i e;rw[e];rfl
  .rename_i e;rw[e,FP];rfl
  .rename_i e
   have hu:∃ et,P.underlying t=some (.slice et):=by
    unfold CD at hs;split at hs
    .exact⟨_,‹_›⟩
    .cases hs
   obtain⟨et,hu⟩:=hu;have hg:Ck P o ρ=some (Ed (.int .i64 0)):=Mh ho hc ha e λcs=>by
    rw[ht'];simp only[builtin,Builtin.len_,At];simp[AP hu,goInt]
   rw[e,hg];rfl
 |false=>
  rw[if_neg (by simp)]at hs;rw[if_neg (by rw[hs.1];simp)];simp only at h;split at h<;>simp only[δ,reduceCtorEq]at h
  subst h;rename_i s e;have hu:P.underlying t=some .string:=by
   have:=hs.2;unfold BQ at this;split at this
   .assumption
   .cases this
  have hg:Ck P o ρ=some (Ed (.int .i64 s.size)):=Mh ho hc ha e λcs=>by
   rw[ht'];simp only[builtin,Builtin.len_,At];simp[AP hu,goInt]
  rw[hg];rfl
theorem Yp{o:Oper}{c:Call}{x y:Operand}{b:Builtin}(ho:o.op=.call c)(hc:c.callee=.builtin b)(ha:c.args.toList=[x,y])(ρ:Operand->AV){f:Int->Int->Int}
  (hb:(b=.max/\f=Ag.max)\/(b=.min/\f=Ag.min)):Le (AM.opt (AaK f (ρ x) (ρ y))) (AM.opt (Ck P o ρ)):=by
 refine Le.opt λr h=>?_
 unfold AaK at h;split at h
 .rename_i k a k' d hx hy
  split at h
  .rename_i hk
   subst hk;simp only[δ]at h;subst h;rcases hb with⟨rfl,rfl⟩|⟨rfl,rfl⟩
   .exact Mi (z:=.int k (Ag.max a d)) ho hc ha hx hy λcs=>by
     simp[builtin,Builtin.max_,Builtin.max2,Ag,FS,Ar.max]
   .exact Mi (z:=.int k (Ag.min a d)) ho hc ha hx hy λcs=>by
     simp[builtin,Builtin.min_,Builtin.min2,Ag,FS,Ar.min]
  .cases h
 .cases h
end
section
variable {P:Program} {Γ:FuncId->List AV->AM AV} {ents:Nat}
theorem Yf{x:AV}{i:Nat}(h:x.idx=some i):∃ k,x=.v (.int k (.ofNat i)):=by
 unfold AV.idx at h;split at h
 .simp only[δ]at h
  subst h;exact⟨_,rfl⟩
 .cases h
theorem D6{k:IntKind}{i n:Nat}(h:i<=n)(c:BoundsCode):Ay P (Instr.sliceBound (.int k (.ofNat i)) n c)=some i:=by
 unfold Instr.sliceBound asIntOf;rw[At];simp only[Cc,ApH];rw[if_pos ⟨by simp,by simpa using h⟩];rfl
theorem PR{o:Oper}{t:TypeId}{x:Operand}{lo hi:Option Operand}(ho:o.op=.slice t x lo hi none)(ht:P.underlying t=some .string){ρ:Operand->AV}{r:AV}(h:I9 Ag (ρ x) (lo.map ρ) (hi.map ρ)=some r):Ck P o ρ=some r:=by
 unfold I9 at h;split at h
 .rename_i s es
  split at h
  .rename_i l hh e1 e2
   split at h
   .rename_i c1 c2
    simp only[δ]at h;subst h;have c1:l<=hh:=by simpa using c1
    have c2:hh<=s.size:=by
     have:Apa hh s.size=true:=c2;simpa using this
    have hlo:(lo=none/\l=0)\/∃ y k,lo=some y/\ρ y=.v (.int k (.ofNat l)):=by
     cases lo with
     |none=>simp only[ArI,K3,δ]at e1;exact .inl ⟨rfl,e1.symm⟩
     |some y=>
      simp only[ApG,K3]at e1;obtain⟨k,hk⟩  :=Yf e1;exact .inr ⟨y,k,rfl,hk⟩
    have hhi:(hi=none/\hh=s.size)\/∃ y k,hi=some y/\ρ y=.v (.int k (.ofNat hh)):=by
     cases hi with
     |none=>
      simp only[ArI,K3,δ]at e2;exact .inl ⟨rfl,e2.symm⟩
     |some y=>
      simp only[ApG,K3]at e2;obtain⟨k,hk⟩  :=Yf e2;exact .inr ⟨y,k,rfl,hk⟩
    have hb:Ay P (Instr.sliceBounds false s.size s.size (lo.map (BR ρ)) (hi.map (BR ρ)) none)=some (l,hh,s.size):=by
     rcases hlo with⟨rfl,rfl⟩|⟨y,k,rfl,hy⟩<;>rcases hhi with⟨rfl,rfl⟩|⟨z,k',rfl,hz⟩
     .rfl
     .simp only[ArI,ApG,E7 hz,Instr.sliceBounds,At,Cc,ApH,D6 c2]
     .simp only[ArI,ApG,E7 hy,Instr.sliceBounds,At,Cc,ApH,D6 c1]
     .simp only[ApG,E7 hy,E7 hz,Instr.sliceBounds,At,Cc,ApH,D6 c1,D6 c2]
    refine Jr (z:=.string (s.extract l hh)) (by rw[ho];rfl) ?_ ?_
    .rw[ho]
     rcases hlo with⟨rfl,_⟩|⟨y,k,rfl,hy⟩<;>rcases hhi with⟨rfl,_⟩|⟨z,k',rfl,hz⟩<;>simp_all [Op.operands,AV.toVal]
    .unfold execOp
     rw[ho]
     show Ay P (Instr.sliceAt t (BR ρ x) (lo.map (BR ρ)) (hi.map (BR ρ)) none >>= λy=>pure (Next.value y))=_
     rw[At,E7 es];have:Ay P (Instr.sliceAt t (.string s) (lo.map (BR ρ)) (hi.map (BR ρ)) none)=some (.string (s.extract l hh)):=by
      unfold Instr.sliceAt;rw[At,AP ht];simp only[ApH];unfold Instr.slice;rw[At,AP ht];simp only[ApH,Option.isSome_none,Aqw,if_false];rw[At,hb];rfl
     rw[this];rfl
   .cases h
  .cases h
 .cases h
theorem Tl{o:Oper}{t:TypeId}{x i:Operand}(ho:o.op=.index t x i)(ht:P.underlying t=some .string){ρ:Operand->AV}{r:AV}(h:Rx Ag (ρ x) (ρ i)=some r):Ck P o ρ=some r:=by
 unfold Rx at h;split at h
 .rename_i s j es ei
  split at h
  .rename_i c1
   simp only[δ]at h;subst h;obtain⟨k,hk⟩  :=Yf ei;have c1:j<s.size:=by
    have:ApR j s.size=true:=c1;have:j+1<=s.size:=by simpa[ApR]using this
    omega
   have e1:s[j]? = some (s[j]'c1):=by simp[c1]
   refine Jr (z:=.int .u8 (s[j]'c1).toNat) (by rw[ho];rfl) (by rw[ho];simp[Op.operands,es,hk,AV.toVal]) ?_ |>.trans ?_
   .unfold execOp
    rw[ho]
    show Ay P (Instr.index t (BR ρ x) (BR ρ i) >>= λy=>pure (Next.value y))=_
    rw[At,E7 es,E7 hk];have:Ay P (Instr.index t (.string s) (.int k (.ofNat j)))=some (.int .u8 (s[j]'c1).toNat):=by
     unfold Instr.index asIntOf;rw[At];simp only[Cc,ApH];rw[At,AP ht];simp only[ApH];have:(if 0<=(Aq0 j) then s[(Aq0 j).toNat]? else none)=some (s[j]'c1):=by
      rw[if_pos (by simp)];exact e1
     rw[this];rfl
    rw[this];rfl
   .have:Ag.sat s j=Aq0 (s[j]'c1).toNat:=by
     show (match s[j]? with
      |some c=>Aq0 c.toNat
      |none=>0)=_
     rw[e1]
    rw[this];rfl
  .cases h
 .cases h
theorem Sl{o:Oper}{s d:TypeId}{x:Operand}(ho:o.op=.convert s d x){k k0:IntKind}(hs:P.underlying s=some (.int k0))(hd:P.underlying d=some (.int k)){ρ:Operand->AV}{r:AV}(h:W3 Ag k (ρ x)=some r):Ck P o ρ=some r:=by
 unfold W3 at h;split at h
 .rename_i k1 n e
  simp only[δ]at h;subst h;refine Jr (z:=.int k (k.wrap n)) (by rw[ho];rfl) (by rw[ho];simp[Op.operands,e,AV.toVal]) ?_;unfold execOp;rw[ho]
  show Ay P (convert s d (BR ρ x) >>= λy=>pure (Next.value y))=_
  rw[At,E7 e];have:Ay P (convert s d (.int k1 n))=some (.int k (k.wrap n)):=by
   unfold convert;rw[At,AP hs];simp only[ApH];rw[At,AP hd];rfl
  rw[this];rfl
 .cases h
theorem Aea(hE:Ex P ents)(o:Oper)(T:List AV):Le (mop Ag Γ (Sj P ents o.op) T) (aop P Γ o (AR T)):=by
 unfold aop
 cases ho:o.op<;>simp only[Sj]
 case move x=>exact Le.refl _
 case assign x=>exact Le.refl _
 case pick c a b=>
  simp only[mop];split
  .rename_i t e
   rw[e]
   cases t<;>exact Le.refl _
  .exact Le.fail _
 case alloc t=>
  unfold allocA
  cases e:Cw P t with
  |none=>exact Le.fail _
  |some z=>exact Le.refl _
 case box t x=>exact Le.refl _
 case build t ps=>
  cases e:Cw P t with
  |none=>exact Le.fail _
  |some z=>
   obtain⟨k1,k2⟩:=Yq e T ps.toList
   cases e1:Cj P t with
   |some fs=>
    simp only
    cases e2:He P fs.toList with
    |none=>exact Le.fail _
    |some pl=>
     simp only[mop];rw[k1 e1 e2];exact Le.refl _
   |none=>
    simp only
    cases e2:LF P t with
    |none=>exact Le.fail _
    |some et=>
     simp only
     cases e3:C7 P et with
     |none=>exact Le.fail _
     |some s=>
      simp only[mop];rw[k2 e1 e2 e3];exact Le.refl _
 case buildSlice t n ps=>
  cases e:B2 P t with
  |none=>exact Le.fail _
  |some et=>
   simp only
   cases e2:C7 P et with
   |none=>exact Le.fail _
   |some s=>
    cases e3:Cw P et with
    |none=>exact Le.fail _
    |some z=>
     simp only[mop];rw[SV e e2 e3];exact Le.refl _
 case load t a=>
  cases e:B0 P t with
  |none=>exact Le.fail _
  |some b=>
   cases b with
   |true=>
    cases e2:C7 P t with
    |none=>exact Le.fail _
    |some n=>exact Ln e (λ_=>e2) _
   |false=>exact Ln (n:=0) e (λh=>by cases h) _
 case store t a x=>
  cases e:C7 P t with
  |none=>exact Le.fail _
  |some n=>exact Yt e _ _
 case nilCheck x=>
  simp only[mop];split<;>first
   |exact Le.fail _
   |(rename_i e;rw[e];exact Le.refl _)
 case binOp b t x y yt=>
  split
  .rename_i ks hk
   split
   .exact Le.ret λr h=>NV ho hk (neg:=false) rfl h
   .exact Le.ret λr h=>NV ho hk (neg:=true) rfl h
   .exact Le.fail _
  .split
   .exact Le.fail _
   .rename_i k hk
    exact Le.ret λr h=>Va ho h
 case unOp u t x=>
  cases u<;>simp only<;>try exact Le.fail _
  case not=>
   exact Le.opt λr h=>by
    unfold AlI at h;split at h
    .rename_i c e
     simp only[δ]at h;subst h;rw[XS ho e];rfl
    .cases h
  case neg=>
   exact Le.opt λr h=>by
    unfold AlG at h;split at h
    .rename_i k n e
     simp only[δ]at h;subst h;rw[XR ho e]
    .cases h
 case makeFunc f a c=>
  simp only[mop,Hd];exact Le.refl _
 case slice t x lo hi mx=>
  cases mx with
  |some m=>exact Le.fail _
  |none=>
   simp only
   cases e:B2 P t with
   |none=>
    simp only;split
    .rename_i hst
     refine Le.ret λr h=>?_
     have ht:P.underlying t=some .string:=by
      unfold BQ at hst;split at hst
      .assumption
      .cases hst
     have hn:Iq P t (AR T x) (lo.map (AR T)) (hi.map (AR T))=none:=by
      unfold Iq;rw[e];split<;>rename_i q<;>first|cases q|rfl
     rw[hn];simp only;rw[PR ho ht h];rfl
    .exact Le.fail _
   |some et=>
    simp only
    cases e2:C7 P et with
    |none=>exact Le.fail _
    |some s=>
     refine Le.ret λr h=>?_
     rw[Zv e e2 h]
 case fieldAddr t a f=>
  cases e:Cj P t with
  |none=>exact Le.fail _
  |some fs=>
   simp only
   cases e2:fs[f]? with
   |none=>exact Le.fail _
   |some fd=>
    simp only;split
    .rename_i n e3
     refine Le.opt λr h=>?_
     unfold FM;rw[e];simp only[e2,e3];exact h
    .exact Le.fail _
 case field t x f=>
  cases e:Cj P t with
  |none=>exact Le.fail _
  |some fs=>
   simp only
   cases e2:fs[f]? with
   |none=>exact Le.fail _
   |some fd=>
    simp only;have key:∀{row:Bool} {n:Nat},B0 P fd.type=some row->(row=true->C7 P fd.type=some n)->Le (AM.opt (SG row fd.offset n (AR T x))) (AM.opt (L9 P t (AR T x) f)):=λh1 h2=>by
     refine Le.opt λr h=>?_
     unfold SG at h;unfold L9;rw[e];split at h
     .rename_i cs ex
      rw[←h,Ut h1 h2];simp only[ex,e2]
     .cases h
    cases e3:B0 P fd.type with
    |none=>exact Le.fail _
    |some b=>
     cases b with
     |true=>
      cases e4:C7 P fd.type with
      |none=>exact Le.fail _
      |some n=>exact key e3 λ_=>e4
     |false=>exact key e3 λh=>by cases h
 case indexAddr t x i=>
  cases e:B2 P t with
  |some et=>
   simp only
   cases e2:C7 P et with
   |none=>exact Le.fail _
   |some s=>
    refine Le.ret λr h=>?_
    rw[Ye e e2 h]
  |none=>
   have e0:Dh P t (AR T x) (AR T i)=none:=by
    unfold Dh;rw[e];split<;>first|rfl|simp_all
   cases e1:Nu P t with
   |none=>exact Le.fail _
   |some ne=>
    obtain⟨n,et⟩:=ne;simp only
    cases e2:C7 P et with
    |none=>exact Le.fail _
    |some s=>
     simp only[mop];rw[e0];refine Le.opt λr h=>?_
     unfold OM at h;unfold Iz;rw[e1];split at h
     .rename_i j ej
      rw[ej];simp only[e2];split at h
      .rename_i hlt
       have:j+1<=n:=by simpa[ApR]using hlt
       rw[if_pos (by omega)];exact h
      .cases h
     .cases h
 case index t x i=>
  cases e1:Nu P t with
  |none=>
   simp only;split
   .rename_i hst
    refine Le.ret λr h=>?_
    have ht:P.underlying t=some .string:=by
     unfold BQ at hst;split at hst
     .assumption
     .cases hst
    have hn:Gx P t (AR T x) (AR T i)=none:=by
     unfold Gx;rw[e1];split
     .rename_i q _
      cases q
     .rfl
    rw[hn];simp only;rw[Tl ho ht h];rfl
   .exact Le.fail _
  |some ne=>
   obtain⟨n,et⟩:=ne
   show Le (mop Ag Γ (match C7 P et,B0 P et with
    |some e,some true=>MO.index n e true e x i
    |some e,some false=>MO.index n e false 0 x i
    |_,_=>MO.bad) T) _
   have key:∀{row:Bool} {s m:Nat},B0 P et=some row->C7 P et=some s->(row=true->m=s)->Le (AM.opt (ME n s row m (AR T x) (AR T i))) (match Gx P t (AR T x) (AR T i) with
     |some r=>AM.ret r
     |none=>AM.opt (Ck P o (AR T))):=λ{row s m} h1 h2 h3=>by
    refine Le.ret λr h=>?_
    have:Gx P t (AR T x) (AR T i)=some r:=by
     unfold ME at h;unfold Gx;rw[e1];split at h
     .rename_i cs j ej1 ej2
      simp only[ej1,ej2,h2];split at h
      .rename_i hlt
       have:j+1<=n:=by simpa[ApR]using hlt
       rw[if_pos (by omega),←Ut (n:=m) h1 (λhr=>by rw[h3 hr];exact h2)];exact h
      .cases h
     .cases h
    rw[this]
   cases e2:C7 P et with
   |none=>exact Le.fail _
   |some s=>
    cases e3:B0 P et with
    |none=>exact Le.fail _
    |some b=>
     cases b with
     |true=>exact key e3 e2 λ_=>rfl
     |false=>exact key e3 e2 λh=>by cases h
 case extract x i=>exact Le.refl _
 case makeSlice t l c=>
  cases e:J6 P t with
  |none=>exact Le.fail _
  |some ezb=>
   obtain⟨s,z,b⟩:=ezb;exact Ab3 e _ _
 case call c=>
  cases hc:c.callee with
  |invoke=>exact Le.fail _
  |value f=>
   simp only
   cases f with
   |func g=>
    simp only;split
    .rename_i he
     simp only[mop,AR,Hd];rw[if_pos he];simp only[List.nil_append,List.append_nil];exact Le.refl _
    .exact Le.fail _
   |tmp t=>
    simp only[mop,Hd];split
    .rename_i g a cs e
     rw[e];simp only;split
     .rename_i hb
      rw[if_pos (hE g hb)];exact Le.refl _
     .exact Le.fail _
    .exact Le.fail _
   |const v=>
    simp only[mop,Hd];split
    .rename_i g a cs e
     rw[e];simp only;split
     .rename_i hb
      rw[if_pos (hE g hb)];exact Le.refl _
     .exact Le.fail _
    .exact Le.fail _
   |global v=>
    simp only[mop,Hd];split
    .rename_i g a cs e
     rw[e];simp only;split
     .rename_i hb
      rw[if_pos (hE g hb)];exact Le.refl _
     .exact Le.fail _
    .exact Le.fail _
  |builtin b=>
   cases b<;>simp only<;>try exact Le.fail _
   .-- append
    split
    .rename_i s x t u ea et
     rw[ea];simp only[et];split
     .rename_i e b' h1 h2
      exact Vu h1 h2 _ _
     .rename_i e z b' h1 h2
      split
      .rename_i h3
       exact Ab1 h1 h3 _ _
      .exact Le.fail _
     .exact Le.fail _
    .exact Le.fail _
   .-- clear
    split
    .rename_i x t ea et
     rw[ea];simp only[et];split
     .rename_i ett h1
      split
      .rename_i e z h2 h3
       split
       .rename_i h4
        exact Yr h1 h2 h3 h4 _
       .exact Le.fail _
      .exact Le.fail _
     .exact Le.fail _
    .exact Le.fail _
   .-- copy
    split
    .rename_i s x t u ea et
     rw[ea];simp only[et];split
     .rename_i ett h1 h2
      cases e2:C7 P ett with
      |none=>exact Le.fail _
      |some s=>exact Ab2 h1 e2 _ _
     .exact Le.fail _
    .exact Le.fail _
   .-- len
    split
    .rename_i x t ea et
     rw[ea,et];split
     .rename_i h1
      exact Ys ho hc ea et (by rw[if_pos rfl];exact h1) _
     .rename_i h1
      split
      .rename_i h2
       exact Ys ho hc ea et (by rw[if_neg (by simp)];exact⟨by simpa using h1,h2⟩) _
      .exact Le.fail _
    .exact Le.fail _
   .split
    .rename_i x y ea
     exact Yp ho hc ea _ (.inl ⟨rfl,rfl⟩)
    .exact Le.fail _
   .split
    .rename_i x y ea
     exact Yp ho hc ea _ (.inr ⟨rfl,rfl⟩)
    .exact Le.fail _
 case convert s d x=>
  split
  .rename_i k0 k hs hd
   have b1:C9 P s=false:=by
    unfold C9 B2;rw[hs]
   have b2:BQ P s=false:=by
    unfold BQ;rw[hs]
   rw[if_neg (by rw[b1];simp),b2,Bool.false_and];refine Le.ret λr h=>?_
   have:=Sl ho hs hd h;simp only;rw[this];rfl
  .cases b1:C9 P s with
   |false=>exact Le.fail _
   |true=>
    cases b2:BQ P d with
    |false=>exact Le.fail _
    |true=>
     simp only[mop,strM]
     cases b3:NA (AR T x) with
     |false=>exact Le.fail _
     |true=>
      rw[if_pos (by first|exact⟨trivial,trivial,rfl⟩|exact⟨trivial,trivial,b3⟩|simp_all)];exact Le.bind (Pm _ _) λ_=>Le.refl _
 all_goals exact Le.fail _
end
section
variable {A:Ar}
theorem Loc.loadM(row:Bool)(n:Nat)(a:AV):Loc (loadM row n a):=by
 unfold Go.Proofs.YtpncilciembjdaaGreatDoor.loadM
 cases row
 .exact Loc.bind (Loc.rdAt _ _) λ_=>Loc.opt _
 .exact Loc.bind (Loc.rdAt _ _) λ_=>Loc.ret _
theorem Loc.storeM(n:Nat)(a x:AV):Loc (storeM n a x):=by
 unfold Go.Proofs.YtpncilciembjdaaGreatDoor.storeM;split
 .exact Loc.ite (Loc.bind (Loc.getB _) λk=>Loc.ite (Loc.bind (Loc.setB _ _) λ_=>Loc.ret _) Loc.fail) Loc.fail
 .exact Loc.fail
theorem Loc.buildSlM(z:List Value)(e n:Nat)(ps:List (Nat × AV)):Loc (buildSlM z e n ps):=by
 unfold Go.Proofs.YtpncilciembjdaaGreatDoor.buildSlM
 repeat' split
 all_goals first
  |exact Loc.fail
  |exact Loc.bind (Loc.newB _) λ_=>Loc.ret _
theorem Loc.newsM(e:Nat)(x:AV):Loc (newsM e x):=by
 unfold Go.Proofs.YtpncilciembjdaaGreatDoor.newsM;split
 .split
  .refine Loc.bind (Loc.getB _) λk=>?_
   split
   .exact Loc.ret _
   .exact Loc.fail
  .exact Loc.fail
 .split
  .exact Loc.ret _
  .exact Loc.fail
 .exact Loc.ret _
 .exact Loc.fail
theorem Loc.appR(e b:Nat)(s:AV)(r:Nat × List AV):Loc (appR e b s r):=by
 unfold Go.Proofs.YtpncilciembjdaaGreatDoor.appR
 repeat' split
 all_goals first
  |exact Loc.fail
  |exact Loc.ret _
  |exact Loc.bind (Loc.newB _) λ_=>Loc.ret _
  |refine Loc.bind (Loc.getB _) λk=>?_
 repeat' split
 all_goals first
  |exact Loc.fail
  |exact Loc.bind (Loc.delB _) λ_=>Loc.bind (Loc.newB _) λ_=>Loc.ret _
  |exact Loc.bind (Loc.setB _ _) λ_=>Loc.bind (Loc.newB _) λ_=>Loc.ret _
theorem Loc.appM(e b:Nat)(s x:AV):Loc (appM e b s x):=Loc.bind (Loc.newsM _ _) λr=>Loc.appR _ _ _ _
theorem Loc.appzM(z:List Value)(e b:Nat)(s x:AV):Loc (appzM z e b s x):=by
 refine Loc.bind ?_ λr=>Loc.appR _ _ _ _
 unfold PA
 repeat' split
 all_goals first
  |exact Loc.fail
  |exact Loc.ret _
theorem Loc.mkslM(z:List Value)(e b:Nat)(l c:AV):Loc (mkslM z e b l c):=by
 unfold Go.Proofs.YtpncilciembjdaaGreatDoor.mkslM
 repeat' split
 all_goals first
  |exact Loc.fail
  |exact Loc.bind (Loc.newB _) λ_=>Loc.ret _
theorem Loc.cpyM(e:Nat)(d x:AV):Loc (cpyM e d x):=by
 unfold Go.Proofs.YtpncilciembjdaaGreatDoor.cpyM;split
 .split
  .refine Loc.bind (Loc.newsM _ _) λr=>?_
   split
   .refine Loc.bind (Loc.getB _) λk=>?_
    split
    .exact Loc.bind (Loc.setB _ _) λ_=>Loc.ret _
    .exact Loc.fail
   .exact Loc.fail
  .exact Loc.fail
 .exact Loc.fail
theorem Loc.clrM(z:List Value)(e:Nat)(x:AV):Loc (clrM z e x):=by
 unfold Go.Proofs.YtpncilciembjdaaGreatDoor.clrM;split
 .split
  .refine Loc.bind (Loc.getB _) λk=>?_
   split
   .exact Loc.bind (Loc.setB _ _) λ_=>Loc.ret _
   .exact Loc.fail
  .exact Loc.fail
 .exact Loc.fail
theorem Loc.strM(x:AV):Loc (strM x):=by
 unfold Go.Proofs.YtpncilciembjdaaGreatDoor.strM;split
 .exact Loc.bind (Loc.newsM _ _) λ_=>Loc.opt _
 .exact Loc.fail
theorem Loc.mop{Γ:FuncId->List AV->AM AV}(hΓ:∀ f args,Loc (Γ f args))(o:MO)(T:List AV):Loc (mop A Γ o T):=by
 unfold Go.Proofs.YtpncilciembjdaaGreatDoor.mop
 repeat' split
 all_goals first
  |exact Loc.fail
  |exact Loc.ret _
  |exact Loc.opt _
  |exact Loc.boxA _
  |exact Loc.bind (Loc.newB _) λ_=>Loc.ret _
  |exact Loc.buildSlM _ _ _ _
  |exact Loc.loadM _ _ _
  |exact Loc.storeM _ _ _
  |exact Loc.mkslM _ _ _ _ _
  |exact Loc.appM _ _ _ _
  |exact Loc.appzM _ _ _ _ _
  |exact Loc.cpyM _ _ _
  |exact Loc.clrM _ _ _
  |exact Loc.strM _
  |exact hΓ _ _
theorem Loc.coreM{Γ:FuncId->List AV->AM AV}(hΓ:∀ f args,Loc (Γ f args))(o:MOp)(T:List AV):Loc (coreM A Γ o T):=by
 unfold Go.Proofs.YtpncilciembjdaaGreatDoor.coreM
 repeat' split
 all_goals first
  |exact Loc.fail
  |exact Loc.ret _
  |exact Loc.mop hΓ _ _
def chainM(A:Ar)(Γ:FuncId->List AV->AM AV)(l:List MOp)(T:List AV):AM (List AV × List Foot):=λH=>match runM A Γ l T H with
 |some (T',H',fs)=>some ((T',fs),H',⟨fs.flatMap (·.rd),fs.flatMap (·.wr)⟩)
 |none=>none
theorem Qf(Γ:FuncId->List AV->AM AV)(o:MOp)(r:List MOp)(T:List AV) :
  chainM A Γ (o::r) T=(logged (coreM A Γ o T)).bind λvf=>(chainM A Γ r (B9 T o.dst vf.1)).bind λq=>AM.ret (q.1,vf.2::q.2):=by
 funext H
 simp only[chainM,runM,AM.bind,logged,AM.ret];rcases Go.Proofs.YtpncilciembjdaaGreatDoor.coreM A Γ o T H with _|⟨v,H1,f⟩
 .rfl
 simp only;rcases runM A Γ r (B9 T o.dst v) H1 with _|⟨T2,H2,fs⟩
 .rfl
 .simp
theorem Loc.chainM{Γ:FuncId->List AV->AM AV}(hΓ:∀ f args,Loc (Γ f args)):∀(l:List MOp) (T:List AV),Loc (chainM A Γ l T)
 |[],T=>by
  have:Go.Proofs.YtpncilciembjdaaGreatDoor.chainM A Γ [] T=AM.ret (T,[]):=by funext H;simp[Go.Proofs.YtpncilciembjdaaGreatDoor.chainM,runM,AM.ret]
  rw[this];exact Loc.ret _
 |o::r,T=>by
  rw[Qf];exact Loc.bind (Loc.logged (Loc.coreM hΓ o T)) λ_=>Loc.bind (Loc.chainM hΓ r _) λ_=>Loc.ret _
theorem Aey(Γ:FuncId->List AV->AM AV)(ops:List MOp)(bf:Option (List Nat))(T:List AV) :
  regM A Γ ops bf T=(chainM A Γ ops T).bind λr=>match bf with
   |none=>AM.ret (.normal,r.1)
   |some bf=>(match DY bf r.2 with
    |true=>AM.ret (.normal,r.1)
    |false=>AM.fail):=by
 funext H
 unfold Go.Proofs.YtpncilciembjdaaGreatDoor.regM Go.Proofs.YtpncilciembjdaaGreatDoor.chainM AM.bind
 cases e0:runM A Γ ops T H with
 |none=>simp[e0]
 |some r=>
  obtain⟨T',H',fs⟩:=r
  cases bf with
  |none=>simp[AM.ret,e0]
  |some bf=>cases e:DY bf fs<;>simp[AM.ret,AM.fail,e,e0]
theorem Loc.regM{Γ:FuncId->List AV->AM AV}(hΓ:∀ f args,Loc (Γ f args))(ops:List MOp)(bf:Option (List Nat))(T:List AV):Loc (regM A Γ ops bf T):=by
 rw[Aey];refine Loc.bind (Loc.chainM hΓ _ _) λr=>?_
 cases bf with
 |none=>exact Loc.ret _
 |some bf=>
  simp only;split
  .exact Loc.ret _
  .exact Loc.fail
theorem Loc.adoptB1(b i e:Nat):Loc (adoptB1 b i e):=by
 unfold Go.Proofs.YtpncilciembjdaaGreatDoor.adoptB1;refine Loc.bind (Loc.getB _) λk=>?_
 split
 .refine Loc.bind (Loc.newB _) λc=>Loc.bind (Loc.getB _) λk2=>?_
  split
  .exact Loc.setB _ _
  .exact Loc.fail
 .exact Loc.ret _
theorem Loc.nilB(b i:Nat):Loc (nilB b i):=by
 unfold Go.Proofs.YtpncilciembjdaaGreatDoor.nilB;refine Loc.bind (Loc.getB _) λk=>?_
 split
 .exact Loc.setB _ _
 .exact Loc.ret _
theorem Loc.adoptB(b i e:Nat):Loc (adoptB b i e):=by
 unfold Go.Proofs.YtpncilciembjdaaGreatDoor.adoptB;split
 .exact Loc.nilB _ _
 .exact Loc.adoptB1 _ _ _
theorem Loc.adoptM:∀(l:List (Nat × Nat)) (T:List AV),Loc (adoptM l T)
 |[],T=>Loc.ret _
 |(t,e)::r,T=>by
  unfold Go.Proofs.YtpncilciembjdaaGreatDoor.adoptM;split
  .exact Loc.bind (Loc.newB _) λb=>Loc.adoptM r _
  .split
   .exact Loc.bind (Loc.adoptB _ _ _) λ_=>Loc.adoptM r T
   .exact Loc.adoptM r T
theorem Loc.frz0(x:AV):Loc (frz0 x):=by
 unfold Go.Proofs.YtpncilciembjdaaGreatDoor.frz0;split<;>first
  |exact Loc.ret _
  |exact Loc.fail
mutual
theorem Loc.frz:∀(n:Nat) (x:AV),Loc (frz n x)
 |0,x=>by
  unfold Go.Proofs.YtpncilciembjdaaGreatDoor.frz;exact Loc.frz0 x
 |n+1,x=>by
  unfold Go.Proofs.YtpncilciembjdaaGreatDoor.frz;split
  .exact Loc.ret _
  .refine Loc.bind (Loc.getB _) λk=>?_
   split
   .exact Loc.fail
   .refine Loc.bind ?_ λ_=>?_
    .split
     .exact Loc.setB _ _
     .exact Loc.ret _
    .split
     .exact Loc.ret _
     .refine Loc.bind (Loc.frzL n _) λcs=>?_
      split
      .exact Loc.ret _
      .exact Loc.fail
  .exact Loc.bind (Loc.frzL n _) λ_=>Loc.ret _
  .exact Loc.bind (Loc.frzL n _) λ_=>Loc.ret _
  .exact Loc.ret _
theorem Loc.frzL:∀(n:Nat) (l:List AV),Loc (frzL n l)
 |n,[]=>by
  unfold Go.Proofs.YtpncilciembjdaaGreatDoor.frzL;exact Loc.ret _
 |0,_::_=>by
  unfold Go.Proofs.YtpncilciembjdaaGreatDoor.frzL;exact Loc.fail
 |n+1,x::r=>by
  unfold Go.Proofs.YtpncilciembjdaaGreatDoor.frzL;exact Loc.bind (Loc.frz n x) λ_=>Loc.bind (Loc.frzL n r) λ_=>Loc.ret _
end
theorem Loc.frzB(b:Nat):Loc (frzB b):=by
 unfold Go.Proofs.YtpncilciembjdaaGreatDoor.frzB;refine Loc.bind (Loc.getB _) λk=>?_
 split
 .refine Loc.bind (Loc.frzL _ _) λ_=>Loc.bind (Loc.getB _) λ_=>?_
  split
  .exact Loc.setB _ _
  .exact Loc.fail
 .exact Loc.ret _
theorem Loc.frzT:∀(l:List Nat) (T:List AV),Loc (frzT l T)
 |[],T=>Loc.ret _
 |t::r,T=>by
  unfold Go.Proofs.YtpncilciembjdaaGreatDoor.frzT;split
  .exact Loc.bind (Loc.frzB _) λ_=>Loc.frzT r T
  .exact Loc.bind (Loc.frz _ _) λ_=>Loc.frzT r _
  .exact Loc.frzT r T
theorem Loc.evC{Γ:FuncId->List AV->AM AV}{Λ:Nat->List AV->AM (AX × List AV)}(hΓ:∀ f args,Loc (Γ f args))(hΛ:∀ i T,Loc (Λ i T)):∀(c:MC) (T:List AV),Loc (evC A Γ Λ c T)
 |.skip,T=>Loc.ret _
 |.reg ops bf,T=>Loc.regM hΓ _ _ _
 |.seq a b,T=>by
  unfold Go.Proofs.YtpncilciembjdaaGreatDoor.evC;refine Loc.bind (Loc.evC hΓ hΛ a T) λr=>?_
  split
  .exact Loc.evC hΓ hΛ b _
  .exact Loc.ret _
 |.cond c a b,T=>by
  unfold Go.Proofs.YtpncilciembjdaaGreatDoor.evC;split
  .split
   .exact Loc.evC hΓ hΛ a T
   .exact Loc.evC hΓ hΛ b T
  .exact Loc.fail
 |.block id c,T=>by
  unfold Go.Proofs.YtpncilciembjdaaGreatDoor.evC;refine Loc.bind (Loc.evC hΓ hΛ c T) λr=>?_
  split
  .exact Loc.ite (Loc.ret _) (Loc.ret _)
  .exact Loc.ret _
 |.loop i h,T=>by
  unfold Go.Proofs.YtpncilciembjdaaGreatDoor.evC;refine Loc.bind (Loc.adoptM _ _) λ_=>Loc.bind (Loc.frzT _ _) λ_=>?_
  split
  .exact Loc.bind (hΛ _ _) λ_=>Loc.ret _
  .exact Loc.fail
 |.exit id,T=>Loc.ret _
 |.ret,T=>Loc.ret _
 |.bad,_=>Loc.fail
theorem Loc.delC(b i:Nat):Loc (delC b i):=by
 unfold Go.Proofs.YtpncilciembjdaaGreatDoor.delC;refine Loc.bind (Loc.getB _) λk=>?_
 split
 .exact Loc.delB _
 .exact Loc.ret _
theorem Loc.delT:∀(l:List Nat) (T:List AV),Loc (delT l T)
 |[],T=>Loc.ret _
 |t::r,T=>by
  unfold Go.Proofs.YtpncilciembjdaaGreatDoor.delT;split
  .exact Loc.bind (Loc.delB _) λ_=>Loc.delT r T
  .exact Loc.bind (Loc.delB _) λ_=>Loc.delT r T
  .split
   .exact Loc.bind (Loc.delC _ _) λ_=>Loc.delT r T
   .exact Loc.delT r T
theorem Loc.touchS(x:AV):Loc (touchS x):=by
 unfold Go.Proofs.YtpncilciembjdaaGreatDoor.touchS;split
 .refine Loc.bind (Loc.getB _) λk=>?_
  split
  .exact Loc.bind (Loc.delB _) λ_=>Loc.bind (Loc.newB _) λ_=>Loc.ret _
  .exact Loc.ret _
 .exact Loc.ret _
theorem Loc.touchL:∀ l:List AV,Loc (touchL l)
 |[]=>Loc.ret _
 |x::r=>by
  unfold Go.Proofs.YtpncilciembjdaaGreatDoor.touchL;exact Loc.bind (Loc.touchS x) λ_=>Loc.bind (Loc.touchL r) λ_=>Loc.ret _
theorem Loc.touchB(b:Nat):Loc (touchB b):=by
 unfold Go.Proofs.YtpncilciembjdaaGreatDoor.touchB;refine Loc.bind (Loc.getB _) λk=>?_
 split
 .refine Loc.bind (Loc.touchL _) λ_=>Loc.bind (Loc.getB _) λ_=>?_
  split
  .exact Loc.setB _ _
  .exact Loc.fail
 .exact Loc.setB _ _
 .exact Loc.ret _
theorem Loc.touchI:∀ l:List Nat,Loc (touchI l)
 |[]=>Loc.ret _
 |b::r=>by
  unfold Go.Proofs.YtpncilciembjdaaGreatDoor.touchI;exact Loc.bind (Loc.touchB b) λ_=>Loc.touchI r
theorem Loc.touchV(x:AV):Loc (touchV x):=by
 unfold Go.Proofs.YtpncilciembjdaaGreatDoor.touchV;split
 .exact Loc.touchS _
 .exact Loc.bind (Loc.touchL _) λ_=>Loc.bind (Loc.touchI _) λ_=>Loc.ret _
 .exact Loc.bind (Loc.touchI _) λ_=>Loc.ret _
theorem Loc.touchA:∀(m:List Bool) (l:List AV),Loc (touchA m l)
 |m,[]=>by cases m with
  |nil=>exact Loc.ret _
  |cons b m=>cases b<;>exact Loc.ret _
 |true::m,x::r=>by
  unfold Go.Proofs.YtpncilciembjdaaGreatDoor.touchA;exact Loc.bind (Loc.touchI _) λ_=>Loc.bind (Loc.touchA m r) λ_=>Loc.ret _
 |false::m,x::r=>by
  unfold Go.Proofs.YtpncilciembjdaaGreatDoor.touchA;exact Loc.bind (Loc.touchV x) λ_=>Loc.bind (Loc.touchA m r) λ_=>Loc.ret _
 |[],x::r=>by
  unfold Go.Proofs.YtpncilciembjdaaGreatDoor.touchA;exact Loc.bind (Loc.touchV x) λ_=>Loc.bind (Loc.touchA [] r) λ_=>Loc.ret _
end
def Gh(μ:Mu)(F:AQ)(w:World)(H H':AH)(Q:Mu->AQ->Prop):Prop:=
 ∃ μ' F',Later μ μ' F F' w w/\HRep μ' F' w H'.get/\(∀ b,(b<H.next\/H'.next<=b)->μ' b=μ b)/\Q μ' F'
section
variable {μ:Mu} {F:AQ} {w:World} {H H1 H2:AH}
theorem Gh.same{Q:Mu->AQ->Prop}(hH:HRep μ F w H.get)(h:Q μ F):Gh μ F w H H Q:=⟨μ,F,Later.refl _ _ _,hH,λ_ _=>rfl,h⟩
theorem Gh.trans{Q:Mu->AQ->Prop}(hn1:H.next<=H1.next)(hn2:H1.next<=H2.next){Q1:Mu->AQ->Prop}(h:Gh μ F w H H1 Q1)(k:∀ μ' F',Later μ μ' F F' w w->HRep μ' F' w H1.get->(∀ b,(b<H.next\/H1.next<=b)->μ' b=μ b)->Q1 μ' F'->Gh μ' F' w H1 H2 Q):Gh μ F w H H2 Q:=by
 obtain⟨μ1,F1,h1,h2,h3,h4⟩:=h;obtain⟨μ2,F2,k1,k2,k3,k4⟩:=k μ1 F1 h1 h2 h3 h4;refine⟨μ2,F2,h1.trans k1,k2,λb hb=>?_,k4⟩;rw[k3 b (by omega),h3 b (by omega)]
theorem Gh.mono{Q Q':Mu->AQ->Prop}(h:Gh μ F w H H1 Q)(k:∀ μ' F',Later μ μ' F F' w w->Q μ' F'->Q' μ' F'):Gh μ F w H H1 Q':=by
 obtain⟨μ1,F1,h1,h2,h3,h4⟩:=h;exact⟨μ1,F1,h1,h2,h3,k _ _ h1 h4⟩
theorem NS:∀(n e:Nat) (l:List AV) (i:Nat),(Bh n e l)[i]? = if i<n then some ((l.drop (i*e)).take e) else none
 |0,e,l,i=>by simp[Bh]
 |n+1,e,l,0=>by simp[Bh]
 |n+1,e,l,i+1=>by
  simp only[Bh,List.getElem?_cons_succ,NS n e (l.drop e) i,List.drop_drop,Nat.add_lt_add_iff_right];rw[show e+i*e=(i+1)*e by rw[Nat.add_mul];omega]
theorem FK:∀(n e:Nat) (l:List AV),(Bh n e l).length=n
 |0,e,l=>rfl
 |n+1,e,l=>by simp[Bh,FK n]
theorem MN{l:List AV}(h:AZ l=true)(n:Nat):AZ (l.take n)=true:=by
 rw[BA]at h ⊢;exact Apd.2 λx hx=>Apd.1 h x (List.mem_of_mem_take hx)
theorem MM{l:List AV}(h:AZ l=true)(n:Nat):AZ (l.drop n)=true:=by
 rw[BA]at h ⊢;exact Apd.2 λx hx=>Apd.1 h x (List.mem_of_mem_drop hx)
theorem KB:∀(n e:Nat) {l:List AV},AZ l=true->IS (Bh n e l)=true
 |0,e,l,h=>rfl
 |n+1,e,l,h=>by
  have:=KB n e (MM h e);unfold IS at this ⊢;simp[Bh,MN h,this]
theorem VO{g q m e c:Nat}{cs:List AV}(hn:AZ cs=true)(hl:cs.length=m*e)(hm:m<=c)(hc:c<=maxLen){u:Value}(hu:u=.slice (some ⟨g,q,none⟩) m c)(hr:m≠0->RepAt μ F w g cs q):Rep μ F w (.ls (Bh m e cs)) u:=by
 simp only[Rep];refine⟨KB m e hn,some ⟨g,q,none⟩,c,by rw[FK];exact hu,by rw[FK];exact hm,hc,λhne=>⟨g,q,e,rfl,?_⟩⟩;have hm0:m≠0:=λh0=>hne (by rw[h0];rfl)
 have hr:=hr hm0;refine RepRows.mk λi x hx=>?_
 rw[NS]at hx;split at hx
 .rename_i hi
  simp only[δ]at hx;subst hx;have h1:i*e+e<=m*e:=by rw[←Nat.succ_mul];exact Nat.mul_le_mul_right e hi
  refine⟨by rw[Apg,AqA,hl];omega,?_⟩;have h2:=hr.drop (i*e);refine RepAt.mk λj y hy=>?_
  rw[ApN]at hy;split at hy
  .exact h2.get hy
  .cases hy
 .cases hx
theorem Fx{b:Nat}{k:ABlk}{u:Unit}{H H':AH}{ft:Foot}(h:AM.setB b k H=some (u,H',ft)):H'=H.put b k/\∃ k0,H.get b=some k0:=by
 unfold AM.setB at h
 cases e:H.get b with
 |none=>rw[e]at h;cases h
 |some k0=>
  rw[e]at h;simp only[δ,Prod.mk.injEq]at h;exact⟨h.2.1.symm,k0,rfl⟩
theorem Qv(n:Nat)(x:AV){y:AV}{H':AH}{ft:Foot}(hw:H.wf)(h:frz n x H=some (y,H',ft)):H.next<=H'.next/\H'.wf:=⟨(Loc.frz n x H y H' ft hw h).next,(Loc.frz n x H y H' ft hw h).wf⟩
theorem NY(n:Nat)(x:List AV){y:List AV}{H':AH}{ft:Foot}(hw:H.wf)(h:frzL n x H=some (y,H',ft)):H.next<=H'.next/\H'.wf:=⟨(Loc.frzL n x H y H' ft hw h).next,(Loc.frzL n x H y H' ft hw h).wf⟩
theorem AiS{b:Nat}{k k0:ABlk}(hw:H.wf)(hb:H.get b=some k0):(H.put b k).wf:=λc h1 h2=>by
 rw[AH.get_put]
 by_cases hcb:c=b
 .subst hcb
  rw[hw c h1 h2]at hb
  cases hb
 .rw[if_neg hcb];exact hw c h1 h2
theorem MX{z u:Value}(hx:Rep μ F w (.v z) u):Rep μ F w (YF z) u:=by
 unfold YF;split
 .rename_i e
  simp only[Rep]at hx ⊢;rw[hx.1,Ha e];exact⟨rfl,none,0,rfl,φ _,ApM _,λh=>absurd rfl h⟩
 .exact hx
end
mutual
theorem G7:∀(n:Nat) (x:AV) {μ:Mu} {F:AQ} {w:World} {H:AH} {u:Value} {y:AV} {H':AH} {ft:Foot},Rep μ F w x u->HRep μ F w H.get->H.wf->frz n x H=some (y,H',ft)->Gh μ F w H H' λμ' F'=>Rep μ' F' w y u
 |0,x,μ,F,w,H,u,y,H',ft,hx,hH,hw,h=>by
  simp only[frz]at h
  cases x<;>simp only[frz0]at h<;>first
   |exact(Ao h).elim
   | (obtain⟨rfl,rfl⟩:=Ap h
      first
       |exact Gh.same hH hx
       |exact Gh.same hH (MX hx))
 |n+1,.v z,μ,F,w,H,u,y,H',ft,hx,hH,hw,h=>by
  simp only[frz]at h;obtain⟨rfl,rfl⟩:=Ap h;exact Gh.same hH (MX hx)
 |n+1,.sl b o m e,μ,F,w,H,u,y,H',ft,hx,hH,hw,h=>by
   simp only[frz]at h;obtain⟨k,H1,f1,f2,h1,h2⟩:=bind_some h;obtain⟨hk,e1⟩:=BJ h1;rw[e1]at h2
   cases hle:Apa (o+m*e) k.cells.length with
   |false=>rw[hle]at h2;exact(Ao h2).elim
   |true=>
    rw[hle]at h2;have hle':o+m*e<=k.cells.length:=by simpa using hle
    obtain⟨_,H2,f3,f4,h3,h4⟩:=bind_some h2;simp only[Rep]at hx;obtain⟨p,hp,hu⟩:=hx;obtain⟨p',hp',hB⟩:=hH.blk b k hk;rw[hp]at hp'
    cases hp'
    have step:∃ F1,Later μ μ F F1 w w/\HRep μ F1 w H2.get/\(∀ i,i<k.cells.length->F1 p.g (p.o+i))/\H2.next=H.next/\H2.wf:=by
     cases hst:k.st with
     |true=>
      rw[hst]at h3;obtain⟨e2,k0,hk0⟩:=Fx h3;obtain⟨g1,g2⟩:=N3 hH hk hp;refine⟨_,g2,?_,λi hi=>.inr ⟨rfl,by omega,by omega⟩,by rw[e2];rfl,by rw[e2];exact AiS hw hk0⟩;have:H2.get=λc=>if c=b then some { k with st:=false } else H.get c:=by
       funext c
       rw[e2,AH.get_put]
      rw[this];exact g1
     |false=>
      rw[hst]at h3;obtain⟨_,e2⟩:=Ap h3;rw[e2];exact⟨F,Later.refl _ _ _,hH,λi hi=>hB.kept hst i hi,rfl,hw⟩
    obtain⟨F1,g1,g2,g3,g4,g5⟩:=step;obtain⟨us,r1,r2⟩:=C0 (g:=p.g) (cs:=(k.cells.drop o).take (m*e)) (o:=p.o+o) (μ:=μ) (F:=F1) (w:=w) (by
     intro i x hi;rw[ApN]at hi;split at hi
     .rw[List.getElem?_drop]at hi
      obtain⟨u',q1,q2⟩:=hB.cell (o+i) x hi;exact⟨u',by rw[Apz];exact q1,q2.later g1⟩
     .cases hi)
    have hlen:us.length=m*e:=by
     rw[r1.length,Apg,AqA];omega
    have fin:∀{cs:List AV} {H3:AH},H2.next<=H3.next->AZ cs=true->Gh μ F1 w H2 H3 (λμ' F'=>RepList μ' F' w cs us)->Gh μ F w H H3 λμ' F'=>Rep μ' F' w (.ls (Bh m e cs)) u:=by
     intro cs H3 n3 hno hG;refine Gh.trans (H1:=H2) (by omega) n3 (Q1:=λμ' F'=>μ'=μ/\F'=F1) ⟨μ,F1,g1,g2,λ_ _=>rfl,rfl,rfl⟩ ?_;rintro μ' F' _ _ _ ⟨rfl,rfl⟩;refine hG.mono λμ2 F2 l2 hr=>?_
     have hcl:cs.length=m*e:=by rw[←hr.length,hlen]
     rcases hu with⟨rfl,rfl⟩|⟨q,c,rfl,hq,hmc,hcm,hroom⟩
     .simp only[Bh,Rep]
      exact⟨rfl,none,0,rfl,φ _,ApM _,λh=>absurd rfl h⟩
     .refine VO hno hcl hmc hcm rfl λhm0=>?_
      have hq':=hq (by omega);rw[hq'];refine RepAt.mk λi x hi=>?_
      obtain⟨v,v1,v2⟩:=hr.get hi;have hi':i<m*e:=by rw[←hcl];exact(List.getElem?_eq_some_iff.1 hi).1
      refine⟨(l2.prot _ _ (by rw[Apz];exact g3 (o+i) (by omega))).1,v,r2 i v v1,v2⟩
    cases hno0:(k.ex||AZ ((k.cells.drop o).take (m*e))) with
    |true=>
     rw[hno0]at h4;obtain⟨rfl,rfl⟩:=Ap h4;have hno:AZ ((k.cells.drop o).take (m*e))=true:=by
      cases hx:k.ex with
      |true=>exact MN (MM (hB.pure hx) _) _
      |false=>rw[hx,Bool.false_or]at hno0;exact hno0
     exact fin (φ _) hno (Gh.same g2 r1)
    |false=>
     rw[hno0]at h4;obtain⟨cs,H3,f5,f6,h5,h6⟩:=bind_some h4;have hG:=EF n _ r1 g2 g5 h5;obtain⟨n3,w3⟩:=NY n _ g5 h5
     cases hno:AZ cs with
     |true=>
      rw[hno]at h6;obtain⟨rfl,rfl⟩:=Ap h6;exact fin n3 hno hG
     |false=>rw[hno]at h6;exact(Ao h6).elim
 |n+1,.agg cs,μ,F,w,H,u,y,H',ft,hx,hH,hw,h=>by
   simp only[frz]at h;obtain⟨cs',H1,f1,f2,h1,h2⟩:=bind_some h;obtain⟨rfl,rfl⟩:=Ap h2;simp only[Rep]at hx;obtain⟨us,rfl,hr⟩:=hx;refine(EF n _ hr hH hw h1).mono λμ' F' _ hq=>?_
   simp only[Rep];exact⟨us,rfl,hq⟩
 |n+1,.tup cs,μ,F,w,H,u,y,H',ft,hx,hH,hw,h=>by
   simp only[frz]at h;obtain⟨cs',H1,f1,f2,h1,h2⟩:=bind_some h;obtain⟨rfl,rfl⟩:=Ap h2;simp only[Rep]at hx;obtain⟨us,rfl,hr⟩:=hx;refine(EF n _ hr hH hw h1).mono λμ' F' _ hq=>?_
   simp only[Rep];exact⟨us,rfl,hq⟩
 |n+1,.ptr b o,μ,F,w,H,u,y,H',ft,hx,hH,hw,h=>by
   simp only[frz]at h;obtain⟨rfl,rfl⟩:=Ap h;exact Gh.same hH hx
 |n+1,.ls xs,μ,F,w,H,u,y,H',ft,hx,hH,hw,h=>by
   simp only[frz]at h;obtain⟨rfl,rfl⟩:=Ap h;exact Gh.same hH hx
 |n+1,.lp xs,μ,F,w,H,u,y,H',ft,hx,hH,hw,h=>by
   simp only[frz]at h;obtain⟨rfl,rfl⟩:=Ap h;exact Gh.same hH hx
 |n+1,.fn f a c,μ,F,w,H,u,y,H',ft,hx,hH,hw,h=>by
   simp only[frz]at h;obtain⟨rfl,rfl⟩:=Ap h;exact Gh.same hH hx
 |n+1,.any,μ,F,w,H,u,y,H',ft,hx,hH,hw,h=>by
   simp only[frz]at h;obtain⟨rfl,rfl⟩:=Ap h;exact Gh.same hH hx
theorem EF:∀(n:Nat) (l:List AV) {μ:Mu} {F:AQ} {w:World} {H:AH} {us:List Value} {y:List AV} {H':AH} {ft:Foot},RepList μ F w l us->HRep μ F w H.get->H.wf->frzL n l H=some (y,H',ft)->Gh μ F w H H' λμ' F'=>RepList μ' F' w y us
 |n,[],μ,F,w,H,us,y,H',ft,hx,hH,hw,h=>by
  unfold frzL at h;obtain⟨rfl,rfl⟩:=Ap h;exact Gh.same hH hx
 |0,_::_,μ,F,w,H,us,y,H',ft,hx,hH,hw,h=>by
  unfold frzL at h;exact(Ao h).elim
 |n+1,x::r,μ,F,w,H,us,y,H',ft,hx,hH,hw,h=>by
  unfold frzL at h;obtain⟨x',H1,f1,f2,h1,h2⟩:=bind_some h;obtain⟨r',H2,f3,f4,h3,h4⟩:=bind_some h2;obtain⟨rfl,rfl⟩:=Ap h4;simp only[RepList]at hx;obtain⟨u,t,rfl,hu,ht⟩:=hx;obtain⟨n1,w1⟩:=Qv n x hw h1;obtain⟨n2,w2⟩:=NY n r w1 h3;refine Gh.trans n1 n2 (G7 n x hu hH hw h1) λμ1 F1 l1 hH1 _ hx1=>?_
  refine(EF n r (ht.later' l1) hH1 w1 h3).mono λμ2 F2 l2 hr2=>?_
  simp only[RepList];exact⟨u,t,rfl,hx1.later l2,hr2⟩
end
end Go.Proofs.YtpncilciembjdaaGreatDoor
