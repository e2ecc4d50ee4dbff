/- Code with all types' siz -/
import Derived.Test.YtpncilciembjdaaGreatDoorGAH
set_option linter.all false
open Array renaming toArray_toList->Asx
open Bool renaming false->Ξ,true->U,and_eq_true->Aqr,false_eq_true->Asa
open Int renaming ofNat->Ar4
open List renaming all_eq_true->Aqt,getElem?_take->AqH,length_drop->Asu,length_take->AqT
open Nat renaming add_assoc->AqP,beq->AqO,ble->Aqv,blt->Arx,eq_of_beq_eq_true->AqG,le_refl->ω,min->Arl,zero_add->Aqw,zero_le->AqR
open Option renaming none->Θ,some->Δ,bind_some->AqU,map_none->AsB,map_some->AqQ
namespace Go.Proofs.YtpncilciembjdaaGreatDoor
open Option.some renaming injEq->Ψ
open Go.RowKit
structure Ar0 where
 add:IntKind->Int->Int->Int
 sub:IntKind->Int->Int->Int
 mul:IntKind->Int->Int->Int
 quo:IntKind->Int->Int->Int
 rem:IntKind->Int->Int->Int
 bits:BinOp->IntKind->Int->Int->Int
 shl:IntKind->Int->Int->Int
 shr:IntKind->Int->Int->Int
 conv:IntKind->Int->Int
 lt:Int->Int->Bool
 le:Int->Int->Bool
 eq:Int->Int->Bool
 max:Int->Int->Int
 min:Int->Int->Int
 beq:Bool->Bool->Bool
 band:Bool->Bool->Bool
 seq:ByteArray->ByteArray->Bool
 slt:ByteArray->ByteArray->Bool
 slen:ByteArray->Nat
 cat:ByteArray->ByteArray->ByteArray
 sat:ByteArray->Nat->Int
 ssub:ByteArray->Nat->Nat->ByteArray
inductive Ar where
 |mk (r:Ar0)
 |no
def Ar.add(A:Ar)(x0:IntKind)(x1:Int)(x2:Int):Int:=match A with
 |.mk r=>r.add x0 x1 x2
 |.no=>0
def Ar.sub(A:Ar)(x0:IntKind)(x1:Int)(x2:Int):Int:=match A with
 |.mk r=>r.sub x0 x1 x2
 |.no=>0
def Ar.mul(A:Ar)(x0:IntKind)(x1:Int)(x2:Int):Int:=match A with
 |.mk r=>r.mul x0 x1 x2
 |.no=>0
def Ar.quo(A:Ar)(x0:IntKind)(x1:Int)(x2:Int):Int:=match A with
 |.mk r=>r.quo x0 x1 x2
 |.no=>0
def Ar.rem(A:Ar)(x0:IntKind)(x1:Int)(x2:Int):Int:=match A with
 |.mk r=>r.rem x0 x1 x2
 |.no=>0
def Ar.bits(A:Ar)(x0:BinOp)(x1:IntKind)(x2:Int)(x3:Int):Int:=match A with
 |.mk r=>r.bits x0 x1 x2 x3
 |.no=>0
def Ar.shl(A:Ar)(x0:IntKind)(x1:Int)(x2:Int):Int:=match A with
 |.mk r=>r.shl x0 x1 x2
 |.no=>0
def Ar.shr(A:Ar)(x0:IntKind)(x1:Int)(x2:Int):Int:=match A with
 |.mk r=>r.shr x0 x1 x2
 |.no=>0
def Ar.conv(A:Ar)(x0:IntKind)(x1:Int):Int:=match A with
 |.mk r=>r.conv x0 x1
 |.no=>0
def Ar.lt(A:Ar)(x0:Int)(x1:Int):Bool:=match A with
 |.mk r=>r.lt x0 x1
 |.no=>Ξ
def Ar.le(A:Ar)(x0:Int)(x1:Int):Bool:=match A with
 |.mk r=>r.le x0 x1
 |.no=>Ξ
def Ar.eq(A:Ar)(x0:Int)(x1:Int):Bool:=match A with
 |.mk r=>r.eq x0 x1
 |.no=>Ξ
def Ar.max(A:Ar)(x0:Int)(x1:Int):Int:=match A with
 |.mk r=>r.max x0 x1
 |.no=>0
def Ar.min(A:Ar)(x0:Int)(x1:Int):Int:=match A with
 |.mk r=>r.min x0 x1
 |.no=>0
def Ar.not(_:Ar)(b:Bool):Bool:=!b
def Ar.beq(A:Ar)(x0:Bool)(x1:Bool):Bool:=match A with
 |.mk r=>r.beq x0 x1
 |.no=>Ξ
def Ar.band(A:Ar)(x0:Bool)(x1:Bool):Bool:=match A with
 |.mk r=>r.band x0 x1
 |.no=>Ξ
def Ar.seq(A:Ar)(x0:ByteArray)(x1:ByteArray):Bool:=match A with
 |.mk r=>r.seq x0 x1
 |.no=>Ξ
def Ar.slt(A:Ar)(x0:ByteArray)(x1:ByteArray):Bool:=match A with
 |.mk r=>r.slt x0 x1
 |.no=>Ξ
def Ar.slen(A:Ar)(x0:ByteArray):Nat:=match A with
 |.mk r=>r.slen x0
 |.no=>0
def Ar.cat(A:Ar)(x0:ByteArray)(x1:ByteArray):ByteArray:=match A with
 |.mk r=>r.cat x0 x1
 |.no=>ByteArray.empty
def Ar.sat(A:Ar)(x0:ByteArray)(x1:Nat):Int:=match A with
 |.mk r=>r.sat x0 x1
 |.no=>0
def Ar.ssub(A:Ar)(x0:ByteArray)(x1:Nat)(x2:Nat):ByteArray:=match A with
 |.mk r=>r.ssub x0 x1 x2
 |.no=>ByteArray.empty
def Rh(b:BinOp)(k:IntKind)(x y:Int):Int:=match b with
 |.and=>k.wrap (BitVec.ofInt k.bits x &&& BitVec.ofInt k.bits y).toNat
 |.or=>k.wrap (BitVec.ofInt k.bits x ||| BitVec.ofInt k.bits y).toNat
 |.xor=>k.wrap (BitVec.ofInt k.bits x ^^^ BitVec.ofInt k.bits y).toNat
 |_=>k.wrap (BitVec.ofInt k.bits x &&& ~~~BitVec.ofInt k.bits y).toNat
def Gi:Ar0 where
 add k x y:=k.wrap (x+y)
 sub k x y:=k.wrap (x-y)
 mul k x y:=k.wrap (x*y)
 quo k x y:=k.wrap (x.tdiv y)
 rem _ x y:=x.tmod y
 bits b k x y:=Rh b k x y
 shl k x y:=k.wrap (x*2 ^ (Arl y.toNat k.bits))
 shr k x y:=x.fdiv (2 ^ (Arl y.toNat k.bits))
 conv k x:=k.wrap x
 lt x y:=decide (x<y)
 le x y:=decide (x<=y)
 eq x y:=x == y
 max x y:=if x<y then y else x
 min x y:=if y<x then y else x
 beq a b:=a == b
 band a b:=a&&b
 seq a b:=a.toList == b.toList
 slt a b:=Op.bytesLess a.toList b.toList
 slen a:=a.size
 cat a b:=a++b
 sat a i:=match a[i]? with
  |some c=>Ar4 c.toNat
  |none=>0
 ssub a l h:=a.extract l h
def Ah:Ar:=.mk Gi
inductive MO where
 |mv (x:Operand)
 |pick (c a b:Operand)
 |alloc (z:List Value)
 |box (x:Operand)
 |buildS (z:List Value) (pl:List (Nat × Nat)) (ps:List (Nat × Operand))
 |buildR (z:List Value) (e:Nat) (ps:List (Nat × Operand))
 |buildSl (z:List Value) (e n:Nat) (ps:List (Nat × Operand))
 |ld (row:Bool) (n:Nat) (a:Operand)
 |st (n:Nat) (a x:Operand)
 |nilck (x:Operand)
 |bin (ek:Nat) (b:BinOp) (x y:Operand)
 |eqs (neg:Bool) (ks:List Nat) (x y:Operand)
 |not (x:Operand)
 |neg (x:Operand)
 |mkfn (f:Fn) (a c:List Operand)
 |slice (e:Nat) (x:Operand) (lo hi:Option Operand)
 |faddr (off:Nat) (a:Operand)
 |field (row:Bool) (off n:Nat) (x:Operand)
 |iaddr (e:Nat) (x i:Operand)
 |aaddr (n e:Nat) (x i:Operand)
 |index (n e:Nat) (row:Bool) (sz:Nat) (x i:Operand)
 |ext (x:Operand) (i:Nat)
 |mksl (z:List Value) (e bytes:Nat) (l c:Operand)
 |app (e bytes:Nat) (s x:Operand)
 |appz (z:List Value) (e bytes:Nat) (s x:Operand)
 |cpy (e:Nat) (d x:Operand)
 |clr (z:List Value) (e:Nat) (x:Operand)
 |len (sl:Bool) (x:Operand)
 |sidx (x i:Operand)
 |sslice (x:Operand) (lo hi:Option Operand)
 |iconv (k:IntKind) (x:Operand)
 |str (x:Operand)
 |mx (x y:Operand)
 |mn (x y:Operand)
 |callF (f:FuncId) (args:List Operand)
 |callV (ents:Nat) (x:Operand) (args:List Operand)
 |bad
structure MOp where
 dst:Option Nat
 op:MO
 g:Option (Nat × Bool)
structure LpH where
 n:Nat
 live:List Bool
 ad:List (Nat × Nat)
 fz:List Nat
 outs:List (Nat × (List Bool × (List Nat × List Nat)))
inductive MC where
 |skip
 |reg (ops:List MOp) (bf:Option (List Nat))
 |seq (a b:MC)
 |cond (c:Operand) (a b:MC)
 |block (id:Nat) (c:MC)
 |loop (i:Nat) (h:LpH)
 |exit (id:Nat)
 |ret
 |bad
section
variable (A:Ar)
def loadM(row:Bool)(n:Nat)(a:AV):AM AV:=match row with
 |true=>(rdAt a n).bind λcs=>AM.ret (.agg cs)
 |false=>(rdAt a 1).bind λcs=>AM.opt (Ut cs)
def storeM(n:Nat)(a x:AV):AM AV:=match a with
 |.ptr b o=>
  if x.cells.length=n/\x.cells.all AV.one=U then
   (AM.getB b).bind λk=>if k.st=U/\o+n<=k.cells.length/\(!k.ex||AA x.cells)=U then(AM.setB b { k with cells:=AI k.cells o x.cells }).bind λ_=>AM.ret AV.undef else AM.fail
  else AM.fail
 |_=>AM.fail
def SD(row:Bool)(off n:Nat)(cs:List AV):Option AV:=match row with
 |true=>Δ (.agg ((cs.drop off).take n))
 |false=>cs[off]?
def TX(row:Bool)(off n:Nat)(x:AV):Option AV:=match x with
 |.agg cs=>SD row off n cs
 |_=>Θ
def Kb(place:Nat->Option (Nat × Nat))(z:List Value)(ps:List (Nat × AV)):Option AV:=
 if ps.any (λp=>Gw p.2) then Θ else(Ew place (z.map .v) ps).map .agg
def buildSlM(z:List Value)(e n:Nat)(ps:List (Nat × AV)):AM AV:=
 if n*e<=16777216/\n<=maxLen/\ps.any (λp=>Gw p.2)=Ξ then
  match Ew (λi=>Δ (i*e,e)) (BQ (z.map .v) (n*e)) ps with
  |some cs=>if AA cs=U then(AM.newB ⟨cs,U,U⟩).bind λb=>AM.ret (.sl b 0 n e) else(AM.newB ⟨cs,U,Ξ⟩).bind λb=>AM.ret (.sl b 0 n e)
  |none=>AM.fail
 else AM.fail
def SB:List (List AV)->Nat->Option (List AV)
 |[],_=>Θ
 |x::_,0=>Δ x
 |_::r,n+1=>SB r n
theorem Qr:∀(xs:List (List AV)) (n:Nat),SB xs n=xs[n]?
 |[],_=>by simp[SB]
 |x::r,0=>by simp[SB]
 |x::r,n+1=>by simp[SB,Qr r n]
def Nk(e:Nat)(x ix:AV):Option AV:=match ix.idx with
 |some i=>(match x with
  |.sl b o n e'=>(match Arx i n with
   |true=>if e'=e then Δ (.ptr b (o+i*e)) else Θ
   |false=>Θ)
  |.ls xs=>(match SB xs i with
   |some cs=>(match AqO cs.length e with
    |true=>Δ (.lp cs)
    |false=>Θ)
   |none=>Θ)
  |_=>Θ)
 |none=>Θ
def PP(n e:Nat)(x ix:AV):Option AV:=match ix.idx with
 |some i=>(match Arx i n with
  |true=>Nu x (i*e)
  |false=>Θ)
 |none=>Θ
def No(n e:Nat)(row:Bool)(sz:Nat)(x ix:AV):Option AV:=match x,ix.idx with
 |.agg cs,Δ i=>(match Arx i n with
  |true=>SD row (i*e) sz cs
  |false=>Θ)
 |_,_=>Θ
def Hq:List (List AV)->Nat->List (List AV)
 |[],_=>[]
 |_::_,0=>[]
 |x::r,n+1=>x::Hq r n
def GR:List (List AV)->Nat->List (List AV)
 |[],_=>[]
 |x::r,0=>x::r
 |_::r,n+1=>GR r n
def AP:List (List AV)->Nat
 |[]=>0
 |_::r=>AP r+1
def E4(e:Nat):List (List AV)->Bool
 |[]=>U
 |x::r=>AqO x.length e&&E4 e r
def LZ(n:Nat):Option AV->Option Nat
 |some x=>x.idx
 |none=>Δ n
def NV(e:Nat)(x:AV)(lo hi:Option AV):Option AV:=match x with
 |.sl b o n e'=>(match LZ 0 lo,LZ n hi with
  |some l,Δ h=>(match Aqv l h,Aqv h n,AqO e' e with
   |true,U,U=>Δ (.sl b (o+l*e) (h-l) e)
   |_,_,_=>Θ)
  |_,_=>Θ)
 |.ls xs=>(match LZ 0 lo,LZ (AP xs) hi with
  |some l,Δ h=>(match Aqv l h,Aqv h (AP xs),E4 e xs with
   |true,U,U=>Δ (.ls (GR (Hq xs h) l))
   |_,_,_=>Θ)
  |_,_=>Θ)
 |_=>Θ
def AjD(sl:Bool)(x:AV):Option AV:=match sl with
 |true=>(match x with
  |.sl _ _ n _=>Δ (.v (.int .i64 (Ar4 n)))
  |.ls xs=>Δ (.v (.int .i64 (Ar4 (AP xs))))
  |.v (.slice Θ 0 0)=>Δ (.v (.int .i64 (Ar4 0)))
  |_=>Θ)
 |false=>(match x with
  |.v (.string s)=>Δ (.v (.int .i64 (Ar4 (A.slen s))))
  |_=>Θ)
def Ze:List Nat->List AV->List AV->Option Bool
 |[],[],[]=>Δ U
 |1::ks,.v (.bool a)::r,.v (.bool b)::q=>(match Ze ks r q with
  |some t=>Δ (A.band (A.beq a b) t)
  |none=>Θ)
 |0::ks,.v (.int k a)::r,.v (.int k' b)::q=>if k=k' then(match Ze ks r q with
  |some t=>Δ (A.band (A.eq a b) t)
  |none=>Θ) else Θ
 |2::ks,.v (.string a)::r,.v (.string b)::q=>(match Ze ks r q with
  |some t=>Δ (A.band (A.seq a b) t)
  |none=>Θ)
 |_,_,_=>Θ
def Ajc(neg:Bool)(ks:List Nat)(x y:AV):Option AV:=match x,y with
 |.agg xs,.agg ys=>(match Ze A ks xs ys with
  |some t=>(match neg with
   |true=>Δ (.v (.bool (A.not t)))
   |false=>Δ (.v (.bool t)))
  |none=>Θ)
 |_,_=>Θ
def eqM(ek:Nat)(x y:AV):Option Bool:=match ek,x,y with
 |4,.v (.bool a),.v (.bool b)=>Δ (A.beq a b)
 |1,.ptr ..,.v (.pointer Θ)=>Δ Ξ
 |1,.lp ..,.v (.pointer Θ)=>Δ Ξ
 |1,.v (.pointer Θ),.v (.pointer Θ)=>Δ U
 |2,.sl _ _ (_+1) _,.v (.slice Θ 0 0)=>Δ Ξ
 |2,.v (.slice Θ 0 0),.v (.slice Θ 0 0)=>Δ U
 |3,.fn ..,.v .nilFunc=>Δ Ξ
 |3,.v .nilFunc,.v .nilFunc=>Δ U
 |_,_,_=>Θ
def Jj(b:BinOp)(x y:AV):Option AV:=match x,y with
 |.v (.int k a),.v (.int k' c)=>(match b with
  |.shl=>(match A.lt c 0 with
   |true=>Θ
   |false=>Δ (.v (.int k (A.shl k a c))))
  |.shr=>(match A.lt c 0 with
   |true=>Θ
   |false=>Δ (.v (.int k (A.shr k a c))))
  |b=>if k=k' then(match b with
   |.and=>Δ (.v (.int k (A.bits .and k a c)))
   |.or=>Δ (.v (.int k (A.bits .or k a c)))
   |.xor=>Δ (.v (.int k (A.bits .xor k a c)))
   |.andNot=>Δ (.v (.int k (A.bits .andNot k a c)))
   |.quo=>(match A.eq c 0 with
    |true=>Θ
    |false=>Δ (.v (.int k (A.quo k a c))))
   |.rem=>(match A.eq c 0 with
    |true=>Θ
    |false=>Δ (.v (.int k (A.rem k a c))))
   |.add=>Δ (.v (.int k (A.add k a c)))
   |.sub=>Δ (.v (.int k (A.sub k a c)))
   |.mul=>Δ (.v (.int k (A.mul k a c)))
   |.eql=>Δ (.v (.bool (A.eq a c)))
   |.neq=>Δ (.v (.bool (A.not (A.eq a c))))
   |.lss=>Δ (.v (.bool (A.lt a c)))
   |.leq=>Δ (.v (.bool (A.le a c)))
   |.gtr=>Δ (.v (.bool (A.lt c a)))
   |.geq=>Δ (.v (.bool (A.le c a)))
   |_=>Θ) else Θ)
 |.v (.string a),.v (.string c)=>(match b with
   |.add=>(match Aqv (A.slen a+A.slen c) 9223372036854775807 with
    |true=>Δ (.v (.string (A.cat a c)))
    |false=>Θ)
   |.eql=>Δ (.v (.bool (A.seq a c)))
   |.neq=>Δ (.v (.bool (A.not (A.seq a c))))
   |.lss=>Δ (.v (.bool (A.slt a c)))
   |.geq=>Δ (.v (.bool (A.not (A.slt a c))))
   |_=>Θ)
 |_,_=>Θ
def Ab6(ek:Nat)(b:BinOp)(x y:AV):Option AV:=match ek,b with
 |0,_=>Jj A b x y
 |_,.eql=>(eqM A ek x y).map λt=>.v (.bool t)
 |_,.neq=>(eqM A ek x y).map λt=>.v (.bool (A.not t))
 |_,_=>Θ
def AbZ(f:Int->Int->Int)(x y:AV):Option AV:=match x,y with
 |.v (.int k a),.v (.int k' c)=>if k=k' then Δ (.v (.int k (f a c))) else Θ
 |_,_=>Θ
def SS(x i:AV):Option AV:=match x,i.idx with
 |.v (.string s),Δ i=>(match Arx i (A.slen s) with
  |true=>Δ (.v (.int .u8 (A.sat s i)))
  |false=>Θ)
 |_,_=>Θ
def JY(x:AV)(lo hi:Option AV):Option AV:=match x with
 |.v (.string s)=>(match LZ 0 lo,LZ (A.slen s) hi with
  |some l,Δ h=>(match Aqv l h,Aqv h (A.slen s) with
   |true,U=>Δ (.v (.string (A.ssub s l h)))
   |_,_=>Θ)
  |_,_=>Θ)
 |_=>Θ
def YD(k:IntKind)(x:AV):Option AV:=match x with
 |.v (.int _ n)=>Δ (.v (.int k (A.conv k n)))
 |_=>Θ
def AmJ(x:AV):Option AV:=match x with
 |.v (.bool b)=>Δ (.v (.bool (A.not b)))
 |_=>Θ
def AmI(x:AV):Option AV:=match x with
 |.v (.int k n)=>Δ (.v (.int k (A.sub k 0 n)))
 |_=>Θ
def Il:List (List AV)->List AV
 |[]=>[]
 |x::r=>x++Il r
def newsM(e:Nat)(x:AV):AM (Nat × List AV):=match x with
 |.sl b o n e'=>if e'=e then(AM.getB b).bind λk=>match Aqv (o+n*e) k.cells.length,(k.ex||AA ((k.cells.drop o).take (n*e))) with
   |true,U=>AM.ret (n,(k.cells.drop o).take (n*e))
   |_,_=>AM.fail
   else AM.fail
 |.ls xs=>(match E4 e xs with
  |true=>AM.ret (AP xs,Il xs)
  |false=>AM.fail)
 |.v (.slice Θ 0 0)=>AM.ret (0,[])
 |_=>AM.fail
def I4:List AV->Bool
 |[]=>U
 |x::r=>x.one&&I4 r
def Qo(z:List Value)(e:Nat)(x:AV):AM (Nat × List AV):=match x.idx with
 |some m=>(match Aqv m 9223372036854775807 with
  |true=>AM.ret (m,BQ (z.map .v) (m*e))
  |false=>AM.fail)
 |none=>AM.fail
def appR(e bytes:Nat)(s:AV)(r:Nat × List AV):AM AV:=
 match AqO r.1 0 with
 |true=>if Oo s=U then AM.ret s else AM.fail
 |false=>match I4 r.2 with
  |false=>AM.fail
  |true=>(match s with
   |.v (.slice Θ 0 0)=>(match Aqv (r.1*bytes) 140737488355328,Aqv r.1 maxLen with
    |true,U=>(AM.newB ⟨r.2,U,U⟩).bind λb=>AM.ret (.sl b 0 r.1 e)
    |_,_=>AM.fail)
   |.sl b o n e'=>(match AqO e' e,Aqv ((n+r.1)*bytes) 140737488355328,Aqv (n+r.1) maxLen with
    |true,U,U=>(AM.getB b).bind λk=>match k.ex,k.st,AqO (o+n*e) k.cells.length with
     |true,U,U=>(AM.delB b).bind λ_=>(AM.newB ⟨(k.cells.take (o+n*e)).drop o++r.2,U,U⟩).bind λb'=>AM.ret (.sl b' 0 (n+r.1) e)
     |true,Ξ,U=>(AM.setB b { k with ex:=Ξ }).bind λ_=>(AM.newB ⟨(k.cells.take (o+n*e)).drop o++r.2,Ξ,U⟩).bind λb'=>AM.ret (.sl b' 0 (n+r.1) e)
     |true,U,Ξ=>(match Aqv (o+n*e) k.cells.length with
      |true=>(AM.delB b).bind λ_=>(AM.newB ⟨(k.cells.take (o+n*e)).drop o++r.2,U,U⟩).bind λb'=>AM.ret (.sl b' 0 (n+r.1) e)
      |false=>AM.fail)
     |_,_,_=>AM.fail
    |_,_,_=>AM.fail)
   |_=>AM.fail)
def appM(e bytes:Nat)(s x:AV):AM AV:=(newsM e x).bind λr=>appR e bytes s r
def appzM(z:List Value)(e bytes:Nat)(s x:AV):AM AV:=(Qo z e x).bind λr=>appR e bytes s r
def mkslM(z:List Value)(e bytes:Nat)(l c:AV):AM AV:=match l.idx,c.idx with
 |some n,Δ m=>(match Aqv n m,Aqv (m*bytes) 140737488355328,Aqv m maxLen with
  |true,U,U=>(AM.newB ⟨BQ (z.map .v) (n*e),U,U⟩).bind λb=>AM.ret (.sl b 0 n e)
  |_,_,_=>AM.fail)
 |_,_=>AM.fail
def cpyM(e:Nat)(d x:AV):AM AV:=match d with
 |.sl b o n e'=>(match AqO e' e with
  |true=>(newsM e x).bind λr=>match I4 (r.2.take (Arl r.1 n*e)) with
   |true=>(AM.getB b).bind λk=>match k.st,Aqv (o+n*e) k.cells.length with
    |true,U=>(AM.setB b { k with cells:=AI k.cells o (r.2.take (Arl r.1 n*e)) }).bind λ_=>AM.ret (.v (.int .i64 (Ar4 (Arl r.1 n))))
    |_,_=>AM.fail
   |false=>AM.fail
  |false=>AM.fail)
 |_=>AM.fail
def clrM(z:List Value)(e:Nat)(x:AV):AM AV:=match x with
 |.sl b o n e'=>(match AqO e' e with
  |true=>(AM.getB b).bind λk=>match k.st,Aqv (o+n*e) k.cells.length with
   |true,U=>(AM.setB b { k with cells:=AI k.cells o (BQ (z.map .v) (n*e)) }).bind λ_=>AM.ret (.tup [])
   |_,_=>AM.fail
  |false=>AM.fail)
 |_=>AM.fail
def strM(x:AV):AM AV:=match Oo x with
 |true=>(newsM 1 x).bind λr=>AM.opt ((bytesOf r.2).map λl=>.v (.string ⟨l.toArray⟩))
 |false=>AM.fail
def JL(T:List AV):List (Nat × Operand)->List (Nat × AV)
 |[]=>[]
 |(i,x)::r=>(i,AE T x)::JL T r
def Ot(T:List AV):List Operand->List AV
 |[]=>[]
 |x::r=>AE T x::Ot T r
def mop(Γ:FuncId->List AV->AM AV)(o:MO)(T:List AV):AM AV:=match o with
 |.mv x=>AM.ret (AE T x)
 |.pick c a b=>(match AE T c with
  |.v (.bool t)=>(match t with
   |true=>AM.ret (AE T a)
   |false=>AM.ret (AE T b))
  |_=>AM.fail)
 |.alloc z=>(AM.newB ⟨z.map .v,U,Ξ⟩).bind λb=>AM.ret (.ptr b 0)
 |.box x=>boxA (AE T x)
 |.buildS z pl ps=>AM.opt (Kb (pl[·]?) z (JL T ps))
 |.buildR z e ps=>AM.opt (Kb (λi=>Δ (i*e,e)) z (JL T ps))
 |.buildSl z e n ps=>buildSlM z e n (JL T ps)
 |.ld row n a=>loadM row n (AE T a)
 |.st n a x=>storeM n (AE T a) (AE T x)
 |.nilck x=>(match AE T x with
  |.ptr b o=>AM.ret (.ptr b o)
  |.lp cs=>AM.ret (.lp cs)
  |.fn (.func f) a c=>AM.ret (.fn (.func f) a c)
  |_=>AM.fail)
 |.bin ek b x y=>AM.opt (Ab6 A ek b (AE T x) (AE T y))
 |.eqs neg ks x y=>AM.opt (Ajc A neg ks (AE T x) (AE T y))
 |.not x=>AM.opt (AmJ A (AE T x))
 |.neg x=>AM.opt (AmI A (AE T x))
 |.mkfn f a c=>AM.ret (.fn f (Ot T a) (Ot T c))
 |.slice e x lo hi=>AM.opt (NV e (AE T x) (lo.map (AE T)) (hi.map (AE T)))
 |.faddr off a=>AM.opt (Nu (AE T a) off)
 |.field row off n x=>AM.opt (TX row off n (AE T x))
 |.iaddr e x i=>AM.opt (Nk e (AE T x) (AE T i))
 |.aaddr n e x i=>AM.opt (PP n e (AE T x) (AE T i))
 |.index n e row sz x i=>AM.opt (No n e row sz (AE T x) (AE T i))
 |.ext x i=>AM.opt (Js (AE T x) i)
 |.mksl z e bytes l c=>mkslM z e bytes (AE T l) (AE T c)
 |.app e bytes s x=>appM e bytes (AE T s) (AE T x)
 |.appz z e bytes s x=>appzM z e bytes (AE T s) (AE T x)
 |.cpy e d x=>cpyM e (AE T d) (AE T x)
 |.clr z e x=>clrM z e (AE T x)
 |.len sl x=>AM.opt (AjD A sl (AE T x))
 |.sidx x i=>AM.opt (SS A (AE T x) (AE T i))
 |.sslice x lo hi=>AM.opt (JY A (AE T x) (lo.map (AE T)) (hi.map (AE T)))
 |.iconv k x=>AM.opt (YD A k (AE T x))
 |.str x=>strM (AE T x)
 |.mx x y=>AM.opt (AbZ (A.max) (AE T x) (AE T y))
 |.mn x y=>AM.opt (AbZ (A.min) (AE T x) (AE T y))
 |.callF f args=>Γ f (Ot T args)
 |.callV ents x args=>(match AE T x with
  |.fn (.func g) a cs=>(match ents.testBit g with
   |true=>Γ g (a++Ot T args++cs)
   |false=>AM.fail)
  |_=>AM.fail)
 |.bad=>AM.fail
def Te(T:List AV)(g:Option (Nat × Bool)):Option Bool:=match g with
 |none=>Δ U
 |some (d,want)=>match T[d]? with
  |some (.v (.bool b))=>(match want with
   |true=>Δ b
   |false=>Δ (A.not b))
  |some (.v (.tuple _))=>Δ Ξ
  |_=>Θ
def coreM(Γ:FuncId->List AV->AM AV)(o:MOp)(T:List AV):AM AV:=match Te A T o.g with
 |some t=>(match t with
  |true=>mop A Γ o.op T
  |false=>AM.ret AV.undef)
 |none=>AM.fail
def runM(Γ:FuncId->List AV->AM AV):List MOp->List AV->AH->Option (List AV × AH × List Foot)
 |[],T,H=>Δ (T,H,[])
 |o::r,T,H=>match coreM A Γ o T H with
  |none=>Θ
  |some (v,H1,f)=>match runM Γ r (BX T o.dst v) H1 with
   |none=>Θ
   |some (T2,H2,fs)=>Δ (T2,H2,f::fs)
def regM(Γ:FuncId->List AV->AM AV)(ops:List MOp)(bf:Option (List Nat))(T:List AV):AM (AX × List AV):=λH=>match runM A Γ ops T H with
 |none=>Θ
 |some (T',H',fs)=>match bf with
  |none=>Δ ((.normal,T'),H',⟨fs.flatMap (·.rd),fs.flatMap (·.wr)⟩)
  |some bf=>(match DQ bf fs with
   |true=>Δ ((.normal,T'),H',⟨fs.flatMap (·.rd),fs.flatMap (·.wr)⟩)
   |false=>Θ)
def B7{α:Type}:List Bool->List α->List α
 |true::l,x::r=>x::B7 l r
 |false::l,_::r=>B7 l r
 |_,_=>[]
def BG:List Bool->Nat->List AV->List AV
 |_,0,_=>[]
 |true::l,n+1,x::xs=>x::BG l n xs
 |true::l,n+1,[]=>.any::BG l n []
 |false::l,n+1,xs=>.any::BG l n xs
 |[],n+1,_=>.any::BG [] n []
def axN:AX->Nat
 |.exit i=>i+1
 |_=>0
def Acv:List (Nat × (List Bool × (List Nat × List Nat)))->Nat->List Bool × (List Nat × List Nat)
 |[],_=>([],([],[]))
 |(k,m)::r,n=>match AqO k n with
  |true=>m
  |false=>Acv r n
def LpH.out(h:LpH)(x:AX):List Bool:=(Acv h.outs (axN x)).1
def LpH.fzo(h:LpH)(x:AX):List Nat:=(Acv h.outs (axN x)).2.1
def LpH.dlo(h:LpH)(x:AX):List Nat:=(Acv h.outs (axN x)).2.2
def Sy(T:List AV)(t:Nat):Bool:=match T[t]? with
 |some (.v z)=>KG z
 |_=>Ξ
theorem Z8{T:List AV}{t:Nat}(h:Sy T t=U):T[t]? = Δ (.v (.slice Θ 0 0)):=by
 unfold Sy at h;split at h
 .rename_i z e
  rw[e,Fv h]
 .cases h
def EV(cs:List AV)(i:Nat):Bool:=match cs[i]? with
 |some (.v z)=>KG z
 |_=>Ξ
def adoptB1(b i e:Nat):AM Unit:=(AM.getB b).bind λk=>match k.ex,EV k.cells i with
 |false,U=>(AM.newB ⟨[],U,U⟩).bind λc=>(AM.getB b).bind λk2=>(match k2.ex,EV k2.cells i with
  |false,U=>AM.setB b { k2 with cells:=k2.cells.set i (.sl c 0 0 e) }
  |_,_=>AM.fail)
 |_,_=>AM.ret ()
def nilB(b i:Nat):AM Unit:=(AM.getB b).bind λk=>match k.ex,EV k.cells i with
 |false,U=>AM.setB b { k with cells:=k.cells.set i (.ls []) }
 |_,_=>AM.ret ()
def adoptB(b i e:Nat):AM Unit:=match AqO e 0 with
 |true=>nilB b i
 |false=>adoptB1 b i e
def OF(T:List AV)(t:Nat):Option (Nat × Nat):=match Aqv 1000000 t with
 |true=>(match T[t % 1000000]? with
  |some (.ptr b o)=>Δ (b,o+(t / 1000000-1))
  |_=>Θ)
 |false=>Θ
def adoptM:List (Nat × Nat)->List AV->AM (List AV)
 |[],T=>AM.ret T
 |(t,e)::r,T=>match Sy T t with
  |true=>(AM.newB ⟨[],U,U⟩).bind λb=>adoptM r (T.set t (.sl b 0 0 e))
  |false=>(match OF T t with
   |some q=>(adoptB q.1 q.2 e).bind λ_=>adoptM r T
   |none=>adoptM r T)
def Bl:Nat->Nat->List AV->List (List AV)
 |0,_,_=>[]
 |n+1,e,l=>l.take e::Bl n e (l.drop e)
def Oq(z:Value):AV:=match KG z with
 |true=>.ls []
 |false=>.v z
def frz0(x:AV):AM AV:=match x with
 |.v z=>AM.ret (Oq z)
 |.sl ..=>AM.fail
 |.agg _=>AM.fail
 |.tup _=>AM.fail
 |x=>AM.ret x
mutual
def frz:Nat->AV->AM AV
 |0,x=>frz0 x
 |n+1,x=>match x with
  |.v z=>AM.ret (Oq z)
  |.sl b o m e=>(AM.getB b).bind λk=>match Aqv (o+m*e) k.cells.length with
   |false=>AM.fail
   |true=>(match k.st with
    |true=>AM.setB b { k with st:=Ξ }
    |false=>AM.ret ()).bind λ_=>match (k.ex||AA ((k.cells.drop o).take (m*e))) with
     |true=>AM.ret (.ls (Bl m e ((k.cells.drop o).take (m*e))))
     |false=>(frzL n ((k.cells.drop o).take (m*e))).bind λcs=>match AA cs with
      |true=>AM.ret (.ls (Bl m e cs))
      |false=>AM.fail
  |.agg cs=>(frzL n cs).bind λcs=>AM.ret (.agg cs)
  |.tup cs=>(frzL n cs).bind λcs=>AM.ret (.tup cs)
  |x=>AM.ret x
def frzL:Nat->List AV->AM (List AV)
 |_,[]=>AM.ret []
 |0,_::_=>AM.fail
 |n+1,x::r=>(frz n x).bind λx=>(frzL n r).bind λr=>AM.ret (x::r)
end
def frzB(b:Nat):AM Unit:=(AM.getB b).bind λk=>match k.ex,k.st with
 |false,U=>(frzL 1000 k.cells).bind λcs=>(AM.getB b).bind λk2=>(match k2.ex,AqO cs.length k2.cells.length with
  |false,U=>AM.setB b { k2 with cells:=cs }
  |_,_=>AM.fail)
 |_,_=>AM.ret ()
def frzT:List Nat->List AV->AM (List AV)
 |[],T=>AM.ret T
 |t::r,T=>match T[t]? with
  |some (.ptr b _)=>(frzB b).bind λ_=>frzT r T
  |some x=>(frz 1000 x).bind λy=>frzT r (T.set t y)
  |none=>frzT r T
def evC(Γ:FuncId->List AV->AM AV)(Λ:Nat->List AV->AM (AX × List AV)):MC->List AV->AM (AX × List AV)
 |.skip,T=>AM.ret (.normal,T)
 |.reg ops bf,T=>regM A Γ ops bf T
 |.seq a b,T=>(evC Γ Λ a T).bind λr=>match r.1 with
  |.normal=>evC Γ Λ b r.2
  |ax=>AM.ret (ax,r.2)
 |.cond c a b,T=>(match AE T c with
  |.v (.bool t)=>(match t with
   |true=>evC Γ Λ a T
   |false=>evC Γ Λ b T)
  |_=>AM.fail)
 |.block id c,T=>(evC Γ Λ c T).bind λr=>match r.1 with
  |.exit i=>if i=id then AM.ret (.normal,r.2) else AM.ret (.exit i,r.2)
  |ax=>AM.ret (ax,r.2)
 |.loop i h,T=>(adoptM h.ad T).bind λT=>(frzT h.fz T).bind λT=>match AqO T.length h.n with
  |true=>(Λ i (B7 h.live T)).bind λr=>AM.ret (r.1,BG (h.out r.1) h.n r.2)
  |false=>AM.fail
 |.exit id,T=>AM.ret (.exit id,T)
 |.ret,T=>AM.ret (.ret,T)
 |.bad,_=>AM.fail
end
mutual
def AV.ids:AV->List Nat
 |.v _=>[]
 |.ptr b _=>[b]
 |.sl b _ _ _=>[b]
 |.ls _=>[]
 |.lp _=>[]
 |.agg cs=>DZ cs
 |.tup cs=>DZ cs
 |.fn _ a c=>DZ a++DZ c
 |.any=>[]
def DZ:List AV->List Nat
 |[]=>[]
 |x::r=>x.ids++DZ r
end
mutual
def AV.ren(τ:Nat->Nat):AV->AV
 |.v x=>.v x
 |.ptr b o=>.ptr (τ b) o
 |.sl b o n e=>.sl (τ b) o n e
 |.ls xs=>.ls xs
 |.lp cs=>.lp cs
 |.agg cs=>.agg (GF τ cs)
 |.tup cs=>.tup (GF τ cs)
 |.fn f a c=>.fn f (GF τ a) (GF τ c)
 |.any=>.any
def GF(τ:Nat->Nat):List AV->List AV
 |[]=>[]
 |x::r=>x.ren τ::GF τ r
end
def ABlk.ren(τ:Nat->Nat)(k:ABlk):ABlk:=match k.ex with
 |true=>k
 |false=>{ k with cells:=GF τ k.cells }
def ABlk.ids(k:ABlk):List Nat:=match k.ex with
 |true=>[]
 |false=>DZ k.cells
inductive BO where
 |keep
 |del
 |set (k:ABlk)
def BO.ids:BO->List Nat
 |.set k=>k.ids
 |_=>[]
def BO.ren(τ:Nat->Nat):BO->BO
 |.keep=>.keep
 |.del=>.del
 |.set k=>.set (k.ren τ)
abbrev DF:=List AV->List ABlk->Option (AV × List BO)
inductive Key where
 |fn (f:Nat)
 |lp (f i:Nat)
inductive Orc where
 |mk (f:Key->List AV->List ABlk->Option (AV × List BO))
 |no
def Orc.ask(D:Orc)(k:Key)(args:List AV)(bs:List ABlk):Option (AV × List BO):=match D with
 |.mk f=>f k args bs
 |.no=>Θ
def EG(b:Nat):List Nat->Bool
 |[]=>Ξ
 |c::r=>match AqO b c with
  |true=>U
  |false=>EG b r
def idx(b:Nat):List Nat->Nat
 |[]=>0
 |c::r=>match AqO b c with
  |true=>0
  |false=>idx b r+1
def trav:Nat->List Nat->List Nat->AM (List Nat)
 |_,[],acc=>AM.ret acc
 |0,_::_,_=>AM.fail
 |n+1,b::r,acc=>match EG b acc with
  |true=>trav n r acc
  |false=>(AM.getB b).bind λk=>trav n (r++k.ids) (acc++[b])
def readAll:List Nat->AM (List ABlk)
 |[]=>AM.ret []
 |b::r=>(AM.getB b).bind λk=>(readAll r).bind λl=>AM.ret (k::l)
def nextB:AM Nat:=λH=>Δ (H.next,H,⟨[],[]⟩)
def writeAll(σ:Nat->Nat):List Nat->List BO->AM (List BO)
 |[],out=>AM.ret out
 |_::_,[]=>AM.fail
 |b::r,o::out=>(match o with
  |.keep=>AM.ret ()
  |.del=>AM.delB b
  |.set k=>AM.setB b (k.ren σ)).bind λ_=>writeAll σ r out
def newAll(σ:Nat->Nat):List BO->AM Unit
 |[]=>AM.ret ()
 |.set k::out=>(AM.newB (k.ren σ)).bind λ_=>newAll σ out
 |_::_=>AM.fail
def W7:List Nat->Nat->Option Nat
 |[],_=>Θ
 |x::_,0=>Δ x
 |_::r,n+1=>W7 r n
def Gt(L:List Nat)(n c:Nat):Nat:=match W7 L c with
 |some b=>b
 |none=>n+(c-L.length)
def MD(n:Nat):List Nat->Bool
 |[]=>U
 |c::r=>match Arx c n with
  |true=>MD n r
  |false=>Ξ
def PT(n:Nat):List BO->Bool
 |[]=>U
 |o::r=>match MD n o.ids with
  |true=>PT n r
  |false=>Ξ
def callD(D:DF)(args:List AV):AM AV:=
 (trav 4096 (DZ args) []).bind λL=>(readAll L).bind λbs=>
  (AM.opt (D (GF (λb=>idx b L) args) (bs.map (ABlk.ren λb=>idx b L)))).bind λr=>
   match MD r.2.length r.1.ids,PT r.2.length r.2 with
   |true,U=>nextB.bind λn=>(writeAll (Gt L n) L r.2).bind λout=>(newAll (Gt L n) out).bind λ_=>AM.ret (r.1.ren (Gt L n))
   |_,_=>AM.fail
def CK:Nat->List ABlk->List (Nat × ABlk)
 |_,[]=>[]
 |n,k::r=>(n,k)::CK (n+1) r
def Uu(H:AH)(wr:List Nat)(b:Nat):BO:=match EG b wr with
 |false=>.keep
 |true=>(match H.get b with
  |some k=>.set k
  |none=>.del)
def Af8(H:AH)(b:Nat):BO:=match H.get b with
 |some k=>.set k
 |none=>.del
def DB:Nat->Nat->List Nat
 |_,0=>[]
 |a,n+1=>a::DB (a+1) n
def Ef(m:List AV->AM AV):DF:=λargs bs=>match m args ⟨CK 0 bs,bs.length,Θ⟩ with
 |some (r,H',ft)=>Δ (r,(DB 0 bs.length).map (Uu H' ft.wr)++(DB bs.length (H'.next-bs.length)).map (Af8 H'))
 |none=>Θ
def Us:List BO->Nat->Option BO
 |[],_=>Θ
 |x::_,0=>Δ x
 |_::r,n+1=>Us r n
def Fa(k:Nat)(out:List BO):Nat->List Nat->List Nat->Option (List Nat)
 |_,[],acc=>Δ acc
 |0,_::_,_=>Θ
 |n+1,b::r,acc=>match Arx b k with
  |true=>Fa k out n r acc
  |false=>match EG b acc with
   |true=>Fa k out n r acc
   |false=>match Us out b with
    |some (.set kb)=>Fa k out n (r++kb.ids) (acc++[b])
    |_=>Θ
def WB(k:Nat)(acc:List Nat)(b:Nat):Nat:=match Arx b k with
 |true=>b
 |false=>k+idx b acc
def ID:List BO->Nat->List BO
 |[],_=>[]
 |_::_,0=>[]
 |x::r,n+1=>x::ID r n
def Uf:List BO->List Nat
 |[]=>[]
 |o::r=>o.ids++Uf r
def SE(τ:Nat->Nat)(out:List BO):List Nat->List BO
 |[]=>[]
 |b::r=>(match Us out b with
  |some o=>o.ren τ
  |none=>.del)::SE τ out r
def Aas(τ:Nat->Nat):List BO->List BO
 |[]=>[]
 |o::r=>o.ren τ::Aas τ r
def Oc(D:DF):DF:=λargs bs=>match D args bs with
 |none=>Θ
 |some (r,out)=>match Fa bs.length out 4096 (r.ids++Uf (ID out bs.length)) []with
  |none=>Θ
  |some acc=>Δ (r.ren (WB bs.length acc),Aas (WB bs.length acc) (ID out bs.length)++SE (WB bs.length acc) out acc)
def Aah(own:List (Nat × Nat))(f i:Nat):Bool:=match own with
 |[]=>Ξ
 |(g,j)::r=>match AqO f g,AqO i j with
  |true,U=>U
  |_,_=>Aah r f i
def frzA(own:List (Nat × Nat))(f:Nat):Nat->List AV->AM (List AV)
 |_,[]=>AM.ret []
 |i,x::r=>match Aah own f i with
  |true=>(frzA own f (i+1) r).bind λr=>AM.ret (x::r)
  |false=>(frz 1000 x).bind λx=>(frzA own f (i+1) r).bind λr=>AM.ret (x::r)
def touchS(x:AV):AM AV:=match x with
 |.sl b o n e=>(AM.getB b).bind λk=>match k.ex with
  |true=>(AM.delB b).bind λ_=>(AM.newB k).bind λc=>AM.ret (.sl c o n e)
  |false=>AM.ret (.sl b o n e)
 |x=>AM.ret x
def touchL:List AV->AM (List AV)
 |[]=>AM.ret []
 |x::r=>(touchS x).bind λx=>(touchL r).bind λr=>AM.ret (x::r)
def touchB(b:Nat):AM Unit:=(AM.getB b).bind λk=>match k.ex,k.st with
 |false,U=>(touchL k.cells).bind λcs=>(AM.getB b).bind λk2=>(match k2.ex,AqO cs.length k2.cells.length with
  |false,U=>AM.setB b { k2 with cells:=cs }
  |_,_=>AM.fail)
 |true,U=>AM.setB b k
 |_,_=>AM.ret ()
def touchI:List Nat->AM Unit
 |[]=>AM.ret ()
 |b::r=>(touchB b).bind λ_=>touchI r
def touchV(x:AV):AM AV:=match x with
 |.sl b o n e=>touchS (.sl b o n e)
 |.agg cs=>(touchL cs).bind λcs=>(touchI (DZ cs)).bind λ_=>AM.ret (.agg cs)
 |x=>(touchI x.ids).bind λ_=>AM.ret x
def touchA:List Bool->List AV->AM (List AV)
 |_,[]=>AM.ret []
 |true::m,x::r=>(touchI x.ids).bind λ_=>(touchA m r).bind λr=>AM.ret (x::r)
 |false::m,x::r=>(touchV x).bind λx=>(touchA m r).bind λr=>AM.ret (x::r)
 |[],x::r=>(touchV x).bind λx=>(touchA [] r).bind λr=>AM.ret (x::r)
def LpH.nt(h:LpH)(x:AX):List Bool:=B7 (h.out x) ((DB 0 h.n).map λt=>EG (1000000+t) (h.dlo x))
def delC(b i:Nat):AM Unit:=(AM.getB b).bind λk=>match k.cells[i]? with
 |some (.sl c _ _ _)=>AM.delB c
 |_=>AM.ret ()
def delT:List Nat->List AV->AM Unit
 |[],_=>AM.ret ()
 |t::r,T=>match T[t]? with
  |some (.sl b _ _ _)=>(AM.delB b).bind λ_=>delT r T
  |some (.ptr b _)=>(AM.delB b).bind λ_=>delT r T
  |_=>(match OF T t with
   |some q=>(delC q.1 q.2).bind λ_=>delT r T
   |none=>delT r T)
inductive MRes where
 |tmp (t:Nat)
 |cell (t:Nat) (row:Bool) (n:Nat)
structure MFn where
 nt:Nat
 res:List MRes
 body:MC
 loops:List (LpH × MC)
 own:Bool
 tch:Bool
def resM(T:List AV):List MRes->AM (List AV)
 |[]=>AM.ret []
 |.tmp t::r=>(resM T r).bind λl=>AM.ret ((T[t]?).getD AV.undef::l)
 |.cell x row n::r=>(loadM row n ((T[x]?).getD AV.undef)).bind λv=>(resM T r).bind λl=>AM.ret (v::l)
def Yq:AX->AV
 |.normal=>.v (.bool Ξ)
 |.ret=>.v (.bool U)
 |.exit i=>.v (.int .i64 (Ar4 i))
 |.goto _=>.any
def Ts:AV->Option AX
 |.v (.bool U)=>Δ .ret
 |.v (.bool Ξ)=>Δ .normal
 |.v (.int .i64 (.ofNat i))=>Δ (.exit i)
 |_=>Θ
section
variable (A:Ar) (D:Orc) (own:List (Nat × Nat))
def callsM(f:FuncId)(args:List AV):AM AV:=(frzA own f 0 args).bind λl=>callD (D.ask (.fn f)) l
def loopsM(f i:Nat)(xs:List AV):AM (AX × List AV):=(callD (D.ask (.lp f i)) xs).bind λr=>match r with
 |.tup (x::ys)=>(match Ts x with
  |some ax=>AM.ret (ax,ys)
  |none=>AM.fail)
 |_=>AM.fail
def fnM(f:Nat)(mf:MFn)(args:List AV):AM AV:=(evC A (callsM D own) (loopsM D f) mf.body (P9 mf.nt args)).bind λr=>match r.1 with
 |.exit _=>AM.fail
 |.goto _=>AM.fail
 |_=>(resM r.2 mf.res).bind λl=>(match mf.own with
  |true=>AM.ret (Ip l)
  |false=>frz 1000 (Ip l)).bind λv=>match mf.tch with
   |true=>(touchI (DZ args)).bind λ_=>AM.ret v
   |false=>AM.ret v
def lpM(f i:Nat)(h:LpH)(c:MC)(xs:List AV):AM AV:=(evC A (callsM D own) (loopsM D f) c (BG h.live h.n xs)).bind λr=>match r.1 with
 |.normal=>(frzT h.fz r.2).bind λT=>(loopsM D f i (B7 h.live T)).bind λq=>AM.ret (.tup (Yq q.1::q.2))
 |.goto _=>AM.fail
 |ax=>(frzT (h.fzo ax) r.2).bind λT=>(delT (h.dlo ax) T).bind λ_=>(touchA (h.nt ax) (B7 (h.out ax) T)).bind λys=>AM.ret (.tup (Yq ax::ys))
end
section
variable (P:Program)
def Qt(t:TypeId):Option Nat:=match P.underlying t with
 |some .bool=>Δ 1
 |some (.int _)=>Δ 0
 |some .string=>Δ 2
 |_=>Θ
def OR:List Field->Nat->Option (List Nat)
 |[],_=>Δ []
 |f::r,n=>if(f.offset == n&&f.name != "_"&&(BM P f.type == Δ Ξ))=U then(match Qt P f.type,OR r (n+1) with
  |some k,Δ ks=>Δ (k::ks)
  |_,_=>Θ) else Θ
def eqS(t:TypeId):Option (List Nat):=match P.underlying t with
 |some (.struct fs)=>if(!P.stoodInHeld t&&!P.eqGuardType P.depth t)=U then OR P fs.toList 0 else Θ
 |_=>Θ
def Fw(t:TypeId):Nat:=match P.underlying t with
 |some (.pointer _)=>1
 |some (.slice _)=>2
 |some (.func ..)=>3
 |some .bool=>4
 |some (.int _)=>0
 |some .string=>0
 |_=>9
def Lo(t:TypeId):Option (Nat × List Value × Nat):=match BS P t with
 |some et=>(match P.info? et,Cu P et with
  |some i,Δ z=>if z.cells.size=i.size/\0<i.size then Δ (i.size,z.cells.toList,i.bytes) else Θ
  |_,_=>Θ)
 |none=>Θ
def TD(ents:Nat)(o:Op):MO:=match o with
 |.move x=>.mv x
 |.assign x=>.mv x
 |.pick c a b=>.pick c a b
 |.alloc t=>(match Cu P t with
  |some z=>.alloc z.cells.toList
  |none=>.bad)
 |.box _ x=>.box x
 |.build t ps=>(match Cu P t,Ch P t with
  |some z,Δ fs=>(match Ic P fs.toList with
   |some pl=>.buildS z.cells.toList pl ps.toList
   |none=>.bad)
  |some z,Θ=>(match Mx P t with
   |some et=>(match C3 P et with
    |some e=>.buildR z.cells.toList e ps.toList
    |none=>.bad)
   |none=>.bad)
  |_,_=>.bad)
 |.buildSlice t n ps=>(match BS P t with
  |some et=>(match C3 P et,Cu P et with
   |some e,Δ z=>.buildSl z.cells.toList e n ps.toList
   |_,_=>.bad)
  |none=>.bad)
 |.load t a=>(match BM P t,C3 P t with
  |some U,Δ n=>.ld U n a
  |some Ξ,_=>.ld Ξ 0 a
  |_,_=>.bad)
 |.store t a x=>(match C3 P t with
  |some n=>.st n a x
  |none=>.bad)
 |.nilCheck x=>.nilck x
 |.binOp b t x y _=>(match eqS P t with
  |some ks=>(match b with
   |.eql=>.eqs Ξ ks x y
   |.neq=>.eqs U ks x y
   |_=>.bad)
  |none=>(match Fw P t with
   |9=>.bad
   |k=>.bin k b x y))
 |.unOp .not _ x=>.not x
 |.unOp .neg _ x=>.neg x
 |.makeFunc f a c=>.mkfn f a.toList c.toList
 |.slice t x lo hi Θ=>(match BS P t with
  |some et=>(match C3 P et with
   |some e=>.slice e x lo hi
   |none=>.bad)
  |none=>if BE P t then .sslice x lo hi else .bad)
 |.fieldAddr t a f=>(match Ch P t with
  |some fs=>(match fs[f]? with
   |some fd=>(match C3 P fd.type with
    |some (_+1)=>.faddr fd.offset a
    |_=>.bad)
   |none=>.bad)
  |none=>.bad)
 |.field t x f=>(match Ch P t with
  |some fs=>(match fs[f]? with
   |some fd=>(match BM P fd.type,C3 P fd.type with
    |some U,Δ n=>.field U fd.offset n x
    |some Ξ,_=>.field Ξ fd.offset 0 x
    |_,_=>.bad)
   |none=>.bad)
  |none=>.bad)
 |.indexAddr t x i=>(match BS P t,Og P t with
  |some et,_=>(match C3 P et with
   |some e=>.iaddr e x i
   |none=>.bad)
  |none,Δ (n,et)=>(match C3 P et with
   |some e=>.aaddr n e x i
   |none=>.bad)
  |_,_=>.bad)
 |.index t x i=>(match Og P t with
  |some (n,et)=>(match C3 P et,BM P et with
   |some e,Δ U=>.index n e U e x i
   |some e,Δ Ξ=>.index n e Ξ 0 x i
   |_,_=>.bad)
  |none=>if BE P t then .sidx x i else .bad)
 |.convert s d x=>(match P.underlying s,P.underlying d with
  |some (.int _),Δ (.int k)=>.iconv k x
  |_,_=>(match C5 P s,BE P d with
   |true,U=>.str x
   |_,_=>.bad))
 |.extract x i=>.ext x i
 |.makeSlice t l c=>(match Lo P t with
  |some (e,z,by')=>.mksl z e by' l c
  |none=>.bad)
 |.call c=>(match c.callee with
  |.builtin .append=>(match c.args.toList,c.argTypes.toList with
   |[s,x],[t,u]=>(match Lo P t,CB P u with
    |some (e,_,by'),U=>.app e by' s x
    |some (e,z,by'),Ξ=>(match KF P u with
     |true=>.appz z e by' s x
     |false=>.bad)
    |_,_=>.bad)
   |_,_=>.bad)
  |.builtin .copy=>(match c.args.toList,c.argTypes.toList with
   |[d,x],[t,u]=>(match BS P t,CB P u with
    |some et,U=>(match C3 P et with
     |some e=>.cpy e d x
     |none=>.bad)
    |_,_=>.bad)
   |_,_=>.bad)
  |.builtin .clear=>(match c.args.toList,c.argTypes.toList with
   |[x],[t]=>(match BS P t with
    |some et=>(match C3 P et,Cu P et with
     |some e,Δ z=>if z.cells.size=e/\0<e/\(z.cells.toList.map AV.v).all AV.one=U then .clr z.cells.toList e x else .bad
     |_,_=>.bad)
    |none=>.bad)
   |_,_=>.bad)
  |.builtin .len=>(match c.args.toList,c.argTypes.toList with
   |[x],[t]=>if CB P t then .len U x else if BE P t then .len Ξ x else .bad
   |_,_=>.bad)
  |.builtin .max=>(match c.args.toList with
   |[x,y]=>.mx x y
   |_=>.bad)
  |.builtin .min=>(match c.args.toList with
   |[x,y]=>.mn x y
   |_=>.bad)
  |.builtin _=>.bad
  |.value f=>(match f with
   |.func g=>if Fo P g then .callF g c.args.toList else .bad
   |_=>.callV ents f c.args.toList)
  |.invoke ..=>.bad)
 |_=>.bad
def YC(ops:Array Oper)(g:Option (Nat × Bool)):Option (Option (Nat × Bool)):=match g with
 |none=>Δ Θ
 |some (j,want)=>match (ops[j]?).bind (·.dst) with
  |some d=>Δ (Δ (d,want))
  |none=>Θ
def Iw(ents:Nat)(ops:Array Oper)(o:Oper):MOp:=match YC ops o.guard with
 |some g=>⟨o.dst,TD P ents o.op,g⟩
 |none=>⟨o.dst,.bad,Θ⟩
abbrev Jf:=List LpH
def Bi(ents:Nat)(hs:Jf):Code->Nat->MC × List (LpH × MC)
 |.skip,_=>(.skip,[])
 |.region _ ops d,_=>(.reg (ops.toList.map (Iw P ents ops)) (if d then Δ (Rd ops) else Θ),[])
 |.seq a b,n=>match Bi ents hs a n with
  |(ma,la)=>match Bi ents hs b (n+la.length) with
   |(mb,lb)=>(.seq ma mb,la++lb)
 |.cond c a b,n=>match Bi ents hs a n with
  |(ma,la)=>match Bi ents hs b (n+la.length) with
   |(mb,lb)=>(.cond c ma mb,la++lb)
 |.block id c,n=>match Bi ents hs c n with
  |(mc,lc)=>(.block id mc,lc)
 |.loop c,n=>match Bi ents hs c (n+1),hs[n]? with
  |(mc,lc),Δ h=>(.loop n h,(h,mc)::lc)
  |(mc,lc),Θ=>(.bad,(⟨0,[],[],[],[]⟩,mc)::lc)
 |.exit id,_=>(.exit id,[])
 |.ret,_=>(.ret,[])
 |_,_=>(.bad,[])
def Ix(rs:List ResultVar):List MRes:=rs.map λr=>match r with
 |.tmp t=>.tmp t
 |.cell t ty=>match BM P ty,C3 P ty with
  |some U,Δ n=>.cell t U n
  |some Ξ,_=>.cell t Ξ 0
  |_,_=>.tmp 1000000
end
section
variable {P:Program}
@[simp] theorem BY{α:Type}(a:α):Aq P (pure a:Sem α)=Δ a:=rfl
@[simp] theorem AbR{α:Type}(a:α):Aq P (Sem.pure a:Sem α)=Δ a:=rfl
theorem IB{α β:Type}(k:α->Sem β):∀(s:Sem α),Aq P (s.bind k)=(Aq P s).bind λa=>Aq P (k a)
 |.pure a=>rfl
 |.program f=>by simp only[Sem.bind,Aq];exact IB k (f P)
 |.load ..=>rfl
 |.store ..=>rfl
 |.new ..=>rfl
 |.shape ..=>rfl
 |.freeze ..=>rfl
 |.frozen ..=>rfl
 |.getObj ..=>rfl
 |.setObj ..=>rfl
 |.choose ..=>rfl
 |.sys ..=>rfl
 |.mark ..=>rfl
 |.halt ..=>rfl
@[simp] theorem Ap{α β:Type}(s:Sem α)(k:α->Sem β):Aq P (s >>= k)=(Aq P s).bind λa=>Aq P (k a):=IB k s
@[simp] theorem L6:Aq P program=Δ P:=rfl
theorem AD{t:TypeId}{d:TypeDesc}(h:P.underlying t=Δ d):Aq P (underlying t)=Δ d:=by
 unfold underlying;simp[h]
theorem Nq{t:TypeId}(h:Fw P t=1):∃ e,P.underlying t=Δ (.pointer e):=by
 unfold Fw at h;split at h<;>first|exact⟨_,‹_›⟩|cases h
theorem Vi{t:TypeId}(h:Fw P t=2):∃ e,P.underlying t=Δ (.slice e):=by
 unfold Fw at h;split at h<;>first|exact⟨_,‹_›⟩|cases h
theorem Vh{t:TypeId}(h:Fw P t=3):∃ a b c,P.underlying t=Δ (.func a b c):=by
 unfold Fw at h;split at h<;>first|exact⟨_,_,_,‹_›⟩|cases h
theorem WR{t:TypeId}(h:Fw P t=4):P.underlying t=Δ .bool:=by
 unfold Fw at h;split at h<;>first|assumption|cases h
theorem OV{o:Oper}{b:BinOp}{t yt:TypeId}{x y:Operand}(ho:o.op=.binOp b t x y yt){ρ:Operand->AV}{u v z:Value}(hx:(ρ x).toVal=Δ u)(hy:(ρ y).toVal=Δ v)
  (h:Aq P (do eqGuard b t x y u v;binOp b t u v)=Δ z):Ci P o ρ=Δ (D3 z):=by
 have e1:BF ρ x=u:=by unfold BF;rw[hx];rfl
 have e2:BF ρ y=v:=by unfold BF;rw[hy];rfl
 have c:(BJ o.op&&o.op.operands.toList.all λx=>(ρ x).toVal.isSome)=U:=by
  rw[ho];simp[BJ,Op.operands,hx,hy]
 unfold Ci;rw[if_pos c];have:Aq P (execOp (BF ρ) o)=Δ (.value z):=by
  unfold execOp;rw[ho];simp only[e1,e2];rw[Ap,h];rfl
 rw[this];rfl
theorem M0{o:Oper}{b:BinOp}{t yt:TypeId}{x y:Operand}(ho:o.op=.binOp b t x y yt){ρ:Operand->AV}{u v z:Value}(hx:ρ x=.v u)(hy:ρ y=.v v)
  (h:Aq P (do eqGuard b t x y u v;binOp b t u v)=Δ z):Ci P o ρ=Δ (D3 z):=OV ho (by rw[hx];rfl) (by rw[hy];rfl) h
theorem Zs{o:Oper}{t:TypeId}{x:Operand}(ho:o.op=.unOp .not t x){ρ:Operand->AV}{c:Bool}(hx:ρ x=.v (.bool c)):Ci P o ρ=Δ (.v (.bool !c)):=by
 have e1:BF ρ x=.bool c:=by unfold BF;rw[hx];rfl
 have cc:(BJ o.op&&o.op.operands.toList.all λx=>(ρ x).toVal.isSome)=U:=by
  rw[ho];simp[BJ,Op.operands,hx,AV.toVal]
 unfold Ci;rw[if_pos cc];have:Aq P (execOp (BF ρ) o)=Δ (.value (.bool !c)):=by
  unfold execOp;rw[ho];simp only[e1];rw[Ap];rfl
 rw[this];rfl
theorem Zr{o:Oper}{t:TypeId}{x:Operand}(ho:o.op=.unOp .neg t x){ρ:Operand->AV}{k:IntKind}{n:Int}(hx:ρ x=.v (.int k n)):Ci P o ρ=Δ (.v (.int k (Ah.sub k 0 n))):=by
 have e1:BF ρ x=.int k n:=by unfold BF;rw[hx];rfl
 have cc:(BJ o.op&&o.op.operands.toList.all λx=>(ρ x).toVal.isSome)=U:=by
  rw[ho];simp[BJ,Op.operands,hx,AV.toVal]
 unfold Ci;rw[if_pos cc];have:Aq P (execOp (BF ρ) o)=Δ (.value (.int k (Ah.sub k 0 n))):=by
  unfold execOp;rw[ho];simp only[e1];rw[Ap];rfl
 rw[this];rfl
theorem WH{b:BinOp}{t:TypeId}{x y:Operand}{k k':IntKind}{a c:Int}:Aq P (eqGuard b t x y (.int k a) (.int k' c))=Δ ():=by
 unfold eqGuard
 cases b<;>simp
theorem WI{b:BinOp}{t:TypeId}{x y:Operand}{a c:ByteArray}:Aq P (eqGuard b t x y (.string a) (.string c))=Δ ():=by
 unfold eqGuard
 cases b<;>simp
theorem Ab0{o:Oper}{b:BinOp}{t yt:TypeId}{x y:Operand}(ho:o.op=.binOp b t x y yt){ρ:Operand->AV}{k k':IntKind}{a c:Int}(hx:ρ x=.v (.int k a))(hy:ρ y=.v (.int k' c)){z:Value}(hz:Aq P (binOp b t (.int k a) (.int k' c))=Δ z):Ci P o ρ=Δ (D3 z):=
 M0 ho hx hy (by rw[Ap,WH];exact hz)
theorem We{o:Oper}{b:BinOp}{t yt:TypeId}{x y:Operand}(ho:o.op=.binOp b t x y yt){ρ:Operand->AV}{r:AV}(h:Jj Ah b (ρ x) (ρ y)=Δ r):Ci P o ρ=Δ r/\EW P t (ρ x) (ρ y)=Ξ:=by
 unfold Jj at h;split at h
 .rename_i k a k' c hx hy
  refine⟨?_,by rw[hx,hy];rfl⟩;have key:∀ z,Aq P (binOp b t (.int k a) (.int k' c))=Δ z->Ci P o ρ=Δ (D3 z):=λz hz=>Ab0 ho hx hy hz
  have shf:∀{op:BinOp} {v:Value},¬ c<0->(∀ n,n=Arl c.toNat k.bits->Aq P (match op with
    |.shl=>(pure (.int k (k.wrap (a*2 ^ n))):Sem Value)
    |.shr=>pure (.int k (a.fdiv (2 ^ n)))
    |_=>stuck "shift: << >> expected")=Δ v)->Aq P (Op.shift op k a k' c)=Δ v:=λ{op v} hc hv=>by
   unfold Op.shift;rw[if_neg hc];exact hv _ rfl
  have div:∀{op:BinOp} {v:Value},¬ c=0->Aq P (match op with
    |.quo=>(pure (.int k (k.wrap (a.tdiv c))):Sem Value)
    |.rem=>pure (.int k (a.tmod c))
    |_=>stuck "intDiv: / % expected")=Δ v->Aq P (Op.intDiv op k a c)=Δ v:=λ{op v} hc hv=>by
   unfold Op.intDiv;rw[if_neg hc];exact hv
  cases b with
  |shl=>
   simp only at h
   cases e:Ah.lt c 0 with
   |true=>rw[e]at h;cases h
   |false=>
    rw[e]at h;simp only[Ψ]at h;subst h;have hc:¬ c<0:=of_decide_eq_false e;exact key (.int k (Ah.shl k a c)) (by
     show Aq P (Op.shift .shl k a k' c)=_
     exact shf hc λn hn=>by rw[hn];rfl)
  |shr=>
   simp only at h
   cases e:Ah.lt c 0 with
   |true=>rw[e]at h;cases h
   |false=>
    rw[e]at h;simp only[Ψ]at h;subst h;have hc:¬ c<0:=of_decide_eq_false e;exact key (.int k (Ah.shr k a c)) (by
     show Aq P (Op.shift .shr k a k' c)=_
     exact shf hc λn hn=>by rw[hn];rfl)
  |_=>
   simp only at h;split at h
   .rename_i hk
    subst hk
    try simp only[Ψ,reduceCtorEq]at h
    first
     | (subst h
        first
         |exact key (.int k (k.wrap (a+c))) (by simp[binOp,Op.intArith])
         |exact key (.int k (k.wrap (a-c))) (by simp[binOp,Op.intArith])
         |exact key (.int k (k.wrap (a*c))) (by simp[binOp,Op.intArith])
         |exact key (.int k (Ah.bits .and k a c)) (by simp[binOp,Op.intBits,Ah,Gi,Ar.bits,Rh])
         |exact key (.int k (Ah.bits .or k a c)) (by simp[binOp,Op.intBits,Ah,Gi,Ar.bits,Rh])
         |exact key (.int k (Ah.bits .xor k a c)) (by simp[binOp,Op.intBits,Ah,Gi,Ar.bits,Rh])
         |exact key (.int k (Ah.bits .andNot k a c)) (by simp[binOp,Op.intBits,Ah,Gi,Ar.bits,Rh])
         |exact key (.bool (a == c)) (by simp[binOp,Op.intCmp])
         |exact key (.bool (a != c)) (by simp[binOp,Op.intCmp])
         |exact key (.bool (decide (a<c))) (by simp[binOp,Op.intCmp])
         |exact key (.bool (decide (a<=c))) (by simp[binOp,Op.intCmp])
         |exact key (.bool (decide (c<a))) (by simp[binOp,Op.intCmp])
         |exact key (.bool (decide (c<=a))) (by simp[binOp,Op.intCmp]))
     | (cases e:Ah.eq c 0 with
        |true=>rw[e]at h;cases h
        |false=>
         rw[e]at h;simp only[Ψ]at h;subst h;have hc:¬ c=0:=λe0=>by subst e0;exact absurd e (by simp[Ah,Gi,Ar.eq])
         first
          |exact key (.int k (Ah.quo k a c)) (by
            have:binOp .quo t (.int k a) (.int k c)=Op.intDiv .quo k a c:=by simp[binOp]
            rw[this];exact div hc rfl)
          |exact key (.int k (Ah.rem k a c)) (by
            have:binOp .rem t (.int k a) (.int k c)=Op.intDiv .rem k a c:=by simp[binOp]
            rw[this];exact div hc rfl))
   .cases h
 .rename_i a c hx hy
  refine⟨?_,by rw[hx,hy];rfl⟩;have key:∀ z,Aq P (binOp b t (.string a) (.string c))=Δ z->Ci P o ρ=Δ (D3 z):=λz hz=>M0 ho hx hy (by rw[Ap,WI];exact hz)
  cases b with
  |add=>
   simp only at h
   cases e:Aqv (Ah.slen a+Ah.slen c) 9223372036854775807 with
   |false=>rw[e]at h;cases h
   |true=>
    rw[e]at h;simp only[Ψ]at h;subst h;have e1:a.size+c.size<=9223372036854775807:=Nat.le_of_ble_eq_true e;refine key (.string (a++c)) ?_;simp only[binOp,Op.stringOp];rw[if_neg (by
     have:IntKind.i64.max=9223372036854775807:=by decide
     rw[this];omega)]
    rfl
  |eql=>simp only[Ψ]at h;subst h;exact key (.bool (a.toList == c.toList)) (by simp[binOp,Op.stringOp])
  |neq=>simp only[Ψ]at h;subst h;exact key (.bool !(a.toList == c.toList)) (by simp[binOp,Op.stringOp])
  |lss=>simp only[Ψ]at h;subst h;exact key (.bool (Op.bytesLess a.toList c.toList)) (by simp[binOp,Op.stringOp])
  |geq=>simp only[Ψ]at h;subst h;exact key (.bool !(Op.bytesLess a.toList c.toList)) (by simp[binOp,Op.stringOp])
  |_=>cases h
 .cases h
def Wd(P:Program)(o:Oper)(b:BinOp)(t:TypeId)(x y:Operand)(ρ:Operand->AV):AM AV:=if EW P t (ρ x) (ρ y)=U then(match b with
   |.eql=>AM.ret (.v (.bool Ξ))
   |.neq=>AM.ret (.v (.bool U))
   |_=>AM.fail) else AM.opt (Ci P o ρ)
theorem Ace{t:TypeId}{x y:Operand}{u v:Value}(hu:∀ us vs,¬ (u=.agg us/\v=.agg vs))(hn:u≠.nilIface){b:BinOp}:Aq P (eqGuard b t x y u v)=Δ ():=by
 have key:Aq P (match u,v with
  |.nilIface,.nilIface=>do
   if(x matches .const _)||(y matches .const _) then return
   if ←Op.eqGuardIn Op.maxDepth t u v then unsupported (.noEntry "binop/eql: two nil values of an interface type with methods, neither of them the literal nil")
  |.agg _,.agg _=>do
   if !(←program).eqGuardType (←program).depth t then return
   if ←Op.eqGuardIn Op.maxDepth t u v then unsupported (.noEntry "binop/eql: two nil values of an interface type with methods, in a part of a struct or an array")
  |_,_=>pure ())=Δ ():=by
  split
  .exact absurd rfl hn
  .exact absurd ⟨rfl,rfl⟩ (hu _ _)
  .rfl
 unfold eqGuard
 cases b<;>first
  |rfl
  |exact key
theorem P7{o:Oper}{b:BinOp}{t yt:TypeId}{x y:Operand}(ho:o.op=.binOp b t x y yt){ρ:Operand->AV}{u v:Value}{c:Bool}(hx:ρ x=.v u)(hy:ρ y=.v v)
  (hu:∀ us vs,¬ (u=.agg us/\v=.agg vs)) (hn:u≠.nilIface) (hi:∀ k a k' c,¬ (u=.int k a/\v=.int k' c)) (hfl:∀ k a,u≠.float k a) (hc:∀ k a c,u≠.complex k a c) (hs:∀ a,u≠.string a)
  (h:Aq P (Op.equal t u v)=Δ c) (hb:b=.eql\/b=.neq):Ci P o ρ=Δ (.v (.bool (if b=.eql then c else !c))):=by
 have:Ci P o ρ=Δ (D3 (.bool (if b=.eql then c else !c))):=by
  refine M0 ho hx hy ?_;rw[Ap,Ace hu hn];rcases hb with rfl|rfl
  .cases u<;>first
    |(exfalso;first|exact hfl _ _ rfl|exact hc _ _ _ rfl|exact hs _ rfl)
    |(cases v<;>first
      |(exfalso;exact hi _ _ _ _ ⟨rfl,rfl⟩)
      |(simp only[AqU,Go.binOp,Ap,h,BY];rfl))
  .cases u<;>first
    |(exfalso;first|exact hfl _ _ rfl|exact hc _ _ _ rfl|exact hs _ rfl)
    |(cases v<;>first
      |(exfalso;exact hi _ _ _ _ ⟨rfl,rfl⟩)
      |(simp only[AqU,Go.binOp,Ap,h,BY];rfl))
 exact this
theorem Ww{t:TypeId}(hu:P.underlying t=Δ .bool)(d:Nat)(a c:Bool):Aq P (Op.equalIn (d+1) t (.bool a) (.bool c))=Δ (a == c):=by
 unfold Op.equalIn;rw[Ap,AD hu];rfl
theorem Zd{t e:TypeId}(hu:P.underlying t=Δ (.pointer e))(d:Nat):Aq P (Op.equalIn (d+1) t (.pointer Θ) (.pointer Θ))=Δ U:=by
 unfold Op.equalIn;rw[Ap,AD hu];rfl
theorem Acd{t e:TypeId}(hu:P.underlying t=Δ (.slice e))(d:Nat):Aq P (Op.equalIn (d+1) t (.slice Θ 0 0) (.slice Θ 0 0))=Δ U:=by
 unfold Op.equalIn;rw[Ap,AD hu];rfl
theorem Acb{t:TypeId}{a b:Array TypeId}{c:Bool}(hu:P.underlying t=Δ (.func a b c))(d:Nat):Aq P (Op.equalIn (d+1) t .nilFunc .nilFunc)=Δ U:=by
 unfold Op.equalIn;rw[Ap,AD hu];rfl
theorem RD{o:Oper}{b:BinOp}{t yt:TypeId}{x y:Operand}(ho:o.op=.binOp b t x y yt){ρ:Operand->AV}{ek:Nat}(hk:Fw P t=ek){c:Bool}(h:eqM Ah ek (ρ x) (ρ y)=Δ c)(hb:b=.eql\/b=.neq) :
  Wd P o b t x y ρ=AM.ret (.v (.bool (if b=.eql then c else !c))):=by
 unfold eqM at h;unfold Wd;split at h<;>simp only[Ψ,reduceCtorEq]at h<;>try subst h
 .-- bool
  rename_i a c hx hy;have hu:=WR hk;rw[if_neg (by rw[hx,hy];simp[EW])];have:Aq P (Op.equal t (.bool a) (.bool c))=Δ (a == c):=Ww hu 9999 a c;rw[P7 ho hx hy (by simp) (by simp) (by simp) (by simp) (by simp) (by simp) this hb];rfl
 .rename_i hx hy
  obtain⟨e,hu⟩:=Nq hk;rw[if_pos (by rw[hx,hy];simp[EW,hu])];rcases hb with rfl|rfl<;>rfl
 .rename_i hx hy
  obtain⟨e,hu⟩:=Nq hk;rw[if_pos (by rw[hx,hy];simp[EW,hu])];rcases hb with rfl|rfl<;>rfl
 .rename_i hx hy
  obtain⟨e,hu⟩:=Nq hk;rw[if_neg (by rw[hx,hy];simp[EW])];have:Aq P (Op.equal t (.pointer Θ) (.pointer Θ))=Δ U:=Zd hu 9999;rw[P7 ho hx hy (by simp) (by simp) (by simp) (by simp) (by simp) (by simp) this hb];rfl
 .rename_i hx hy
  obtain⟨e,hu⟩:=Vi hk;rw[if_pos (by rw[hx,hy];simp[EW,hu])];rcases hb with rfl|rfl<;>rfl
 .rename_i hx hy
  obtain⟨e,hu⟩:=Vi hk;rw[if_neg (by rw[hx,hy];simp[EW])];have:Aq P (Op.equal t (.slice Θ 0 0) (.slice Θ 0 0))=Δ U:=Acd hu 9999;rw[P7 ho hx hy (by simp) (by simp) (by simp) (by simp) (by simp) (by simp) this hb];rfl
 .rename_i hx hy
  obtain⟨e,e2,e3,hu⟩:=Vh hk;rw[if_pos (by rw[hx,hy];simp[EW,hu])];rcases hb with rfl|rfl<;>rfl
 .rename_i hx hy
  obtain⟨e,e2,e3,hu⟩:=Vh hk;rw[if_neg (by rw[hx,hy];simp[EW])];have:Aq P (Op.equal t .nilFunc .nilFunc)=Δ U:=Acb hu 9999;rw[P7 ho hx hy (by simp) (by simp) (by simp) (by simp) (by simp) (by simp) this hb];rfl
def IL:Nat->Value->Value->Option Bool
 |1,.bool a,.bool b=>Δ (a == b)
 |0,.int k a,.int k' b=>if k=k' then Δ (a == b) else Θ
 |2,.string a,.string b=>Δ (a == b)
 |_,_,_=>Θ
def Dr:List Nat->List Value->List Value->Option Bool
 |[],[],[]=>Δ U
 |k::ks,u::us,v::vs=>(match IL k u v,Dr ks us vs with
  |some a,Δ b=>Δ (a&&b)
  |_,_=>Θ)
 |_,_,_=>Θ
theorem HE(a b:ByteArray):(a == b)=(a.data == b.data):=by
 cases a;cases b;rfl
theorem Rm(a b:ByteArray):(a.toList == b.toList)=(a == b):=by
 rw[Go.ByteArray.toList_eq,Go.ByteArray.toList_eq,HE];simp
theorem Jr:∀{ks:List Nat} {xs ys:List AV} {c:Bool},Ze Ah ks xs ys=Δ c->∃ us vs,vals xs=Δ us/\vals ys=Δ vs/\Dr ks us vs=Δ c
 |[],[],[],c,h=>by simp only[Ze,Ψ]at h;subst h;exact⟨[],[],rfl,rfl,rfl⟩
 |ks,xs,ys,c,h=>by
  unfold Ze at h;split at h
  .simp only[Ψ]at h;subst h;exact⟨[],[],rfl,rfl,rfl⟩
  .rename_i ks a r b q
   cases e:Ze Ah ks r q with
   |none=>rw[e]at h;cases h
   |some t=>
    rw[e]at h;simp only[Ψ]at h;subst h;obtain⟨us,vs,h1,h2,h3⟩:=Jr e;exact⟨.bool a::us,.bool b::vs,by simp only[vals,h1],by simp only[vals,h2],by simp only[Dr,IL,h3];rfl⟩
  .rename_i ks k a r k' b q
   split at h
   .rename_i hk
    cases e:Ze Ah ks r q with
    |none=>rw[e]at h;cases h
    |some t=>
     rw[e]at h;simp only[Ψ]at h;subst h;obtain⟨us,vs,h1,h2,h3⟩:=Jr e;exact⟨.int k a::us,.int k' b::vs,by simp only[vals,h1],by simp only[vals,h2],by simp only[Dr,IL,h3,if_pos hk];rfl⟩
   .cases h
  .rename_i ks a r b q
   cases e:Ze Ah ks r q with
   |none=>rw[e]at h;cases h
   |some t=>
    rw[e]at h;simp only[Ψ]at h;subst h;obtain⟨us,vs,h1,h2,h3⟩:=Jr e;refine⟨.string a::us,.string b::vs,by simp only[vals,h1],by simp only[vals,h2],?_⟩;simp only[Dr,IL,h3]
    show Δ ((a == b)&&t)=Δ ((a.toList == b.toList)&&t)
    rw[Rm]
  .cases h
theorem Wy{t:TypeId}{k:Nat}(hk:Qt P t=Δ k){u v:Value}{c:Bool}(h:IL k u v=Δ c)(d:Nat):Aq P (Op.equalIn (d+1) t u v)=Δ c:=by
 unfold IL at h;unfold Qt at hk;split at h
 .simp only[Ψ]at h
  subst h;split at hk<;>simp only[Ψ,reduceCtorEq]at hk<;>try (exact absurd hk (by decide))
  rename_i hu;unfold Op.equalIn;rw[Ap,AD hu];rfl
 .split at h
  .rename_i ek
   simp only[Ψ]at h;subst h;split at hk<;>simp only[Ψ,reduceCtorEq]at hk<;>try (exact absurd hk (by decide))
   rename_i hu;unfold Op.equalIn;rw[Ap,AD hu];simp only[AqU,ek,if_true];rfl
  .cases h
 .simp only[Ψ]at h
  subst h;split at hk<;>simp only[Ψ,reduceCtorEq]at hk<;>try (exact absurd hk (by decide))
  rename_i hu;unfold Op.equalIn;rw[Ap,AD hu];rfl
 .cases h
theorem Ph{t:TypeId}(h:BM P t=Δ Ξ){cs:Array Value}{n:Nat}{u:Value}(hu:cs[n]? = Δ u):Aq P (part t cs n)=Δ u:=by
 unfold part;have:Aq P (isAgg t)=Δ Ξ:=by
  unfold isAgg;unfold BM at h
  cases e:P.underlying t with
  |none=>rw[e]at h;cases h
  |some d=>
   rw[e]at h;simp only[AqQ,Ψ]at h;rw[Ap,AD e]
   cases d<;>first | (simp[ZL]at h;done) | rfl
 rw[Ap,this];simp[hu]
theorem Kr{o:Oper}{ρ:Operand->AV}{z:Value}(hn:BJ o.op=U)(ha:(o.op.operands.toList.all λx=>(ρ x).toVal.isSome)=U)(h:Aq P (execOp (BF ρ) o)=Δ (.value z)):Ci P o ρ=Δ (D3 z):=by
 unfold Ci;rw[if_pos (by rw[hn,ha];rfl),h];rfl
theorem E0{ρ:Operand->AV}{x:Operand}{u:Value}(h:ρ x=.v u):BF ρ x=u:=by unfold BF;rw[h];rfl
theorem Jq{xs ys:Array Value}(d:Nat):∀(fs:List Field) (n:Nat) {ks:List Nat} {us vs:List Value} {c:Bool},OR P fs n=Δ ks->Dr ks us vs=Δ c->(∀(i:Nat) u,us[i]? = Δ u->xs[n+i]? = Δ u)->(∀(i:Nat) u,vs[i]? = Δ u->ys[n+i]? = Δ u)->Aq P (Op.eqFields (d+1) xs ys fs)=Δ c
 |[],n,ks,us,vs,c,hf,hc,hx,hy=>by
  simp only[OR,Ψ]at hf;subst hf
  cases us<;>cases vs<;>simp only[Dr,Ψ,reduceCtorEq]at hc
  subst hc;rfl
 |f::r,n,ks,us,vs,c,hf,hc,hx,hy=>by
  simp only[OR]at hf;split at hf
  .rename_i h1
   simp only[Aqr,beq_iff_eq,bne_iff_ne]at h1;obtain⟨⟨h1,h2⟩,h3⟩:=h1
   cases e1:Qt P f.type with
   |none=>rw[e1]at hf;cases hf
   |some k=>
    cases e2:OR P r (n+1) with
    |none=>rw[e1,e2]at hf;cases hf
    |some ks'=>
     rw[e1,e2]at hf;simp only[Ψ]at hf;subst hf
     cases us with
     |nil=>simp[Dr]at hc
     |cons u us=>
      cases vs with
      |nil=>simp[Dr]at hc
      |cons v vs=>
       simp only[Dr]at hc
       cases e3:IL k u v with
       |none=>rw[e3]at hc;cases hc
       |some a=>
        cases e4:Dr ks' us vs with
        |none=>rw[e3,e4]at hc;cases hc
        |some b=>
         rw[e3,e4]at hc;simp only[Ψ]at hc;subst hc;have ih:=Jq d r (n+1) e2 e4 (λi u hi=>by have:=hx (i+1) u (by simpa using hi);rwa [show n+1+i=n+(i+1) by omega]) (λi u hi=>by have:=hy (i+1) u (by simpa using hi);rwa [show n+1+i=n+(i+1) by omega]);unfold Op.eqFields;rw[if_pos h2,h1,Ap,Ph h3 (show xs[n]? = Δ u from hx 0 u rfl)];simp only[AqU];rw[Ap,Ph h3 (show ys[n]? = Δ v from hy 0 v rfl)];simp only[AqU];rw[Ap,Wy e1 e3 d];simp only[AqU]
         cases a with
         |true=>simpa using ih
         |false=>simp
  .cases hf
theorem RC{t:TypeId}{fs:Array Field}(ht:P.underlying t=Δ (.struct fs))(hp:P.stoodInHeld t=Ξ)(d:Nat)(xs ys:Array Value):Aq P (Op.equalIn (d+1) t (.agg xs) (.agg ys))=Aq P (Op.eqFields d xs ys fs.toList):=by
 unfold Op.equalIn;rw[Ap,AD ht];simp only[AqU,Ap,L6,hp,Asa,if_false];rw[←Array.forIn_toList];generalize fs.toList=l;clear ht
 induction l with
 |nil=>simp[Op.eqFields]
 |cons f fs ih=>
  simp only[List.forIn_cons,Op.eqFields];split
  .simp only[Ap]
   cases Aq P (part f.type xs f.offset) with
   |none=>rfl
   |some a=>
    simp only[AqU,Ap]
    cases Aq P (part f.type ys f.offset) with
    |none=>rfl
    |some b=>
     simp only[AqU,Ap]
     cases Aq P (Op.equalIn d f.type a b) with
     |none=>rfl
     |some r=>
      cases r
      .simp
      .simpa using ih
  .simpa using ih
theorem ON{o:Oper}{b:BinOp}{t yt:TypeId}{x y:Operand}(ho:o.op=.binOp b t x y yt){ρ:Operand->AV}{ks:List Nat}(hk:eqS P t=Δ ks){r:AV}{neg:Bool}(hb:b=if neg then .neq else .eql)(h:Ajc Ah neg ks (ρ x) (ρ y)=Δ r):Wd P o b t x y ρ=AM.ret r:=by
 unfold Ajc at h;split at h
 .rename_i xs ys ex ey
  cases e:Ze Ah ks xs ys with
  |none=>rw[e]at h;cases h
  |some c=>
   rw[e]at h;obtain⟨us,vs,h1,h2,h3⟩:=Jr e;unfold eqS at hk;split at hk
   .rename_i fs hu
    split at hk
    .rename_i hc
     simp only[Aqr,Bool.not_eq_true']at hc;have key:Aq P (Op.equalIn 10000 t (.agg us.toArray) (.agg vs.toArray))=Δ c:=by
      rw[RC hu hc.1 9999];exact Jq 9998 fs.toList 0 hk h3 (λi u hi=>by rw[Aqw];simpa using hi) (λi u hi=>by rw[Aqw];simpa using hi)
     have g:Ci P o ρ=Δ (D3 (.bool (if neg then !c else c))):=by
      refine OV ho (u:=.agg us.toArray) (v:=.agg vs.toArray) (by rw[ex];simp only[AV.toVal,h1]) (by rw[ey];simp only[AV.toVal,h2]) ?_;have g1:Aq P (eqGuard b t x y (.agg us.toArray) (.agg vs.toArray))=Δ ():=by
       unfold eqGuard;rw[hb]
       cases neg<;>simp[hc.2]
      rw[Ap,g1];simp only[AqU];rw[hb]
      cases neg
      .show Aq P (binOp .eql t (.agg us.toArray) (.agg vs.toArray))=_
       have:binOp .eql t (.agg us.toArray) (.agg vs.toArray)=(do let r ←Op.equalIn 10000 t (.agg us.toArray) (.agg vs.toArray);pure (.bool r)):=rfl;rw[this,Ap,key];rfl
      .show Aq P (binOp .neq t (.agg us.toArray) (.agg vs.toArray))=_
       have:binOp .neq t (.agg us.toArray) (.agg vs.toArray)=(do let r ←Op.equalIn 10000 t (.agg us.toArray) (.agg vs.toArray);pure (.bool !r)):=rfl;rw[this,Ap,key];rfl
     unfold Wd;rw[if_neg (by rw[ex,ey];simp[EW]),g]
     cases neg<;>(simp only[Ψ]at h;rw[←h];rfl)
    .cases hk
   .cases hk
 .cases h
theorem Wq{o:Oper}{b:BinOp}{t yt:TypeId}{x y:Operand}(ho:o.op=.binOp b t x y yt){ρ:Operand->AV}{r:AV}(h:Ab6 Ah (Fw P t) b (ρ x) (ρ y)=Δ r):Wd P o b t x y ρ=AM.ret r:=by
 unfold Ab6 at h;split at h
 .obtain⟨h1,h2⟩:=We (P:=P) ho h
  unfold Wd;rw[if_neg (by rw[h2];simp),h1];rfl
 .rename_i hk
  cases e:eqM Ah (Fw P t) (ρ x) (ρ y) with
  |none=>rw[e]at h;cases h
  |some c=>
   rw[e]at h;simp only[AqQ,Ψ]at h;subst h;rw[RD ho rfl e (.inl rfl)];rfl
 .cases e:eqM Ah (Fw P t) (ρ x) (ρ y) with
  |none=>rw[e]at h;cases h
  |some c=>
   rw[e]at h;simp only[AqQ,Ψ]at h;subst h;rw[RD ho rfl e (.inr rfl)];rfl
 .cases h
end
def Le{α:Type}(m m':AM α):Prop:=∀ H r,m H=Δ r->m' H=Δ r
section
variable {α β:Type}
theorem Le.refl(m:AM α):Le m m:=λ_ _ h=>h
theorem Le.fail(m:AM α):Le AM.fail m:=λ_ _ h=>by cases h
theorem Le.bind{m m':AM α}{f f':α->AM β}(h:Le m m')(k:∀ a,Le (f a) (f' a)):Le (m.bind f) (m'.bind f'):=λH r e=>by
 unfold AM.bind at e ⊢;rcases e1:m H with _|⟨a,H1,f1⟩<;>rw[e1]at e
 .cases e
 simp only at e;rcases e2:f a H1 with _|⟨b,H2,f2⟩<;>rw[e2]at e
 .cases e
 simp only at e;rw[h H _ e1];simp only;rw[k a H1 _ e2];exact e
theorem Le.opt{o o':Option α}(h:∀ a,o=Δ a->o'=Δ a):Le (AM.opt o) (AM.opt o'):=λH r e=>by
 cases o with
 |none=>cases e
 |some a=>rw[h a rfl];exact e
theorem Le.ret{o:Option α}{m:AM α}(h:∀ a,o=Δ a->m=AM.ret a):Le (AM.opt o) m:=λH r e=>by
 cases o with
 |none=>cases e
 |some a=>rw[h a rfl];exact e
theorem Le.trans{m m1 m2:AM α}(h:Le m m1)(k:Le m1 m2):Le m m2:=λH r e=>k H r (h H r e)
end
section
variable {P:Program}
theorem Gb:∀ xs,AP xs=xs.length
 |[]=>rfl
 |x::r=>by simp[AP,Gb r]
theorem Hr:∀ xs n,Hq xs n=xs.take n
 |[],_=>by simp[Hq]
 |x::r,0=>by simp[Hq]
 |x::r,n+1=>by simp[Hq,Hr r n]
theorem GS:∀ xs n,GR xs n=xs.drop n
 |[],_=>by simp[GR]
 |x::r,0=>by simp[GR]
 |x::r,n+1=>by simp[GR,GS r n]
theorem Jn:∀ xs,Il xs=xs.flatten
 |[]=>rfl
 |x::r=>by simp[Il,Jn r]
theorem EX:∀ xs,I4 xs=xs.all AV.one
 |[]=>rfl
 |x::r=>by simp[I4,EX r]
theorem AiU(a b:Nat):AqO a b=(a == b):=Bool.eq_iff_iff.2 (by simp)
theorem Hw(e:Nat):∀ xs,E4 e xs=xs.all λcs=>cs.length == e
 |[]=>rfl
 |x::r=>by simp[E4,Hw e r,AiU]
theorem Ib(T:List AV):∀ l,Ot T l=l.map (AE T)
 |[]=>rfl
 |x::r=>by simp[Ot,Ib T r]
theorem JM(T:List AV):∀ l,JL T l=l.map λp=>(p.1,AE T p.2)
 |[]=>rfl
 |(i,x)::r=>by simp[JL,JM T r]
theorem Mf{t:TypeId}{row:Bool}{n:Nat}(h1:BM P t=Δ row)(h2:row=U->C3 P t=Δ n)(a:AV):Le (loadM row n a) (loadA P t a):=by
 unfold loadM loadA;rw[h1]
 cases row with
 |true=>rw[h2 rfl];exact Le.refl _
 |false=>exact Le.refl _
theorem ZX{t:TypeId}{n:Nat}(h:C3 P t=Δ n)(a x:AV):Le (storeM n a x) (storeA P t a x):=by
 unfold storeM storeA;rw[h]
 cases a<;>exact Le.refl _
theorem VG{t:TypeId}{row:Bool}{n:Nat}(h1:BM P t=Δ row)(h2:row=U->C3 P t=Δ n)(cs:List AV)(off:Nat):SD row off n cs=Pg P t cs off:=by
 unfold SD Pg;rw[h1]
 cases row with
 |true=>rw[h2 rfl]
 |false=>rfl
theorem ZG{t et:TypeId}{e:Nat}(h1:BS P t=Δ et)(h2:C3 P et=Δ e){x ix r:AV}(h:Nk e x ix=Δ r):Dc P t x ix=Δ r:=by
 unfold Nk at h;unfold Dc;rw[h1]
 cases e1:ix.idx with
 |none=>rw[e1]at h;cases h
 |some i=>
  rw[e1]at h;simp only at h
  cases x<;>try (cases h)
  .rename_i b o n e'
   simp only at h ⊢;split at h
   .rename_i hlt
    split at h
    .rename_i he
     subst he;have:i+1<=n:=by simpa[Arx]using hlt
     have:i<n:=by omega
     rw[if_pos ⟨this,h2⟩];exact h
    .cases h
   .cases h
  .rename_i xs
   simp only[Qr]at h ⊢
   cases e2:xs[i]? with
   |none=>rw[e2]at h;cases h
   |some cs=>
    rw[e2]at h;simp only at h ⊢;split at h
    .rename_i hb
     have:cs.length=e:=by simpa using hb
     rw[if_pos (by rw[h2,this])];exact h
    .cases h
theorem AaY{t et:TypeId}{e:Nat}(h1:BS P t=Δ et)(h2:C3 P et=Δ e){x r:AV}{lo hi:Option AV}(h:NV e x lo hi=Δ r):Ja P t x lo hi=Δ r:=by
 have om:∀ n o,LZ n o=DS n o:=λn o=>by cases o<;>rfl
 unfold NV at h;unfold Ja;rw[h1];simp only[om,Gb,Hr,GS,Hw]at h
 cases x<;>try (cases h)
 .rename_i b o n e'
  simp only at h ⊢;split at h
  .rename_i l hh e1 e2
   rw[e1,e2];simp only;split at h
   .rename_i c1 c2 c3
    have c3':e'=e:=by simpa using c3
    subst c3';rw[if_pos ⟨by simpa using c1,by simpa using c2,h2⟩];exact h
   .cases h
  .cases h
 .rename_i xs
  simp only at h ⊢;split at h
  .rename_i l hh e1 e2
   rw[e1,e2];simp only;split at h
   .rename_i c1 c2 c3
    have c4:(xs.all λcs=>C3 P et == Δ cs.length)=U:=Aqt.2 λcs hcs=>by
     have:=Aqt.1 c3 cs hcs;rw[h2];simp at this ⊢;exact this.symm
    rw[if_pos ⟨by simpa using c1,by simpa using c2,by rw[h2];rfl,c4⟩];exact h
   .cases h
  .cases h
theorem Qj(e:Nat)(x:AV):Le (newsM e x) (newsA e x):=by
 unfold newsM newsA;split
 .dsimp only
  split
  .refine Le.bind (Le.refl _) λk=>?_
   split
   .rename_i c1 c2
    rw[if_pos ⟨by simpa using c1,c2⟩];exact Le.refl _
   .exact Le.fail _
  .exact Le.fail _
 .simp only[Gb,Jn,Hw]
  split
  .rename_i c
   rw[if_pos c];exact Le.refl _
  .exact Le.fail _
 .exact Le.refl _
 .exact Le.fail _
theorem IT{t:TypeId}{e b:Nat}{z:List Value}(h:Lo P t=Δ (e,z,b)):∃ et i zz,BS P t=Δ et/\P.info? et=Δ i/\Cu P et=Δ zz/\i.zero=Δ zz/\zz.cells.size=i.size/\0<i.size/\e=i.size/\z=zz.cells.toList/\b=i.bytes:=by
 unfold Lo at h;split at h
 .rename_i et h1
  split at h
  .rename_i i zz h2 h3
   split at h
   .rename_i h4
    simp only[Ψ,Prod.mk.injEq]at h;refine⟨et,i,zz,h1,h2,h3,?_,h4.1,h4.2,h.1.symm,h.2.1.symm,h.2.2.symm⟩;unfold Cu at h3;rw[h2]at h3;simp only at h3;split at h3
    .split at h3
     .rename_i e5 _;rw[e5];exact h3
     .cases h3
    .cases h3
   .cases h
  .cases h
 .cases h
theorem WS{t u:TypeId}{e b:Nat}{z:List Value}(h:Lo P t=Δ (e,z,b))(hu:CB P u=U)(s x:AV):Le (appM e b s x) (appendA P [t,u] s x):=by
 obtain⟨et,i,zz,h1,h2,h3,h4,h5,h6,rfl,_,rfl⟩:=IT h;have hn:Fh P u=U:=by
  unfold CB at hu;unfold Fh;split at hu
  .rename_i e1;rw[e1]
  .cases hu
 unfold appM appendA;simp only[h1,h2,h4];rw[if_pos (show zz.cells.size=i.size/\0<i.size from ⟨h5,h6⟩)];refine Le.bind (by unfold newsU;rw[hn];exact Qj _ _) λr=>?_
 unfold appR;split
 .rename_i c
  rw[if_pos (show r.1=0 by simpa using c)];exact Le.refl _
 .rename_i c
  rw[if_neg (show ¬ r.1=0 by intro e;rw[e]at c;simp at c)];rw[EX];split
  .exact Le.fail _
  .rename_i c1
   rw[if_pos c1];split
   .dsimp only
    split
    .rename_i c2 c3
     rw[if_pos ⟨rfl,by simpa using c2,by simpa using c3⟩];exact Le.refl _
    .exact Le.fail _
   .dsimp only
    split
    .rename_i c2 c3 c4
     rw[if_pos ⟨by simpa using c2,by simpa using c3,by simpa using c4⟩];have c2':=AqG c2;subst c2';refine Le.bind (Le.refl _) λk=>?_
     split
     .rename_i d1 d2 d3
      have d3':=AqG d3;rw[if_pos ⟨d1,by omega,.inl d2⟩,if_pos d2,d2];exact Le.refl _
     .rename_i d1 d2 d3
      have d3':=AqG d3;rw[if_pos ⟨d1,by omega,.inr d3'⟩,if_neg (by rw[d2];simp),d2];exact Le.refl _
     .rename_i d1 d2 d3
      split
      .rename_i d4
       rw[if_pos ⟨d1,by simpa using d4,.inl d2⟩,if_pos d2,d2];exact Le.refl _
      .exact Le.fail _
     .exact Le.fail _
    .exact Le.fail _
   .exact Le.fail _
theorem Acw{t u:TypeId}{e b:Nat}{z:List Value}(h:Lo P t=Δ (e,z,b))(hu:KF P u=U)(s x:AV):Le (appzM z e b s x) (appendA P [t,u] s x):=by
 obtain⟨et,i,zz,h1,h2,h3,h4,h5,h6,rfl,rfl,rfl⟩:=IT h;have hn:Fh P u=Ξ:=by
  unfold KF at hu;unfold Fh;split at hu
  .rename_i e1;rw[e1]
  .cases hu
 unfold appzM appendA;simp only[h1,h2,h4];rw[if_pos (show zz.cells.size=i.size/\0<i.size from ⟨h5,h6⟩)];refine Le.bind ?_ λr=>?_
 .unfold newsU Qo newsZ
  rw[hn,hu];dsimp only;obtain⟨_,_,_,hfl⟩:=De h3
  cases x.idx with
  |none=>exact Le.fail _
  |some m=>
   dsimp only;split
   .rename_i c1
    rw [if_pos ⟨by have:m<=9223372036854775807:=by simpa using c1
                   omega,hfl⟩]
    exact Le.refl _
   .exact Le.fail _
 unfold appR;split
 .rename_i c
  rw[if_pos (show r.1=0 by simpa using c)];exact Le.refl _
 .rename_i c
  rw[if_neg (show ¬ r.1=0 by intro e;rw[e]at c;simp at c)];rw[EX];split
  .exact Le.fail _
  .rename_i c1
   rw[if_pos c1];split
   .dsimp only
    split
    .rename_i c2 c3
     rw[if_pos ⟨rfl,by simpa using c2,by simpa using c3⟩];exact Le.refl _
    .exact Le.fail _
   .dsimp only
    split
    .rename_i c2 c3 c4
     rw[if_pos ⟨by simpa using c2,by simpa using c3,by simpa using c4⟩];have c2':=AqG c2;subst c2';refine Le.bind (Le.refl _) λk=>?_
     split
     .rename_i d1 d2 d3
      have d3':=AqG d3;rw[if_pos ⟨d1,by omega,.inl d2⟩,if_pos d2,d2];exact Le.refl _
     .rename_i d1 d2 d3
      have d3':=AqG d3;rw[if_pos ⟨d1,by omega,.inr d3'⟩,if_neg (by rw[d2];simp),d2];exact Le.refl _
     .rename_i d1 d2 d3
      split
      .rename_i d4
       rw[if_pos ⟨d1,by simpa using d4,.inl d2⟩,if_pos d2,d2];exact Le.refl _
      .exact Le.fail _
     .exact Le.fail _
    .exact Le.fail _
   .exact Le.fail _
theorem Acy{t:TypeId}{e b:Nat}{z:List Value}(h:Lo P t=Δ (e,z,b))(l c:AV):Le (mkslM z e b l c) (makeSliceA P t l c):=by
 obtain⟨et,i,zz,h1,h2,h3,h4,h5,h6,rfl,rfl,rfl⟩:=IT h;unfold mkslM makeSliceA;rw[h1];split
 .rename_i n m e1 e2
  rw[e1,e2];dsimp only;rw[h2,h3];dsimp only;split
  .rename_i c1 c2 c3
   rw[if_pos ⟨by simpa using c1,by simpa using c2,by simpa using c3,h5,h6⟩];exact Le.refl _
  .exact Le.fail _
 .exact Le.fail _
theorem Acx{t u et:TypeId}{e:Nat}(h1:BS P t=Δ et)(h2:C3 P et=Δ e)(d x:AV):Le (cpyM e d x) (copyA P [t,u] d x):=by
 unfold cpyM copyA;simp only[h1];split
 .split
  .rename_i c
   have c':=AqG c;subst c';dsimp only;rw[if_pos h2];refine Le.bind (Qj _ _) λr=>?_
   simp only[EX];split
   .rename_i c1
    rw[if_pos c1];refine Le.bind (Le.refl _) λk=>?_
    split
    .rename_i c2 c3
     rw[if_pos ⟨c2,by simpa using c3⟩];exact Le.refl _
    .exact Le.fail _
   .exact Le.fail _
  .exact Le.fail _
 .exact Le.fail _
theorem ZV{t et:TypeId}{e:Nat}{z:Value}(h1:BS P t=Δ et)(h2:C3 P et=Δ e)(h3:Cu P et=Δ z)(h4:z.cells.size=e/\0<e/\(z.cells.toList.map AV.v).all AV.one=U)(x:AV):Le (clrM z.cells.toList e x) (clearA P [t] x):=by
 unfold clrM clearA;simp only[h1]
 cases x with
 |sl b o n e'=>
  simp only[h3];split
  .rename_i c
   have c':=AqG c;subst c';rw[if_pos ⟨h2,h4⟩];refine Le.bind (Le.refl _) λk=>?_
   split
   .rename_i c2 c3
    rw[if_pos ⟨c2,by simpa using c3⟩];exact Le.refl _
   .exact Le.fail _
  .exact Le.fail _
 |_=>exact Le.fail _
theorem M1{o:Oper}{c:Call}{b:Builtin}{x:Operand}(ho:o.op=.call c)(hc:c.callee=.builtin b)(ha:c.args.toList=[x]){ρ:Operand->AV}{u z:Value}(hx:ρ x=.v u)
  (h:∀ cs,Aq P (builtin b c.argTypes o.type cs #[u])=Δ (.value z)):Ci P o ρ=Δ (D3 z):=by
 have e1:BF ρ x=u:=by unfold BF;rw[hx];rfl
 have ha':c.args=#[x]:=by rw[←Asx (xs:=c.args),ha]
 have cc:(BJ o.op&&o.op.operands.toList.all λx=>(ρ x).toVal.isSome)=U:=by
  rw[ho];simp[BJ,Op.operands,Call.operands,hc,ha',hx,AV.toVal]
 unfold Ci;rw[if_pos cc];have:Aq P (execOp (BF ρ) o)=Δ (.value z):=by
  unfold execOp;rw[ho];simp only[resolve,hc,ha',Ap,BY,AqU,invoke];have e3:#[x].map (BF ρ)=#[u]:=by simp[e1]
  rw[e3];exact h _
 rw[this];rfl
theorem M2{o:Oper}{c:Call}{b:Builtin}{x y:Operand}(ho:o.op=.call c)(hc:c.callee=.builtin b)(ha:c.args.toList=[x,y]){ρ:Operand->AV}{u v z:Value}(hx:ρ x=.v u)(hy:ρ y=.v v)
  (h:∀ cs,Aq P (builtin b c.argTypes o.type cs #[u,v])=Δ (.value z)):Ci P o ρ=Δ (D3 z):=by
 have e1:BF ρ x=u:=by unfold BF;rw[hx];rfl
 have e2:BF ρ y=v:=by unfold BF;rw[hy];rfl
 have ha':c.args=#[x,y]:=by rw[←Asx (xs:=c.args),ha]
 have cc:(BJ o.op&&o.op.operands.toList.all λx=>(ρ x).toVal.isSome)=U:=by
  rw[ho];simp[BJ,Op.operands,Call.operands,hc,ha',hx,hy,AV.toVal]
 unfold Ci;rw[if_pos cc];have:Aq P (execOp (BF ρ) o)=Δ (.value z):=by
  unfold execOp;rw[ho];simp only[resolve,hc,ha',Ap,BY,AqU,invoke];have e3:#[x,y].map (BF ρ)=#[u,v]:=by simp[e1,e2]
  rw[e3];exact h _
 rw[this];rfl
def Iq(P:Program)(ents:Nat):Prop:=∀ g,ents.testBit g=U->Fo P g=U
theorem ZU{t:TypeId}{zz:Value}(hz:Cu P t=Δ zz)(T:List AV)(ps:List (Nat × Operand)) :
  (∀{fs:Array Field} {pl:List (Nat × Nat)},Ch P t=Δ fs->Ic P fs.toList=Δ pl->Kb (pl[·]?) zz.cells.toList (JL T ps)=IJ P t (ps.map λp=>(p.1,AE T p.2))) ∧
  (∀{et:TypeId} {e:Nat},Ch P t=Θ->Mx P t=Δ et->C3 P et=Δ e->Kb (λi=>Δ (i*e,e)) zz.cells.toList (JL T ps)=IJ P t (ps.map λp=>(p.1,AE T p.2))):=by
 refine⟨λh1 h2=>?_,λh1 h2 h3=>?_⟩
 .unfold Kb IJ
  rw[h1,JM];unfold Mb;rw[hz,h1];simp only[h2]
 .unfold Kb IJ
  rw[h1,JM];unfold Ma;rw[hz,h2];simp only[h3]
theorem Uj{t et:TypeId}{e:Nat}{zz:Value}(h1:BS P t=Δ et)(h2:C3 P et=Δ e)(h3:Cu P et=Δ zz)(n:Nat)(T:List AV)(ps:List (Nat × Operand)) :
  buildSlM zz.cells.toList e n (JL T ps)=buildSliceA P t n (ps.map λp=>(p.1,AE T p.2)):=by
 unfold buildSlM buildSliceA;rw[h1];simp only[h2,h3,JM];rfl
theorem ZW{o:Oper}{c:Call}{x:Operand}{t:TypeId}{sl:Bool}(ho:o.op=.call c)(hc:c.callee=.builtin .len)(ha:c.args.toList=[x])(ht:c.argTypes.toList=[t])
  (hs:if sl=U then CB P t=U else CB P t=Ξ/\BE P t=U) (ρ:Operand->AV) :
  Le (AM.opt (AjD Ah sl (ρ x))) (if CB P t=U then(match Acz (ρ x) with
     |some r=>AM.ret r
     |none=>AM.opt (Ci P o ρ)) else AM.opt (Ci P o ρ)):=by
 have ht':c.argTypes=#[t]:=by rw[←Asx (xs:=c.argTypes),ht]
 refine Le.ret λr h=>?_
 unfold AjD at h
 cases sl with
 |true=>
  rw[if_pos rfl]at hs;rw[if_pos hs];simp only at h;split at h<;>simp only[Ψ,reduceCtorEq]at h<;>subst h
  .rename_i e;rw[e];rfl
  .rename_i e;rw[e,Gb];rfl
  .rename_i e
   have hu:∃ et,P.underlying t=Δ (.slice et):=by
    unfold CB at hs;split at hs
    .exact⟨_,‹_›⟩
    .cases hs
   obtain⟨et,hu⟩:=hu;have hg:Ci P o ρ=Δ (D3 (.int .i64 0)):=M1 ho hc ha e λcs=>by
    rw[ht'];simp only[builtin,Builtin.len_,Ap];simp[AD hu,goInt]
   rw[e,hg];rfl
 |false=>
  rw[if_neg (by simp)]at hs;rw[if_neg (by rw[hs.1];simp)];simp only at h;split at h<;>simp only[Ψ,reduceCtorEq]at h
  subst h;rename_i s e;have hu:P.underlying t=Δ .string:=by
   have:=hs.2;unfold BE at this;split at this
   .assumption
   .cases this
  have hg:Ci P o ρ=Δ (D3 (.int .i64 s.size)):=M1 ho hc ha e λcs=>by
   rw[ht'];simp only[builtin,Builtin.len_,Ap];simp[AD hu,goInt]
  rw[hg];rfl
theorem ZT{o:Oper}{c:Call}{x y:Operand}{b:Builtin}(ho:o.op=.call c)(hc:c.callee=.builtin b)(ha:c.args.toList=[x,y])(ρ:Operand->AV){f:Int->Int->Int}
  (hb:(b=.max/\f=Ah.max)\/(b=.min/\f=Ah.min)):Le (AM.opt (AbZ f (ρ x) (ρ y))) (AM.opt (Ci P o ρ)):=by
 refine Le.opt λr h=>?_
 unfold AbZ at h;split at h
 .rename_i k a k' d hx hy
  split at h
  .rename_i hk
   subst hk;simp only[Ψ]at h;subst h;rcases hb with⟨rfl,rfl⟩|⟨rfl,rfl⟩
   .exact M2 (z:=.int k (Ah.max a d)) ho hc ha hx hy λcs=>by
     simp[builtin,Builtin.max_,Builtin.max2,Ah,Gi,Ar.max]
   .exact M2 (z:=.int k (Ah.min a d)) ho hc ha hx hy λcs=>by
     simp[builtin,Builtin.min_,Builtin.min2,Ah,Gi,Ar.min]
  .cases h
 .cases h
end
section
variable {P:Program} {Γ:FuncId->List AV->AM AV} {ents:Nat}
theorem ZH{x:AV}{i:Nat}(h:x.idx=Δ i):∃ k,x=.v (.int k (.ofNat i)):=by
 unfold AV.idx at h;split at h
 .simp only[Ψ]at h
  subst h;exact⟨_,rfl⟩
 .cases h
theorem DW{k:IntKind}{i n:Nat}(h:i<=n)(c:BoundsCode):Aq P (Instr.sliceBound (.int k (.ofNat i)) n c)=Δ i:=by
 unfold Instr.sliceBound asIntOf;rw[Ap];simp only[BY,AqU];rw[if_pos ⟨by simp,by simpa using h⟩];rfl
theorem QK{o:Oper}{t:TypeId}{x:Operand}{lo hi:Option Operand}(ho:o.op=.slice t x lo hi Θ)(ht:P.underlying t=Δ .string){ρ:Operand->AV}{r:AV}(h:JY Ah (ρ x) (lo.map ρ) (hi.map ρ)=Δ r):Ci P o ρ=Δ r:=by
 unfold JY at h;split at h
 .rename_i s es
  split at h
  .rename_i l hh e1 e2
   split at h
   .rename_i c1 c2
    simp only[Ψ]at h;subst h;have c1:l<=hh:=by simpa using c1
    have c2:hh<=s.size:=by
     have:Aqv hh s.size=U:=c2;simpa using this
    have hlo:(lo=Θ/\l=0)\/∃ y k,lo=Δ y/\ρ y=.v (.int k (.ofNat l)):=by
     cases lo with
     |none=>simp only[AsB,LZ,Ψ]at e1;exact .inl ⟨rfl,e1.symm⟩
     |some y=>
      simp only[AqQ,LZ]at e1;obtain⟨k,hk⟩  :=ZH e1;exact .inr ⟨y,k,rfl,hk⟩
    have hhi:(hi=Θ/\hh=s.size)\/∃ y k,hi=Δ y/\ρ y=.v (.int k (.ofNat hh)):=by
     cases hi with
     |none=>
      simp only[AsB,LZ,Ψ]at e2;exact .inl ⟨rfl,e2.symm⟩
     |some y=>
      simp only[AqQ,LZ]at e2;obtain⟨k,hk⟩  :=ZH e2;exact .inr ⟨y,k,rfl,hk⟩
    have hb:Aq P (Instr.sliceBounds Ξ s.size s.size (lo.map (BF ρ)) (hi.map (BF ρ)) Θ)=Δ (l,hh,s.size):=by
     rcases hlo with⟨rfl,rfl⟩|⟨y,k,rfl,hy⟩<;>rcases hhi with⟨rfl,rfl⟩|⟨z,k',rfl,hz⟩
     .rfl
     .simp only[AsB,AqQ,E0 hz,Instr.sliceBounds,Ap,BY,AqU,DW c2]
     .simp only[AsB,AqQ,E0 hy,Instr.sliceBounds,Ap,BY,AqU,DW c1]
     .simp only[AqQ,E0 hy,E0 hz,Instr.sliceBounds,Ap,BY,AqU,DW c1,DW c2]
    refine Kr (z:=.string (s.extract l hh)) (by rw[ho];rfl) ?_ ?_
    .rw[ho]
     rcases hlo with⟨rfl,_⟩|⟨y,k,rfl,hy⟩<;>rcases hhi with⟨rfl,_⟩|⟨z,k',rfl,hz⟩<;>simp_all [Op.operands,AV.toVal]
    .unfold execOp
     rw[ho]
     show Aq P (Instr.sliceAt t (BF ρ x) (lo.map (BF ρ)) (hi.map (BF ρ)) Θ >>= λy=>pure (Next.value y))=_
     rw[Ap,E0 es];have:Aq P (Instr.sliceAt t (.string s) (lo.map (BF ρ)) (hi.map (BF ρ)) Θ)=Δ (.string (s.extract l hh)):=by
      unfold Instr.sliceAt;rw[Ap,AD ht];simp only[AqU];unfold Instr.slice;rw[Ap,AD ht];simp only[AqU,Option.isSome_none,Asa,if_false];rw[Ap,hb];rfl
     rw[this];rfl
   .cases h
  .cases h
 .cases h
theorem UK{o:Oper}{t:TypeId}{x i:Operand}(ho:o.op=.index t x i)(ht:P.underlying t=Δ .string){ρ:Operand->AV}{r:AV}(h:SS Ah (ρ x) (ρ i)=Δ r):Ci P o ρ=Δ r:=by
 unfold SS at h;split at h
 .rename_i s j es ei
  split at h
  .rename_i c1
   simp only[Ψ]at h;subst h;obtain⟨k,hk⟩  :=ZH ei;have c1:j<s.size:=by
    have:Arx j s.size=U:=c1;have:j+1<=s.size:=by simpa[Arx]using this
    omega
   have e1:s[j]? = Δ (s[j]'c1):=by simp[c1]
   refine Kr (z:=.int .u8 (s[j]'c1).toNat) (by rw[ho];rfl) (by rw[ho];simp[Op.operands,es,hk,AV.toVal]) ?_ |>.trans ?_
   .unfold execOp
    rw[ho]
    show Aq P (Instr.index t (BF ρ x) (BF ρ i) >>= λy=>pure (Next.value y))=_
    rw[Ap,E0 es,E0 hk];have:Aq P (Instr.index t (.string s) (.int k (.ofNat j)))=Δ (.int .u8 (s[j]'c1).toNat):=by
     unfold Instr.index asIntOf;rw[Ap];simp only[BY,AqU];rw[Ap,AD ht];simp only[AqU];have:(if 0<=(Ar4 j) then s[(Ar4 j).toNat]? else Θ)=Δ (s[j]'c1):=by
      rw[if_pos (by simp)];exact e1
     rw[this];rfl
    rw[this];rfl
   .have:Ah.sat s j=Ar4 (s[j]'c1).toNat:=by
     show (match s[j]? with
      |some c=>Ar4 c.toNat
      |none=>0)=_
     rw[e1]
    rw[this];rfl
  .cases h
 .cases h
theorem TE{o:Oper}{s d:TypeId}{x:Operand}(ho:o.op=.convert s d x){k k0:IntKind}(hs:P.underlying s=Δ (.int k0))(hd:P.underlying d=Δ (.int k)){ρ:Operand->AV}{r:AV}(h:YD Ah k (ρ x)=Δ r):Ci P o ρ=Δ r:=by
 unfold YD at h;split at h
 .rename_i k1 n e
  simp only[Ψ]at h;subst h;refine Kr (z:=.int k (k.wrap n)) (by rw[ho];rfl) (by rw[ho];simp[Op.operands,e,AV.toVal]) ?_;unfold execOp;rw[ho]
  show Aq P (convert s d (BF ρ x) >>= λy=>pure (Next.value y))=_
  rw[Ap,E0 e];have:Aq P (convert s d (.int k1 n))=Δ (.int k (k.wrap n)):=by
   unfold convert;rw[Ap,AD hs];simp only[AqU];rw[Ap,AD hd];rfl
  rw[this];rfl
 .cases h
theorem Af5(hE:Iq P ents)(o:Oper)(T:List AV):Le (mop Ah Γ (TD P ents o.op) T) (aop P Γ o (AE T)):=by
 unfold aop
 cases ho:o.op<;>simp only[TD]
 case move x=>exact Le.refl _
 case assign x=>exact Le.refl _
 case pick c a b=>
  simp only[mop];split
  .rename_i t e
   rw[e]
   cases t<;>exact Le.refl _
  .exact Le.fail _
 case alloc t=>
  unfold allocA
  cases e:Cu P t with
  |none=>exact Le.fail _
  |some z=>exact Le.refl _
 case box t x=>exact Le.refl _
 case build t ps=>
  cases e:Cu P t with
  |none=>exact Le.fail _
  |some z=>
   obtain⟨k1,k2⟩:=ZU e T ps.toList
   cases e1:Ch P t with
   |some fs=>
    simp only
    cases e2:Ic P fs.toList with
    |none=>exact Le.fail _
    |some pl=>
     simp only[mop];rw[k1 e1 e2];exact Le.refl _
   |none=>
    simp only
    cases e2:Mx P t with
    |none=>exact Le.fail _
    |some et=>
     simp only
     cases e3:C3 P et with
     |none=>exact Le.fail _
     |some s=>
      simp only[mop];rw[k2 e1 e2 e3];exact Le.refl _
 case buildSlice t n ps=>
  cases e:BS P t with
  |none=>exact Le.fail _
  |some et=>
   simp only
   cases e2:C3 P et with
   |none=>exact Le.fail _
   |some s=>
    cases e3:Cu P et with
    |none=>exact Le.fail _
    |some z=>
     simp only[mop];rw[Uj e e2 e3];exact Le.refl _
 case load t a=>
  cases e:BM P t with
  |none=>exact Le.fail _
  |some b=>
   cases b with
   |true=>
    cases e2:C3 P t with
    |none=>exact Le.fail _
    |some n=>exact Mf e (λ_=>e2) _
   |false=>exact Mf (n:=0) e (λh=>by cases h) _
 case store t a x=>
  cases e:C3 P t with
  |none=>exact Le.fail _
  |some n=>exact ZX e _ _
 case nilCheck x=>
  simp only[mop];split<;>first
   |exact Le.fail _
   |(rename_i e;rw[e];exact Le.refl _)
 case binOp b t x y yt=>
  split
  .rename_i ks hk
   split
   .exact Le.ret λr h=>ON ho hk (neg:=Ξ) rfl h
   .exact Le.ret λr h=>ON ho hk (neg:=U) rfl h
   .exact Le.fail _
  .split
   .exact Le.fail _
   .rename_i k hk
    exact Le.ret λr h=>Wq ho h
 case unOp u t x=>
  cases u<;>simp only<;>try exact Le.fail _
  case not=>
   exact Le.opt λr h=>by
    unfold AmJ at h;split at h
    .rename_i c e
     simp only[Ψ]at h;subst h;rw[Zs ho e];rfl
    .cases h
  case neg=>
   exact Le.opt λr h=>by
    unfold AmI at h;split at h
    .rename_i k n e
     simp only[Ψ]at h;subst h;rw[Zr ho e]
    .cases h
 case makeFunc f a c=>
  simp only[mop,Ib];exact Le.refl _
 case slice t x lo hi mx=>
  cases mx with
  |some m=>exact Le.fail _
  |none=>
   simp only
   cases e:BS P t with
   |none=>
    simp only;split
    .rename_i hst
     refine Le.ret λr h=>?_
     have ht:P.underlying t=Δ .string:=by
      unfold BE at hst;split at hst
      .assumption
      .cases hst
     have hn:Ja P t (AE T x) (lo.map (AE T)) (hi.map (AE T))=Θ:=by
      unfold Ja;rw[e];split<;>rename_i q<;>first|cases q|rfl
     rw[hn];simp only;rw[QK ho ht h];rfl
    .exact Le.fail _
   |some et=>
    simp only
    cases e2:C3 P et with
    |none=>exact Le.fail _
    |some s=>
     refine Le.ret λr h=>?_
     rw[AaY e e2 h]
 case fieldAddr t a f=>
  cases e:Ch P t with
  |none=>exact Le.fail _
  |some fs=>
   simp only
   cases e2:fs[f]? with
   |none=>exact Le.fail _
   |some fd=>
    simp only;split
    .rename_i n e3
     refine Le.opt λr h=>?_
     unfold F6;rw[e];simp only[e2,e3];exact h
    .exact Le.fail _
 case field t x f=>
  cases e:Ch P t with
  |none=>exact Le.fail _
  |some fs=>
   simp only
   cases e2:fs[f]? with
   |none=>exact Le.fail _
   |some fd=>
    simp only;have key:∀{row:Bool} {n:Nat},BM P fd.type=Δ row->(row=U->C3 P fd.type=Δ n)->Le (AM.opt (TX row fd.offset n (AE T x))) (AM.opt (MV P t (AE T x) f)):=λh1 h2=>by
     refine Le.opt λr h=>?_
     unfold TX at h;unfold MV;rw[e];split at h
     .rename_i cs ex
      rw[←h,VG h1 h2];simp only[ex,e2]
     .cases h
    cases e3:BM P fd.type with
    |none=>exact Le.fail _
    |some b=>
     cases b with
     |true=>
      cases e4:C3 P fd.type with
      |none=>exact Le.fail _
      |some n=>exact key e3 λ_=>e4
     |false=>exact key e3 λh=>by cases h
 case indexAddr t x i=>
  cases e:BS P t with
  |some et=>
   simp only
   cases e2:C3 P et with
   |none=>exact Le.fail _
   |some s=>
    refine Le.ret λr h=>?_
    rw[ZG e e2 h]
  |none=>
   have e0:Dc P t (AE T x) (AE T i)=Θ:=by
    unfold Dc;rw[e];split<;>first|rfl|simp_all
   cases e1:Og P t with
   |none=>exact Le.fail _
   |some ne=>
    obtain⟨n,et⟩:=ne;simp only
    cases e2:C3 P et with
    |none=>exact Le.fail _
    |some s=>
     simp only[mop];rw[e0];refine Le.opt λr h=>?_
     unfold PP at h;unfold Ji;rw[e1];split at h
     .rename_i j ej
      rw[ej];simp only[e2];split at h
      .rename_i hlt
       have:j+1<=n:=by simpa[Arx]using hlt
       rw[if_pos (by omega)];exact h
      .cases h
     .cases h
 case index t x i=>
  cases e1:Og P t with
  |none=>
   simp only;split
   .rename_i hst
    refine Le.ret λr h=>?_
    have ht:P.underlying t=Δ .string:=by
     unfold BE at hst;split at hst
     .assumption
     .cases hst
    have hn:GY P t (AE T x) (AE T i)=Θ:=by
     unfold GY;rw[e1];split
     .rename_i q _
      cases q
     .rfl
    rw[hn];simp only;rw[UK ho ht h];rfl
   .exact Le.fail _
  |some ne=>
   obtain⟨n,et⟩:=ne
   show Le (mop Ah Γ (match C3 P et,BM P et with
    |some e,Δ U=>MO.index n e U e x i
    |some e,Δ Ξ=>MO.index n e Ξ 0 x i
    |_,_=>MO.bad) T) _
   have key:∀{row:Bool} {s m:Nat},BM P et=Δ row->C3 P et=Δ s->(row=U->m=s)->Le (AM.opt (No n s row m (AE T x) (AE T i))) (match GY P t (AE T x) (AE T i) with
     |some r=>AM.ret r
     |none=>AM.opt (Ci P o (AE T))):=λ{row s m} h1 h2 h3=>by
    refine Le.ret λr h=>?_
    have:GY P t (AE T x) (AE T i)=Δ r:=by
     unfold No at h;unfold GY;rw[e1];split at h
     .rename_i cs j ej1 ej2
      simp only[ej1,ej2,h2];split at h
      .rename_i hlt
       have:j+1<=n:=by simpa[Arx]using hlt
       rw[if_pos (by omega),←VG (n:=m) h1 (λhr=>by rw[h3 hr];exact h2)];exact h
      .cases h
     .cases h
    rw[this]
   cases e2:C3 P et with
   |none=>exact Le.fail _
   |some s=>
    cases e3:BM P et with
    |none=>exact Le.fail _
    |some b=>
     cases b with
     |true=>exact key e3 e2 λ_=>rfl
     |false=>exact key e3 e2 λh=>by cases h
 case extract x i=>exact Le.refl _
 case makeSlice t l c=>
  cases e:Lo P t with
  |none=>exact Le.fail _
  |some ezb=>
   obtain⟨s,z,b⟩:=ezb;exact Acy e _ _
 case call c=>
  cases hc:c.callee with
  |invoke=>exact Le.fail _
  |value f=>
   simp only
   cases f with
   |func g=>
    simp only;split
    .rename_i he
     simp only[mop,AE,Ib];rw[if_pos he];simp only[List.nil_append,List.append_nil];exact Le.refl _
    .exact Le.fail _
   |tmp t=>
    simp only[mop,Ib];split
    .rename_i g a cs e
     rw[e];simp only;split
     .rename_i hb
      rw[if_pos (hE g hb)];exact Le.refl _
     .exact Le.fail _
    .exact Le.fail _
   |const v=>
    simp only[mop,Ib];split
    .rename_i g a cs e
     rw[e];simp only;split
     .rename_i hb
      rw[if_pos (hE g hb)];exact Le.refl _
     .exact Le.fail _
    .exact Le.fail _
   |global v=>
    simp only[mop,Ib];split
    .rename_i g a cs e
     rw[e];simp only;split
     .rename_i hb
      rw[if_pos (hE g hb)];exact Le.refl _
     .exact Le.fail _
    .exact Le.fail _
  |builtin b=>
   cases b<;>simp only<;>try exact Le.fail _
   .-- append
    split
    .rename_i s x t u ea et
     rw[ea];simp only[et];split
     .rename_i e b' h1 h2
      exact WS h1 h2 _ _
     .rename_i e z b' h1 h2
      split
      .rename_i h3
       exact Acw h1 h3 _ _
      .exact Le.fail _
     .exact Le.fail _
    .exact Le.fail _
   .-- clear
    split
    .rename_i x t ea et
     rw[ea];simp only[et];split
     .rename_i ett h1
      split
      .rename_i e z h2 h3
       split
       .rename_i h4
        exact ZV h1 h2 h3 h4 _
       .exact Le.fail _
      .exact Le.fail _
     .exact Le.fail _
    .exact Le.fail _
   .-- copy
    split
    .rename_i s x t u ea et
     rw[ea];simp only[et];split
     .rename_i ett h1 h2
      cases e2:C3 P ett with
      |none=>exact Le.fail _
      |some s=>exact Acx h1 e2 _ _
     .exact Le.fail _
    .exact Le.fail _
   .-- len
    split
    .rename_i x t ea et
     rw[ea,et];split
     .rename_i h1
      exact ZW ho hc ea et (by rw[if_pos rfl];exact h1) _
     .rename_i h1
      split
      .rename_i h2
       exact ZW ho hc ea et (by rw[if_neg (by simp)];exact⟨by simpa using h1,h2⟩) _
      .exact Le.fail _
    .exact Le.fail _
   .split
    .rename_i x y ea
     exact ZT ho hc ea _ (.inl ⟨rfl,rfl⟩)
    .exact Le.fail _
   .split
    .rename_i x y ea
     exact ZT ho hc ea _ (.inr ⟨rfl,rfl⟩)
    .exact Le.fail _
 case convert s d x=>
  split
  .rename_i k0 k hs hd
   have b1:C5 P s=Ξ:=by
    unfold C5 BS;rw[hs]
   have b2:BE P s=Ξ:=by
    unfold BE;rw[hs]
   rw[if_neg (by rw[b1];simp),b2,Bool.false_and];refine Le.ret λr h=>?_
   have:=TE ho hs hd h;simp only;rw[this];rfl
  .cases b1:C5 P s with
   |false=>exact Le.fail _
   |true=>
    cases b2:BE P d with
    |false=>exact Le.fail _
    |true=>
     simp only[mop,strM]
     cases b3:Oo (AE T x) with
     |false=>exact Le.fail _
     |true=>
      rw[if_pos (by first|exact⟨trivial,trivial,rfl⟩|exact⟨trivial,trivial,b3⟩|simp_all)];exact Le.bind (Qj _ _) λ_=>Le.refl _
 all_goals exact Le.fail _
end
section
variable {A:Ar}
theorem Loc.loadM(row:Bool)(n:Nat)(a:AV):Loc (loadM row n a):=by
 unfold Go.Proofs.YtpncilciembjdaaGreatDoor.loadM
 cases row
 .exact Loc.bind (Loc.rdAt _ _) λ_=>Loc.opt _
 .exact Loc.bind (Loc.rdAt _ _) λ_=>Loc.ret _
theorem Loc.storeM(n:Nat)(a x:AV):Loc (storeM n a x):=by
 unfold Go.Proofs.YtpncilciembjdaaGreatDoor.storeM;split
 .exact Loc.ite (Loc.bind (Loc.getB _) λk=>Loc.ite (Loc.bind (Loc.setB _ _) λ_=>Loc.ret _) Loc.fail) Loc.fail
 .exact Loc.fail
theorem Loc.buildSlM(z:List Value)(e n:Nat)(ps:List (Nat × AV)):Loc (buildSlM z e n ps):=by
 unfold Go.Proofs.YtpncilciembjdaaGreatDoor.buildSlM
 repeat' split
 all_goals first
  |exact Loc.fail
  |exact Loc.bind (Loc.newB _) λ_=>Loc.ret _
theorem Loc.newsM(e:Nat)(x:AV):Loc (newsM e x):=by
 unfold Go.Proofs.YtpncilciembjdaaGreatDoor.newsM;split
 .split
  .refine Loc.bind (Loc.getB _) λk=>?_
   split
   .exact Loc.ret _
   .exact Loc.fail
  .exact Loc.fail
 .split
  .exact Loc.ret _
  .exact Loc.fail
 .exact Loc.ret _
 .exact Loc.fail
theorem Loc.appR(e b:Nat)(s:AV)(r:Nat × List AV):Loc (appR e b s r):=by
 unfold Go.Proofs.YtpncilciembjdaaGreatDoor.appR
 repeat' split
 all_goals first
  |exact Loc.fail
  |exact Loc.ret _
  |exact Loc.bind (Loc.newB _) λ_=>Loc.ret _
  |refine Loc.bind (Loc.getB _) λk=>?_
 repeat' split
 all_goals first
  |exact Loc.fail
  |exact Loc.bind (Loc.delB _) λ_=>Loc.bind (Loc.newB _) λ_=>Loc.ret _
  |exact Loc.bind (Loc.setB _ _) λ_=>Loc.bind (Loc.newB _) λ_=>Loc.ret _
theorem Loc.appM(e b:Nat)(s x:AV):Loc (appM e b s x):=Loc.bind (Loc.newsM _ _) λr=>Loc.appR _ _ _ _
theorem Loc.appzM(z:List Value)(e b:Nat)(s x:AV):Loc (appzM z e b s x):=by
 refine Loc.bind ?_ λr=>Loc.appR _ _ _ _
 unfold Qo
 repeat' split
 all_goals first
  |exact Loc.fail
  |exact Loc.ret _
theorem Loc.mkslM(z:List Value)(e b:Nat)(l c:AV):Loc (mkslM z e b l c):=by
 unfold Go.Proofs.YtpncilciembjdaaGreatDoor.mkslM
 repeat' split
 all_goals first
  |exact Loc.fail
  |exact Loc.bind (Loc.newB _) λ_=>Loc.ret _
theorem Loc.cpyM(e:Nat)(d x:AV):Loc (cpyM e d x):=by
 unfold Go.Proofs.YtpncilciembjdaaGreatDoor.cpyM;split
 .split
  .refine Loc.bind (Loc.newsM _ _) λr=>?_
   split
   .refine Loc.bind (Loc.getB _) λk=>?_
    split
    .exact Loc.bind (Loc.setB _ _) λ_=>Loc.ret _
    .exact Loc.fail
   .exact Loc.fail
  .exact Loc.fail
 .exact Loc.fail
theorem Loc.clrM(z:List Value)(e:Nat)(x:AV):Loc (clrM z e x):=by
 unfold Go.Proofs.YtpncilciembjdaaGreatDoor.clrM;split
 .split
  .refine Loc.bind (Loc.getB _) λk=>?_
   split
   .exact Loc.bind (Loc.setB _ _) λ_=>Loc.ret _
   .exact Loc.fail
  .exact Loc.fail
 .exact Loc.fail
theorem Loc.strM(x:AV):Loc (strM x):=by
 unfold Go.Proofs.YtpncilciembjdaaGreatDoor.strM;split
 .exact Loc.bind (Loc.newsM _ _) λ_=>Loc.opt _
 .exact Loc.fail
theorem Loc.mop{Γ:FuncId->List AV->AM AV}(hΓ:∀ f args,Loc (Γ f args))(o:MO)(T:List AV):Loc (mop A Γ o T):=by
 unfold Go.Proofs.YtpncilciembjdaaGreatDoor.mop
 repeat' split
 all_goals first
  |exact Loc.fail
  |exact Loc.ret _
  |exact Loc.opt _
  |exact Loc.boxA _
  |exact Loc.bind (Loc.newB _) λ_=>Loc.ret _
  |exact Loc.buildSlM _ _ _ _
  |exact Loc.loadM _ _ _
  |exact Loc.storeM _ _ _
  |exact Loc.mkslM _ _ _ _ _
  |exact Loc.appM _ _ _ _
  |exact Loc.appzM _ _ _ _ _
  |exact Loc.cpyM _ _ _
  |exact Loc.clrM _ _ _
  |exact Loc.strM _
  |exact hΓ _ _
theorem Loc.coreM{Γ:FuncId->List AV->AM AV}(hΓ:∀ f args,Loc (Γ f args))(o:MOp)(T:List AV):Loc (coreM A Γ o T):=by
 unfold Go.Proofs.YtpncilciembjdaaGreatDoor.coreM
 repeat' split
 all_goals first
  |exact Loc.fail
  |exact Loc.ret _
  |exact Loc.mop hΓ _ _
def chainM(A:Ar)(Γ:FuncId->List AV->AM AV)(l:List MOp)(T:List AV):AM (List AV × List Foot):=λH=>match runM A Γ l T H with
 |some (T',H',fs)=>Δ ((T',fs),H',⟨fs.flatMap (·.rd),fs.flatMap (·.wr)⟩)
 |none=>Θ
theorem Rn(Γ:FuncId->List AV->AM AV)(o:MOp)(r:List MOp)(T:List AV) :
  chainM A Γ (o::r) T=(logged (coreM A Γ o T)).bind λvf=>(chainM A Γ r (BX T o.dst vf.1)).bind λq=>AM.ret (q.1,vf.2::q.2):=by
 funext H
 simp only[chainM,runM,AM.bind,logged,AM.ret];rcases Go.Proofs.YtpncilciembjdaaGreatDoor.coreM A Γ o T H with _|⟨v,H1,f⟩
 .rfl
 simp only;rcases runM A Γ r (BX T o.dst v) H1 with _|⟨T2,H2,fs⟩
 .rfl
 .simp
theorem Loc.chainM{Γ:FuncId->List AV->AM AV}(hΓ:∀ f args,Loc (Γ f args)):∀(l:List MOp) (T:List AV),Loc (chainM A Γ l T)
 |[],T=>by
  have:Go.Proofs.YtpncilciembjdaaGreatDoor.chainM A Γ [] T=AM.ret (T,[]):=by funext H;simp[Go.Proofs.YtpncilciembjdaaGreatDoor.chainM,runM,AM.ret]
  rw[this];exact Loc.ret _
 |o::r,T=>by
  rw[Rn];exact Loc.bind (Loc.logged (Loc.coreM hΓ o T)) λ_=>Loc.bind (Loc.chainM hΓ r _) λ_=>Loc.ret _
theorem Agp(Γ:FuncId->List AV->AM AV)(ops:List MOp)(bf:Option (List Nat))(T:List AV) :
  regM A Γ ops bf T=(chainM A Γ ops T).bind λr=>match bf with
   |none=>AM.ret (.normal,r.1)
   |some bf=>(match DQ bf r.2 with
    |true=>AM.ret (.normal,r.1)
    |false=>AM.fail):=by
 funext H
 unfold Go.Proofs.YtpncilciembjdaaGreatDoor.regM Go.Proofs.YtpncilciembjdaaGreatDoor.chainM AM.bind
 cases e0:runM A Γ ops T H with
 |none=>simp[e0]
 |some r=>
  obtain⟨T',H',fs⟩:=r
  cases bf with
  |none=>simp[AM.ret,e0]
  |some bf=>cases e:DQ bf fs<;>simp[AM.ret,AM.fail,e,e0]
theorem Loc.regM{Γ:FuncId->List AV->AM AV}(hΓ:∀ f args,Loc (Γ f args))(ops:List MOp)(bf:Option (List Nat))(T:List AV):Loc (regM A Γ ops bf T):=by
 rw[Agp];refine Loc.bind (Loc.chainM hΓ _ _) λr=>?_
 cases bf with
 |none=>exact Loc.ret _
 |some bf=>
  simp only;split
  .exact Loc.ret _
  .exact Loc.fail
theorem Loc.adoptB1(b i e:Nat):Loc (adoptB1 b i e):=by
 unfold Go.Proofs.YtpncilciembjdaaGreatDoor.adoptB1;refine Loc.bind (Loc.getB _) λk=>?_
 split
 .refine Loc.bind (Loc.newB _) λc=>Loc.bind (Loc.getB _) λk2=>?_
  split
  .exact Loc.setB _ _
  .exact Loc.fail
 .exact Loc.ret _
theorem Loc.nilB(b i:Nat):Loc (nilB b i):=by
 unfold Go.Proofs.YtpncilciembjdaaGreatDoor.nilB;refine Loc.bind (Loc.getB _) λk=>?_
 split
 .exact Loc.setB _ _
 .exact Loc.ret _
theorem Loc.adoptB(b i e:Nat):Loc (adoptB b i e):=by
 unfold Go.Proofs.YtpncilciembjdaaGreatDoor.adoptB;split
 .exact Loc.nilB _ _
 .exact Loc.adoptB1 _ _ _
theorem Loc.adoptM:∀(l:List (Nat × Nat)) (T:List AV),Loc (adoptM l T)
 |[],T=>Loc.ret _
 |(t,e)::r,T=>by
  unfold Go.Proofs.YtpncilciembjdaaGreatDoor.adoptM;split
  .exact Loc.bind (Loc.newB _) λb=>Loc.adoptM r _
  .split
   .exact Loc.bind (Loc.adoptB _ _ _) λ_=>Loc.adoptM r T
   .exact Loc.adoptM r T
theorem Loc.frz0(x:AV):Loc (frz0 x):=by
 unfold Go.Proofs.YtpncilciembjdaaGreatDoor.frz0;split<;>first
  |exact Loc.ret _
  |exact Loc.fail
mutual
theorem Loc.frz:∀(n:Nat) (x:AV),Loc (frz n x)
 |0,x=>by
  unfold Go.Proofs.YtpncilciembjdaaGreatDoor.frz;exact Loc.frz0 x
 |n+1,x=>by
  unfold Go.Proofs.YtpncilciembjdaaGreatDoor.frz;split
  .exact Loc.ret _
  .refine Loc.bind (Loc.getB _) λk=>?_
   split
   .exact Loc.fail
   .refine Loc.bind ?_ λ_=>?_
    .split
     .exact Loc.setB _ _
     .exact Loc.ret _
    .split
     .exact Loc.ret _
     .refine Loc.bind (Loc.frzL n _) λcs=>?_
      split
      .exact Loc.ret _
      .exact Loc.fail
  .exact Loc.bind (Loc.frzL n _) λ_=>Loc.ret _
  .exact Loc.bind (Loc.frzL n _) λ_=>Loc.ret _
  .exact Loc.ret _
theorem Loc.frzL:∀(n:Nat) (l:List AV),Loc (frzL n l)
 |n,[]=>by
  unfold Go.Proofs.YtpncilciembjdaaGreatDoor.frzL;exact Loc.ret _
 |0,_::_=>by
  unfold Go.Proofs.YtpncilciembjdaaGreatDoor.frzL;exact Loc.fail
 |n+1,x::r=>by
  unfold Go.Proofs.YtpncilciembjdaaGreatDoor.frzL;exact Loc.bind (Loc.frz n x) λ_=>Loc.bind (Loc.frzL n r) λ_=>Loc.ret _
end
theorem Loc.frzB(b:Nat):Loc (frzB b):=by
 unfold Go.Proofs.YtpncilciembjdaaGreatDoor.frzB;refine Loc.bind (Loc.getB _) λk=>?_
 split
 .refine Loc.bind (Loc.frzL _ _) λ_=>Loc.bind (Loc.getB _) λ_=>?_
  split
  .exact Loc.setB _ _
  .exact Loc.fail
 .exact Loc.ret _
theorem Loc.frzT:∀(l:List Nat) (T:List AV),Loc (frzT l T)
 |[],T=>Loc.ret _
 |t::r,T=>by
  unfold Go.Proofs.YtpncilciembjdaaGreatDoor.frzT;split
  .exact Loc.bind (Loc.frzB _) λ_=>Loc.frzT r T
  .exact Loc.bind (Loc.frz _ _) λ_=>Loc.frzT r _
  .exact Loc.frzT r T
theorem Loc.evC{Γ:FuncId->List AV->AM AV}{Λ:Nat->List AV->AM (AX × List AV)}(hΓ:∀ f args,Loc (Γ f args))(hΛ:∀ i T,Loc (Λ i T)):∀(c:MC) (T:List AV),Loc (evC A Γ Λ c T)
 |.skip,T=>Loc.ret _
 |.reg ops bf,T=>Loc.regM hΓ _ _ _
 |.seq a b,T=>by
  unfold Go.Proofs.YtpncilciembjdaaGreatDoor.evC;refine Loc.bind (Loc.evC hΓ hΛ a T) λr=>?_
  split
  .exact Loc.evC hΓ hΛ b _
  .exact Loc.ret _
 |.cond c a b,T=>by
  unfold Go.Proofs.YtpncilciembjdaaGreatDoor.evC;split
  .split
   .exact Loc.evC hΓ hΛ a T
   .exact Loc.evC hΓ hΛ b T
  .exact Loc.fail
 |.block id c,T=>by
  unfold Go.Proofs.YtpncilciembjdaaGreatDoor.evC;refine Loc.bind (Loc.evC hΓ hΛ c T) λr=>?_
  split
  .exact Loc.ite (Loc.ret _) (Loc.ret _)
  .exact Loc.ret _
 |.loop i h,T=>by
  unfold Go.Proofs.YtpncilciembjdaaGreatDoor.evC;refine Loc.bind (Loc.adoptM _ _) λ_=>Loc.bind (Loc.frzT _ _) λ_=>?_
  split
  .exact Loc.bind (hΛ _ _) λ_=>Loc.ret _
  .exact Loc.fail
 |.exit id,T=>Loc.ret _
 |.ret,T=>Loc.ret _
 |.bad,_=>Loc.fail
theorem Loc.delC(b i:Nat):Loc (delC b i):=by
 unfold Go.Proofs.YtpncilciembjdaaGreatDoor.delC;refine Loc.bind (Loc.getB _) λk=>?_
 split
 .exact Loc.delB _
 .exact Loc.ret _
theorem Loc.delT:∀(l:List Nat) (T:List AV),Loc (delT l T)
 |[],T=>Loc.ret _
 |t::r,T=>by
  unfold Go.Proofs.YtpncilciembjdaaGreatDoor.delT;split
  .exact Loc.bind (Loc.delB _) λ_=>Loc.delT r T
  .exact Loc.bind (Loc.delB _) λ_=>Loc.delT r T
  .split
   .exact Loc.bind (Loc.delC _ _) λ_=>Loc.delT r T
   .exact Loc.delT r T
theorem Loc.touchS(x:AV):Loc (touchS x):=by
 unfold Go.Proofs.YtpncilciembjdaaGreatDoor.touchS;split
 .refine Loc.bind (Loc.getB _) λk=>?_
  split
  .exact Loc.bind (Loc.delB _) λ_=>Loc.bind (Loc.newB _) λ_=>Loc.ret _
  .exact Loc.ret _
 .exact Loc.ret _
theorem Loc.touchL:∀ l:List AV,Loc (touchL l)
 |[]=>Loc.ret _
 |x::r=>by
  unfold Go.Proofs.YtpncilciembjdaaGreatDoor.touchL;exact Loc.bind (Loc.touchS x) λ_=>Loc.bind (Loc.touchL r) λ_=>Loc.ret _
theorem Loc.touchB(b:Nat):Loc (touchB b):=by
 unfold Go.Proofs.YtpncilciembjdaaGreatDoor.touchB;refine Loc.bind (Loc.getB _) λk=>?_
 split
 .refine Loc.bind (Loc.touchL _) λ_=>Loc.bind (Loc.getB _) λ_=>?_
  split
  .exact Loc.setB _ _
  .exact Loc.fail
 .exact Loc.setB _ _
 .exact Loc.ret _
theorem Loc.touchI:∀ l:List Nat,Loc (touchI l)
 |[]=>Loc.ret _
 |b::r=>by
  unfold Go.Proofs.YtpncilciembjdaaGreatDoor.touchI;exact Loc.bind (Loc.touchB b) λ_=>Loc.touchI r
theorem Loc.touchV(x:AV):Loc (touchV x):=by
 unfold Go.Proofs.YtpncilciembjdaaGreatDoor.touchV;split
 .exact Loc.touchS _
 .exact Loc.bind (Loc.touchL _) λ_=>Loc.bind (Loc.touchI _) λ_=>Loc.ret _
 .exact Loc.bind (Loc.touchI _) λ_=>Loc.ret _
theorem Loc.touchA:∀(m:List Bool) (l:List AV),Loc (touchA m l)
 |m,[]=>by cases m with
  |nil=>exact Loc.ret _
  |cons b m=>cases b<;>exact Loc.ret _
 |true::m,x::r=>by
  unfold Go.Proofs.YtpncilciembjdaaGreatDoor.touchA;exact Loc.bind (Loc.touchI _) λ_=>Loc.bind (Loc.touchA m r) λ_=>Loc.ret _
 |false::m,x::r=>by
  unfold Go.Proofs.YtpncilciembjdaaGreatDoor.touchA;exact Loc.bind (Loc.touchV x) λ_=>Loc.bind (Loc.touchA m r) λ_=>Loc.ret _
 |[],x::r=>by
  unfold Go.Proofs.YtpncilciembjdaaGreatDoor.touchA;exact Loc.bind (Loc.touchV x) λ_=>Loc.bind (Loc.touchA [] r) λ_=>Loc.ret _
end
def Gh(μ:Mu)(F:Az)(w:World)(H H':AH)(Q:Mu->Az->Prop):Prop:=
 ∃ μ' F',Later μ μ' F F' w w/\HRep μ' F' w H'.get/\(∀ b,(b<H.next\/H'.next<=b)->μ' b=μ b)/\Q μ' F'
section
variable {μ:Mu} {F:Az} {w:World} {H H1 H2:AH}
theorem Gh.same{Q:Mu->Az->Prop}(hH:HRep μ F w H.get)(h:Q μ F):Gh μ F w H H Q:=⟨μ,F,Later.refl _ _ _,hH,λ_ _=>rfl,h⟩
theorem Gh.trans{Q:Mu->Az->Prop}(hn1:H.next<=H1.next)(hn2:H1.next<=H2.next){Q1:Mu->Az->Prop}(h:Gh μ F w H H1 Q1)(k:∀ μ' F',Later μ μ' F F' w w->HRep μ' F' w H1.get->(∀ b,(b<H.next\/H1.next<=b)->μ' b=μ b)->Q1 μ' F'->Gh μ' F' w H1 H2 Q):Gh μ F w H H2 Q:=by
 obtain⟨μ1,F1,h1,h2,h3,h4⟩:=h;obtain⟨μ2,F2,k1,k2,k3,k4⟩:=k μ1 F1 h1 h2 h3 h4;refine⟨μ2,F2,h1.trans k1,k2,λb hb=>?_,k4⟩;rw[k3 b (by omega),h3 b (by omega)]
theorem Gh.mono{Q Q':Mu->Az->Prop}(h:Gh μ F w H H1 Q)(k:∀ μ' F',Later μ μ' F F' w w->Q μ' F'->Q' μ' F'):Gh μ F w H H1 Q':=by
 obtain⟨μ1,F1,h1,h2,h3,h4⟩:=h;exact⟨μ1,F1,h1,h2,h3,k _ _ h1 h4⟩
theorem OJ:∀(n e:Nat) (l:List AV) (i:Nat),(Bl n e l)[i]? = if i<n then Δ ((l.drop (i*e)).take e) else Θ
 |0,e,l,i=>by simp[Bl]
 |n+1,e,l,0=>by simp[Bl]
 |n+1,e,l,i+1=>by
  simp only[Bl,List.getElem?_cons_succ,OJ n e (l.drop e) i,List.drop_drop,Nat.add_lt_add_iff_right];rw[show e+i*e=(i+1)*e by rw[Nat.add_mul];omega]
theorem FW:∀(n e:Nat) (l:List AV),(Bl n e l).length=n
 |0,e,l=>rfl
 |n+1,e,l=>by simp[Bl,FW n]
theorem Nz{l:List AV}(h:AA l=U)(n:Nat):AA (l.take n)=U:=by
 rw[Bp]at h ⊢;exact Aqt.2 λx hx=>Aqt.1 h x (List.mem_of_mem_take hx)
theorem Ny{l:List AV}(h:AA l=U)(n:Nat):AA (l.drop n)=U:=by
 rw[Bp]at h ⊢;exact Aqt.2 λx hx=>Aqt.1 h x (List.mem_of_mem_drop hx)
theorem LG:∀(n e:Nat) {l:List AV},AA l=U->Fz (Bl n e l)=U
 |0,e,l,h=>rfl
 |n+1,e,l,h=>by
  have:=LG n e (Ny h e);unfold Fz at this ⊢;simp[Bl,Nz h,this]
theorem Xi{g q m e c:Nat}{cs:List AV}(hn:AA cs=U)(hl:cs.length=m*e)(hm:m<=c)(hc:c<=maxLen){u:Value}(hu:u=.slice (Δ ⟨g,q,Θ⟩) m c)(hr:m≠0->RepAt μ F w g cs q):Rep μ F w (.ls (Bl m e cs)) u:=by
 simp only[Rep];refine⟨LG m e hn,Δ ⟨g,q,Θ⟩,c,by rw[FW];exact hu,by rw[FW];exact hm,hc,λhne=>⟨g,q,e,rfl,?_⟩⟩;have hm0:m≠0:=λh0=>hne (by rw[h0];rfl)
 have hr:=hr hm0;refine RepRows.mk λi x hx=>?_
 rw[OJ]at hx;split at hx
 .rename_i hi
  simp only[Ψ]at hx;subst hx;have h1:i*e+e<=m*e:=by rw[←Nat.succ_mul];exact Nat.mul_le_mul_right e hi
  refine⟨by rw[AqT,Asu,hl];omega,?_⟩;have h2:=hr.drop (i*e);refine RepAt.mk λj y hy=>?_
  rw[AqH]at hy;split at hy
  .exact h2.get hy
  .cases hy
 .cases hx
theorem FK{b:Nat}{k:ABlk}{u:Unit}{H H':AH}{ft:Foot}(h:AM.setB b k H=Δ (u,H',ft)):H'=H.put b k/\∃ k0,H.get b=Δ k0:=by
 unfold AM.setB at h
 cases e:H.get b with
 |none=>rw[e]at h;cases h
 |some k0=>
  rw[e]at h;simp only[Ψ,Prod.mk.injEq]at h;exact⟨h.2.1.symm,k0,rfl⟩
theorem RM(n:Nat)(x:AV){y:AV}{H':AH}{ft:Foot}(hw:H.wf)(h:frz n x H=Δ (y,H',ft)):H.next<=H'.next/\H'.wf:=⟨(Loc.frz n x H y H' ft hw h).next,(Loc.frz n x H y H' ft hw h).wf⟩
theorem OU(n:Nat)(x:List AV){y:List AV}{H':AH}{ft:Foot}(hw:H.wf)(h:frzL n x H=Δ (y,H',ft)):H.next<=H'.next/\H'.wf:=⟨(Loc.frzL n x H y H' ft hw h).next,(Loc.frzL n x H y H' ft hw h).wf⟩
theorem AkM{b:Nat}{k k0:ABlk}(hw:H.wf)(hb:H.get b=Δ k0):(H.put b k).wf:=λc h1 h2=>by
 rw[AH.get_put]
 by_cases hcb:c=b
 .subst hcb
  rw[hw c h1 h2]at hb
  cases hb
 .rw[if_neg hcb];exact hw c h1 h2
theorem NI{z u:Value}(hx:Rep μ F w (.v z) u):Rep μ F w (Oq z) u:=by
 unfold Oq;split
 .rename_i e
  simp only[Rep]at hx ⊢;rw[hx.1,Fv e];exact⟨rfl,Θ,0,rfl,ω _,AqR _,λh=>absurd rfl h⟩
 .exact hx
end
mutual
theorem HL:∀(n:Nat) (x:AV) {μ:Mu} {F:Az} {w:World} {H:AH} {u:Value} {y:AV} {H':AH} {ft:Foot},Rep μ F w x u->HRep μ F w H.get->H.wf->frz n x H=Δ (y,H',ft)->Gh μ F w H H' λμ' F'=>Rep μ' F' w y u
 |0,x,μ,F,w,H,u,y,H',ft,hx,hH,hw,h=>by
  simp only[frz]at h
  cases x<;>simp only[frz0]at h<;>first
   |exact(Af h).elim
   | (obtain⟨rfl,rfl⟩:=Ag h
      first
       |exact Gh.same hH hx
       |exact Gh.same hH (NI hx))
 |n+1,.v z,μ,F,w,H,u,y,H',ft,hx,hH,hw,h=>by
  simp only[frz]at h;obtain⟨rfl,rfl⟩:=Ag h;exact Gh.same hH (NI hx)
 |n+1,.sl b o m e,μ,F,w,H,u,y,H',ft,hx,hH,hw,h=>by
   simp only[frz]at h;obtain⟨k,H1,f1,f2,h1,h2⟩:=bind_some h;obtain⟨hk,e1⟩:=By h1;rw[e1]at h2
   cases hle:Aqv (o+m*e) k.cells.length with
   |false=>rw[hle]at h2;exact(Af h2).elim
   |true=>
    rw[hle]at h2;have hle':o+m*e<=k.cells.length:=by simpa using hle
    obtain⟨_,H2,f3,f4,h3,h4⟩:=bind_some h2;simp only[Rep]at hx;obtain⟨p,hp,hu⟩:=hx;obtain⟨p',hp',hB⟩:=hH.blk b k hk;rw[hp]at hp'
    cases hp'
    have step:∃ F1,Later μ μ F F1 w w/\HRep μ F1 w H2.get/\(∀ i,i<k.cells.length->F1 p.g (p.o+i))/\H2.next=H.next/\H2.wf:=by
     cases hst:k.st with
     |true=>
      rw[hst]at h3;obtain⟨e2,k0,hk0⟩:=FK h3;obtain⟨g1,g2⟩:=O0 hH hk hp;refine⟨_,g2,?_,λi hi=>.inr ⟨rfl,by omega,by omega⟩,by rw[e2];rfl,by rw[e2];exact AkM hw hk0⟩;have:H2.get=λc=>if c=b then Δ { k with st:=Ξ } else H.get c:=by
       funext c
       rw[e2,AH.get_put]
      rw[this];exact g1
     |false=>
      rw[hst]at h3;obtain⟨_,e2⟩:=Ag h3;rw[e2];exact⟨F,Later.refl _ _ _,hH,λi hi=>hB.kept hst i hi,rfl,hw⟩
    obtain⟨F1,g1,g2,g3,g4,g5⟩:=step;obtain⟨us,r1,r2⟩:=CW (g:=p.g) (cs:=(k.cells.drop o).take (m*e)) (o:=p.o+o) (μ:=μ) (F:=F1) (w:=w) (by
     intro i x hi;rw[AqH]at hi;split at hi
     .rw[List.getElem?_drop]at hi
      obtain⟨u',q1,q2⟩:=hB.cell (o+i) x hi;exact⟨u',by rw[AqP];exact q1,q2.later g1⟩
     .cases hi)
    have hlen:us.length=m*e:=by
     rw[r1.length,AqT,Asu];omega
    have fin:∀{cs:List AV} {H3:AH},H2.next<=H3.next->AA cs=U->Gh μ F1 w H2 H3 (λμ' F'=>RepList μ' F' w cs us)->Gh μ F w H H3 λμ' F'=>Rep μ' F' w (.ls (Bl m e cs)) u:=by
     intro cs H3 n3 hno hG;refine Gh.trans (H1:=H2) (by omega) n3 (Q1:=λμ' F'=>μ'=μ/\F'=F1) ⟨μ,F1,g1,g2,λ_ _=>rfl,rfl,rfl⟩ ?_;rintro μ' F' _ _ _ ⟨rfl,rfl⟩;refine hG.mono λμ2 F2 l2 hr=>?_
     have hcl:cs.length=m*e:=by rw[←hr.length,hlen]
     rcases hu with⟨rfl,rfl⟩|⟨q,c,rfl,hq,hmc,hcm,hroom⟩
     .simp only[Bl,Rep]
      exact⟨rfl,Θ,0,rfl,ω _,AqR _,λh=>absurd rfl h⟩
     .refine Xi hno hcl hmc hcm rfl λhm0=>?_
      have hq':=hq (by omega);rw[hq'];refine RepAt.mk λi x hi=>?_
      obtain⟨v,v1,v2⟩:=hr.get hi;have hi':i<m*e:=by rw[←hcl];exact(List.getElem?_eq_some_iff.1 hi).1
      refine⟨(l2.prot _ _ (by rw[AqP];exact g3 (o+i) (by omega))).1,v,r2 i v v1,v2⟩
    cases hno0:(k.ex||AA ((k.cells.drop o).take (m*e))) with
    |true=>
     rw[hno0]at h4;obtain⟨rfl,rfl⟩:=Ag h4;have hno:AA ((k.cells.drop o).take (m*e))=U:=by
      cases hx:k.ex with
      |true=>exact Nz (Ny (hB.pure hx) _) _
      |false=>rw[hx,Bool.false_or]at hno0;exact hno0
     exact fin (ω _) hno (Gh.same g2 r1)
    |false=>
     rw[hno0]at h4;obtain⟨cs,H3,f5,f6,h5,h6⟩:=bind_some h4;have hG:=Ey n _ r1 g2 g5 h5;obtain⟨n3,w3⟩:=OU n _ g5 h5
     cases hno:AA cs with
     |true=>
      rw[hno]at h6;obtain⟨rfl,rfl⟩:=Ag h6;exact fin n3 hno hG
     |false=>rw[hno]at h6;exact(Af h6).elim
 |n+1,.agg cs,μ,F,w,H,u,y,H',ft,hx,hH,hw,h=>by
   simp only[frz]at h;obtain⟨cs',H1,f1,f2,h1,h2⟩:=bind_some h;obtain⟨rfl,rfl⟩:=Ag h2;simp only[Rep]at hx;obtain⟨us,rfl,hr⟩:=hx;refine(Ey n _ hr hH hw h1).mono λμ' F' _ hq=>?_
   simp only[Rep];exact⟨us,rfl,hq⟩
 |n+1,.tup cs,μ,F,w,H,u,y,H',ft,hx,hH,hw,h=>by
   simp only[frz]at h;obtain⟨cs',H1,f1,f2,h1,h2⟩:=bind_some h;obtain⟨rfl,rfl⟩:=Ag h2;simp only[Rep]at hx;obtain⟨us,rfl,hr⟩:=hx;refine(Ey n _ hr hH hw h1).mono λμ' F' _ hq=>?_
   simp only[Rep];exact⟨us,rfl,hq⟩
 |n+1,.ptr b o,μ,F,w,H,u,y,H',ft,hx,hH,hw,h=>by
   simp only[frz]at h;obtain⟨rfl,rfl⟩:=Ag h;exact Gh.same hH hx
 |n+1,.ls xs,μ,F,w,H,u,y,H',ft,hx,hH,hw,h=>by
   simp only[frz]at h;obtain⟨rfl,rfl⟩:=Ag h;exact Gh.same hH hx
 |n+1,.lp xs,μ,F,w,H,u,y,H',ft,hx,hH,hw,h=>by
   simp only[frz]at h;obtain⟨rfl,rfl⟩:=Ag h;exact Gh.same hH hx
 |n+1,.fn f a c,μ,F,w,H,u,y,H',ft,hx,hH,hw,h=>by
   simp only[frz]at h;obtain⟨rfl,rfl⟩:=Ag h;exact Gh.same hH hx
 |n+1,.any,μ,F,w,H,u,y,H',ft,hx,hH,hw,h=>by
   simp only[frz]at h;obtain⟨rfl,rfl⟩:=Ag h;exact Gh.same hH hx
theorem Ey:∀(n:Nat) (l:List AV) {μ:Mu} {F:Az} {w:World} {H:AH} {us:List Value} {y:List AV} {H':AH} {ft:Foot},RepList μ F w l us->HRep μ F w H.get->H.wf->frzL n l H=Δ (y,H',ft)->Gh μ F w H H' λμ' F'=>RepList μ' F' w y us
 |n,[],μ,F,w,H,us,y,H',ft,hx,hH,hw,h=>by
  unfold frzL at h;obtain⟨rfl,rfl⟩:=Ag h;exact Gh.same hH hx
 |0,_::_,μ,F,w,H,us,y,H',ft,hx,hH,hw,h=>by
  unfold frzL at h;exact(Af h).elim
 |n+1,x::r,μ,F,w,H,us,y,H',ft,hx,hH,hw,h=>by
  unfold frzL at h;obtain⟨x',H1,f1,f2,h1,h2⟩:=bind_some h;obtain⟨r',H2,f3,f4,h3,h4⟩:=bind_some h2;obtain⟨rfl,rfl⟩:=Ag h4;simp only[RepList]at hx;obtain⟨u,t,rfl,hu,ht⟩:=hx;obtain⟨n1,w1⟩:=RM n x hw h1;obtain⟨n2,w2⟩:=OU n r w1 h3;refine Gh.trans n1 n2 (HL n x hu hH hw h1) λμ1 F1 l1 hH1 _ hx1=>?_
  refine(Ey n r (ht.later' l1) hH1 w1 h3).mono λμ2 F2 l2 hr2=>?_
  simp only[RepList];exact⟨u,t,rfl,hx1.later l2,hr2⟩
end
