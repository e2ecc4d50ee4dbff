/- Code with all types' siz -/
import Derived.Test.YtpncilciembjdaaGreatDoorHAH
set_option linter.all false
open Array renaming toArray_toList->AyJ
open Bool renaming false->Φ,true->Δ,and_eq_true->Awh,false_eq_true->Axj
open Int renaming ofNat->Ax9
open List renaming all_eq_true->Awr,getElem?_take->AwP,length_drop->AxD,length_take->Awo
open Nat renaming add_assoc->AwI,beq->AwM,ble->Awf,blt->Aw0,eq_of_beq_eq_true->AwA,le_refl->π,min->Axd,zero_add->Awt,zero_le->Awz
open Option renaming none->Ξ,some->Θ,bind_some->AwQ,map_none->AyN,map_some->AwT
namespace Go.Proofs.YtpncilciembjdaaGreatDoor
open Option.some renaming injEq->ψ
open Go.RowKit
structure Ar0 where
 add:IntKind->Int->Int->Int
 sub:IntKind->Int->Int->Int
 mul:IntKind->Int->Int->Int
 quo:IntKind->Int->Int->Int
 rem:IntKind->Int->Int->Int
 bits:BinOp->IntKind->Int->Int->Int
 shl:IntKind->Int->Int->Int
 shr:IntKind->Int->Int->Int
 conv:IntKind->Int->Int
 lt:Int->Int->Bool
 le:Int->Int->Bool
 eq:Int->Int->Bool
 max:Int->Int->Int
 min:Int->Int->Int
 beq:Bool->Bool->Bool
 band:Bool->Bool->Bool
 seq:ByteArray->ByteArray->Bool
 slt:ByteArray->ByteArray->Bool
 slen:ByteArray->Nat
 cat:ByteArray->ByteArray->ByteArray
 sat:ByteArray->Nat->Int
 ssub:ByteArray->Nat->Nat->ByteArray
inductive Ar where
 |mk (r:Ar0)
 |no
def Ar.add(A:Ar)(x0:IntKind)(x1:Int)(x2:Int):Int:=match A with
 |.mk r=>r.add x0 x1 x2
 |.no=>0
def Ar.sub(A:Ar)(x0:IntKind)(x1:Int)(x2:Int):Int:=match A with
 |.mk r=>r.sub x0 x1 x2
 |.no=>0
def Ar.mul(A:Ar)(x0:IntKind)(x1:Int)(x2:Int):Int:=match A with
 |.mk r=>r.mul x0 x1 x2
 |.no=>0
def Ar.quo(A:Ar)(x0:IntKind)(x1:Int)(x2:Int):Int:=match A with
 |.mk r=>r.quo x0 x1 x2
 |.no=>0
def Ar.rem(A:Ar)(x0:IntKind)(x1:Int)(x2:Int):Int:=match A with
 |.mk r=>r.rem x0 x1 x2
 |.no=>0
def Ar.bits(A:Ar)(x0:BinOp)(x1:IntKind)(x2:Int)(x3:Int):Int:=match A with
 |.mk r=>r.bits x0 x1 x2 x3
 |.no=>0
def Ar.shl(A:Ar)(x0:IntKind)(x1:Int)(x2:Int):Int:=match A with
 |.mk r=>r.shl x0 x1 x2
 |.no=>0
def Ar.shr(A:Ar)(x0:IntKind)(x1:Int)(x2:Int):Int:=match A with
 |.mk r=>r.shr x0 x1 x2
 |.no=>0
def Ar.conv(A:Ar)(x0:IntKind)(x1:Int):Int:=match A with
 |.mk r=>r.conv x0 x1
 |.no=>0
def Ar.lt(A:Ar)(x0:Int)(x1:Int):Bool:=match A with
 |.mk r=>r.lt x0 x1
 |.no=>Φ
def Ar.le(A:Ar)(x0:Int)(x1:Int):Bool:=match A with
 |.mk r=>r.le x0 x1
 |.no=>Φ
def Ar.eq(A:Ar)(x0:Int)(x1:Int):Bool:=match A with
 |.mk r=>r.eq x0 x1
 |.no=>Φ
def Ar.max(A:Ar)(x0:Int)(x1:Int):Int:=match A with
 |.mk r=>r.max x0 x1
 |.no=>0
def Ar.min(A:Ar)(x0:Int)(x1:Int):Int:=match A with
 |.mk r=>r.min x0 x1
 |.no=>0
def Ar.not(_:Ar)(b:Bool):Bool:=!b
def Ar.beq(A:Ar)(x0:Bool)(x1:Bool):Bool:=match A with
 |.mk r=>r.beq x0 x1
 |.no=>Φ
def Ar.band(A:Ar)(x0:Bool)(x1:Bool):Bool:=match A with
 |.mk r=>r.band x0 x1
 |.no=>Φ
def Ar.seq(A:Ar)(x0:ByteArray)(x1:ByteArray):Bool:=match A with
 |.mk r=>r.seq x0 x1
 |.no=>Φ
def Ar.slt(A:Ar)(x0:ByteArray)(x1:ByteArray):Bool:=match A with
 |.mk r=>r.slt x0 x1
 |.no=>Φ
def Ar.slen(A:Ar)(x0:ByteArray):Nat:=match A with
 |.mk r=>r.slen x0
 |.no=>0
def Ar.cat(A:Ar)(x0:ByteArray)(x1:ByteArray):ByteArray:=match A with
 |.mk r=>r.cat x0 x1
 |.no=>ByteArray.empty
def Ar.sat(A:Ar)(x0:ByteArray)(x1:Nat):Int:=match A with
 |.mk r=>r.sat x0 x1
 |.no=>0
def Ar.ssub(A:Ar)(x0:ByteArray)(x1:Nat)(x2:Nat):ByteArray:=match A with
 |.mk r=>r.ssub x0 x1 x2
 |.no=>ByteArray.empty
def Tt(b:BinOp)(k:IntKind)(x y:Int):Int:=match b with
 |.and=>k.wrap (BitVec.ofInt k.bits x &&& BitVec.ofInt k.bits y).toNat
 |.or=>k.wrap (BitVec.ofInt k.bits x ||| BitVec.ofInt k.bits y).toNat
 |.xor=>k.wrap (BitVec.ofInt k.bits x ^^^ BitVec.ofInt k.bits y).toNat
 |_=>k.wrap (BitVec.ofInt k.bits x &&& ~~~BitVec.ofInt k.bits y).toNat
def Hp:Ar0 where
 add k x y:=k.wrap (x+y)
 sub k x y:=k.wrap (x-y)
 mul k x y:=k.wrap (x*y)
 quo k x y:=k.wrap (x.tdiv y)
 rem _ x y:=x.tmod y
 bits b k x y:=Tt b k x y
 shl k x y:=k.wrap (x*2 ^ (Axd y.toNat k.bits))
 shr k x y:=x.fdiv (2 ^ (Axd y.toNat k.bits))
 conv k x:=k.wrap x
 lt x y:=decide (x<y)
 le x y:=decide (x<=y)
 eq x y:=x == y
 max x y:=if x<y then y else x
 min x y:=if y<x then y else x
 beq a b:=a == b
 band a b:=a&&b
 seq a b:=a.toList == b.toList
 slt a b:=Op.bytesLess a.toList b.toList
 slen a:=a.size
 cat a b:=a++b
 sat a i:=match a[i]? with
  |some c=>Ax9 c.toNat
  |none=>0
 ssub a l h:=a.extract l h
def Ap:Ar:=.mk Hp
inductive MO where
 |mv (x:Operand)
 |pick (c a b:Operand)
 |alloc (z:AO)
 |box (x:Operand)
 |buildS (z:AO) (pl:List (Nat × Nat)) (ps:List (Nat × Operand))
 |buildR (z:AO) (e:Nat) (ps:List (Nat × Operand))
 |buildSl (z:AO) (e n:Nat) (ps:List (Nat × Operand))
 |ld (row:Bool) (n:Nat) (a:Operand)
 |st (n:Nat) (a x:Operand)
 |nilck (x:Operand)
 |bin (ek:Nat) (b:BinOp) (x y:Operand)
 |eqs (neg:Bool) (ks:Af) (x y:Operand)
 |not (x:Operand)
 |neg (x:Operand)
 |mkfn (f:Fn) (a c:List Operand)
 |slice (e:Nat) (x:Operand) (lo hi:Option Operand)
 |faddr (off:Nat) (a:Operand)
 |field (row:Bool) (off n:Nat) (x:Operand)
 |iaddr (e:Nat) (x i:Operand)
 |aaddr (n e:Nat) (x i:Operand)
 |index (n e:Nat) (row:Bool) (sz:Nat) (x i:Operand)
 |ext (x:Operand) (i:Nat)
 |mksl (z:AO) (e bytes:Nat) (l c:Operand)
 |app (e bytes:Nat) (s x:Operand)
 |appz (z:AO) (e bytes:Nat) (s x:Operand)
 |cpy (e:Nat) (d x:Operand)
 |clr (z:AO) (e:Nat) (x:Operand)
 |len (sl:Bool) (x:Operand)
 |sidx (x i:Operand)
 |sslice (x:Operand) (lo hi:Option Operand)
 |iconv (k:IntKind) (x:Operand)
 |str (x:Operand)
 |mx (x y:Operand)
 |mn (x y:Operand)
 |callF (f:FuncId) (args:List Operand)
 |callV (ents:Nat) (x:Operand) (args:List Operand)
 |bad
structure MOp where
 dst:Option Nat
 op:MO
 g:Option (Nat × Bool)
structure LpH where
 n:Nat
 live:List Bool
 ad:List (Nat × Nat)
 fz:Af
 outs:List (Nat × (List Bool × (Af × Af)))
inductive MC where
 |skip
 |reg (ops:List MOp) (bf:Option (Af))
 |seq (a b:MC)
 |cond (c:Operand) (a b:MC)
 |block (id:Nat) (c:MC)
 |loop (i:Nat) (h:LpH)
 |exit (id:Nat)
 |ret
 |bad
section
variable (A:Ar)
def loadM(row:Bool)(n:Nat)(a:AV):AM AV:=match row with
 |true=>(rdAt a n).bind λcs=>AM.ret (.agg cs)
 |false=>(rdAt a 1).bind λcs=>AM.opt (WH cs)
def storeM(n:Nat)(a x:AV):AM AV:=match a with
 |.ptr b o=>
  if x.cells.length=n/\x.cells.all AV.one=Δ then
   (AM.getB b).bind λk=>if k.st=Δ/\o+n<=k.cells.length/\(!k.ex||Bj x.cells)=Δ then(AM.setB b { k with cells:=Bp k.cells o x.cells }).bind λ_=>AM.ret AV.undef else AM.fail
  else AM.fail
 |_=>AM.fail
def UU(row:Bool)(off n:Nat)(cs:Ab):Option AV:=match row with
 |true=>Θ (.agg ((cs.drop off).take n))
 |false=>cs[off]?
def Wc(row:Bool)(off n:Nat)(x:AV):Option AV:=match x with
 |.agg cs=>UU row off n cs
 |_=>Ξ
def LG(place:Nat->Option (Nat × Nat))(z:AO)(ps:List (Nat × AV)):Option AV:=
 if ps.any (λp=>HM p.2) then Ξ else(Fy place (z.map .v) ps).map .agg
def buildSlM(z:AO)(e n:Nat)(ps:List (Nat × AV)):AM AV:=
 if n*e<=16777216/\n<=maxLen/\ps.any (λp=>HM p.2)=Φ then
  match Fy (λi=>Θ (i*e,e)) (Ch (z.map .v) (n*e)) ps with
  |some cs=>if Bj cs=Δ then(AM.newB ⟨cs,Δ,Δ⟩).bind λb=>AM.ret (.sl b 0 n e) else(AM.newB ⟨cs,Δ,Φ⟩).bind λb=>AM.ret (.sl b 0 n e)
  |none=>AM.fail
 else AM.fail
def US:List Ab->Nat->Option Ab
 |[],_=>Ξ
 |x::_,0=>Θ x
 |_::r,n+1=>US r n
theorem SL:∀(xs:List Ab) (n:Nat),US xs n=xs[n]?
 |[],_=>by simp[US]
 |x::r,0=>by simp[US]
 |x::r,n+1=>by simp[US,SL r n]
def OT(e:Nat)(x ix:AV):Option AV:=match ix.idx with
 |some i=>(match x with
  |.sl b o n e'=>(match Aw0 i n with
   |true=>if e'=e then Θ (.ptr b (o+i*e)) else Ξ
   |false=>Ξ)
  |.ls xs=>(match US xs i with
   |some cs=>(match AwM cs.length e with
    |true=>Θ (.lp cs)
    |false=>Ξ)
   |none=>Ξ)
  |_=>Ξ)
 |none=>Ξ
def RL(n e:Nat)(x ix:AV):Option AV:=match ix.idx with
 |some i=>(match Aw0 i n with
  |true=>O3 x (i*e)
  |false=>Ξ)
 |none=>Ξ
def OV(n e:Nat)(row:Bool)(sz:Nat)(x ix:AV):Option AV:=match x,ix.idx with
 |.agg cs,Θ i=>(match Aw0 i n with
  |true=>UU row (i*e) sz cs
  |false=>Ξ)
 |_,_=>Ξ
def HT:List Ab->Nat->List Ab
 |[],_=>[]
 |_::_,0=>[]
 |x::r,n+1=>x::HT r n
def HL:List Ab->Nat->List Ab
 |[],_=>[]
 |x::r,0=>x::r
 |_::r,n+1=>HL r n
def AT:List Ab->Nat
 |[]=>0
 |_::r=>AT r+1
def EG(e:Nat):List Ab->Bool
 |[]=>Δ
 |x::r=>AwM x.length e&&EG e r
def Nl(n:Nat):Option AV->Option Nat
 |some x=>x.idx
 |none=>Θ n
def PB(e:Nat)(x:AV)(lo hi:Option AV):Option AV:=match x with
 |.sl b o n e'=>(match Nl 0 lo,Nl n hi with
  |some l,Θ h=>(match Awf l h,Awf h n,AwM e' e with
   |true,Δ,Δ=>Θ (.sl b (o+l*e) (h-l) e)
   |_,_,_=>Ξ)
  |_,_=>Ξ)
 |.ls xs=>(match Nl 0 lo,Nl (AT xs) hi with
  |some l,Θ h=>(match Awf l h,Awf h (AT xs),EG e xs with
   |true,Δ,Δ=>Θ (.ls (HL (HT xs h) l))
   |_,_,_=>Ξ)
  |_,_=>Ξ)
 |_=>Ξ
def An3(sl:Bool)(x:AV):Option AV:=match sl with
 |true=>(match x with
  |.sl _ _ n _=>Θ (.v (.int .i64 (Ax9 n)))
  |.ls xs=>Θ (.v (.int .i64 (Ax9 (AT xs))))
  |.v (.slice Ξ 0 0)=>Θ (.v (.int .i64 (Ax9 0)))
  |_=>Ξ)
 |false=>(match x with
  |.v (.string s)=>Θ (.v (.int .i64 (Ax9 (A.slen s))))
  |_=>Ξ)
def eqL:Af->Ab->Ab->Option Bool
 |[],[],[]=>Θ Δ
 |1::ks,.v (.bool a)::r,.v (.bool b)::q=>(match eqL ks r q with
  |some t=>Θ (A.band (A.beq a b) t)
  |none=>Ξ)
 |0::ks,.v (.int k a)::r,.v (.int k' b)::q=>if k=k' then(match eqL ks r q with
  |some t=>Θ (A.band (A.eq a b) t)
  |none=>Ξ) else Ξ
 |2::ks,.v (.string a)::r,.v (.string b)::q=>(match eqL ks r q with
  |some t=>Θ (A.band (A.seq a b) t)
  |none=>Ξ)
 |_,_,_=>Ξ
def AnC(neg:Bool)(ks:Af)(x y:AV):Option AV:=match x,y with
 |.agg xs,.agg ys=>(match eqL A ks xs ys with
  |some t=>(match neg with
   |true=>Θ (.v (.bool (A.not t)))
   |false=>Θ (.v (.bool t)))
  |none=>Ξ)
 |_,_=>Ξ
def eqM(ek:Nat)(x y:AV):Option Bool:=match ek,x,y with
 |4,.v (.bool a),.v (.bool b)=>Θ (A.beq a b)
 |1,.ptr ..,.v (.pointer Ξ)=>Θ Φ
 |1,.lp ..,.v (.pointer Ξ)=>Θ Φ
 |1,.v (.pointer Ξ),.v (.pointer Ξ)=>Θ Δ
 |2,.sl _ _ (_+1) _,.v (.slice Ξ 0 0)=>Θ Φ
 |2,.v (.slice Ξ 0 0),.v (.slice Ξ 0 0)=>Θ Δ
 |3,.fn ..,.v .nilFunc=>Θ Φ
 |3,.v .nilFunc,.v .nilFunc=>Θ Δ
 |_,_,_=>Ξ
def KC(b:BinOp)(x y:AV):Option AV:=match x,y with
 |.v (.int k a),.v (.int k' c)=>(match b with
  |.shl=>(match A.lt c 0 with
   |true=>Ξ
   |false=>Θ (.v (.int k (A.shl k a c))))
  |.shr=>(match A.lt c 0 with
   |true=>Ξ
   |false=>Θ (.v (.int k (A.shr k a c))))
  |b=>if k=k' then(match b with
   |.and=>Θ (.v (.int k (A.bits .and k a c)))
   |.or=>Θ (.v (.int k (A.bits .or k a c)))
   |.xor=>Θ (.v (.int k (A.bits .xor k a c)))
   |.andNot=>Θ (.v (.int k (A.bits .andNot k a c)))
   |.quo=>(match A.eq c 0 with
    |true=>Ξ
    |false=>Θ (.v (.int k (A.quo k a c))))
   |.rem=>(match A.eq c 0 with
    |true=>Ξ
    |false=>Θ (.v (.int k (A.rem k a c))))
   |.add=>Θ (.v (.int k (A.add k a c)))
   |.sub=>Θ (.v (.int k (A.sub k a c)))
   |.mul=>Θ (.v (.int k (A.mul k a c)))
   |.eql=>Θ (.v (.bool (A.eq a c)))
   |.neq=>Θ (.v (.bool (A.not (A.eq a c))))
   |.lss=>Θ (.v (.bool (A.lt a c)))
   |.leq=>Θ (.v (.bool (A.le a c)))
   |.gtr=>Θ (.v (.bool (A.lt c a)))
   |.geq=>Θ (.v (.bool (A.le c a)))
   |_=>Ξ) else Ξ)
 |.v (.string a),.v (.string c)=>(match b with
   |.add=>(match Awf (A.slen a+A.slen c) 9223372036854775807 with
    |true=>Θ (.v (.string (A.cat a c)))
    |false=>Ξ)
   |.eql=>Θ (.v (.bool (A.seq a c)))
   |.neq=>Θ (.v (.bool (A.not (A.seq a c))))
   |.lss=>Θ (.v (.bool (A.slt a c)))
   |.geq=>Θ (.v (.bool (A.not (A.slt a c))))
   |_=>Ξ)
 |_,_=>Ξ
def AfC(ek:Nat)(b:BinOp)(x y:AV):Option AV:=match ek,b with
 |0,_=>KC A b x y
 |_,.eql=>(eqM A ek x y).map λt=>.v (.bool t)
 |_,.neq=>(eqM A ek x y).map λt=>.v (.bool (A.not t))
 |_,_=>Ξ
def Afs(f:Int->Int->Int)(x y:AV):Option AV:=match x,y with
 |.v (.int k a),.v (.int k' c)=>if k=k' then Θ (.v (.int k (f a c))) else Ξ
 |_,_=>Ξ
def Va(x i:AV):Option AV:=match x,i.idx with
 |.v (.string s),Θ i=>(match Aw0 i (A.slen s) with
  |true=>Θ (.v (.int .u8 (A.sat s i)))
  |false=>Ξ)
 |_,_=>Ξ
def Lp(x:AV)(lo hi:Option AV):Option AV:=match x with
 |.v (.string s)=>(match Nl 0 lo,Nl (A.slen s) hi with
  |some l,Θ h=>(match Awf l h,Awf h (A.slen s) with
   |true,Δ=>Θ (.v (.string (A.ssub s l h)))
   |_,_=>Ξ)
  |_,_=>Ξ)
 |_=>Ξ
def Abv(k:IntKind)(x:AV):Option AV:=match x with
 |.v (.int _ n)=>Θ (.v (.int k (A.conv k n)))
 |_=>Ξ
def ArS(x:AV):Option AV:=match x with
 |.v (.bool b)=>Θ (.v (.bool (A.not b)))
 |_=>Ξ
def ArR(x:AV):Option AV:=match x with
 |.v (.int k n)=>Θ (.v (.int k (A.sub k 0 n)))
 |_=>Ξ
def E8:List Ab->Ab
 |[]=>[]
 |x::r=>x++E8 r
def newsM(e:Nat)(x:AV):AM (Nat × Ab):=match x with
 |.sl b o n e'=>if e'=e then(AM.getB b).bind λk=>match Awf (o+n*e) k.cells.length,(k.ex||Bj ((k.cells.drop o).take (n*e))) with
   |true,Δ=>AM.ret (n,(k.cells.drop o).take (n*e))
   |_,_=>AM.fail
   else AM.fail
 |.ls xs=>(match EG e xs with
  |true=>AM.ret (AT xs,E8 xs)
  |false=>AM.fail)
 |.v (.slice Ξ 0 0)=>AM.ret (0,[])
 |_=>AM.fail
def Gv:Ab->Bool
 |[]=>Δ
 |x::r=>x.one&&Gv r
def SH(z:AO)(e:Nat)(x:AV):AM (Nat × Ab):=match x.idx with
 |some m=>(match Awf m 9223372036854775807 with
  |true=>AM.ret (m,Ch (z.map .v) (m*e))
  |false=>AM.fail)
 |none=>AM.fail
def appR(e bytes:Nat)(s:AV)(r:Nat × Ab):AM AV:=
 match AwM r.1 0 with
 |true=>if P5 s=Δ then AM.ret s else AM.fail
 |false=>match Gv r.2 with
  |false=>AM.fail
  |true=>(match s with
   |.v (.slice Ξ 0 0)=>(match Awf (r.1*bytes) 140737488355328,Awf r.1 maxLen with
    |true,Δ=>(AM.newB ⟨r.2,Δ,Δ⟩).bind λb=>AM.ret (.sl b 0 r.1 e)
    |_,_=>AM.fail)
   |.sl b o n e'=>(match AwM e' e,Awf ((n+r.1)*bytes) 140737488355328,Awf (n+r.1) maxLen with
    |true,Δ,Δ=>(AM.getB b).bind λk=>match k.ex,k.st,AwM (o+n*e) k.cells.length with
     |true,Δ,Δ=>(AM.delB b).bind λ_=>(AM.newB ⟨(k.cells.take (o+n*e)).drop o++r.2,Δ,Δ⟩).bind λb'=>AM.ret (.sl b' 0 (n+r.1) e)
     |true,Φ,Δ=>(AM.setB b { k with ex:=Φ }).bind λ_=>(AM.newB ⟨(k.cells.take (o+n*e)).drop o++r.2,Φ,Δ⟩).bind λb'=>AM.ret (.sl b' 0 (n+r.1) e)
     |true,Δ,Φ=>(match Awf (o+n*e) k.cells.length with
      |true=>(AM.delB b).bind λ_=>(AM.newB ⟨(k.cells.take (o+n*e)).drop o++r.2,Δ,Δ⟩).bind λb'=>AM.ret (.sl b' 0 (n+r.1) e)
      |false=>AM.fail)
     |_,_,_=>AM.fail
    |_,_,_=>AM.fail)
   |_=>AM.fail)
def appM(e bytes:Nat)(s x:AV):AM AV:=(newsM e x).bind λr=>appR e bytes s r
def appzM(z:AO)(e bytes:Nat)(s x:AV):AM AV:=(SH z e x).bind λr=>appR e bytes s r
def mkslM(z:AO)(e bytes:Nat)(l c:AV):AM AV:=match l.idx,c.idx with
 |some n,Θ m=>(match Awf n m,Awf (m*bytes) 140737488355328,Awf m maxLen with
  |true,Δ,Δ=>(AM.newB ⟨Ch (z.map .v) (n*e),Δ,Δ⟩).bind λb=>AM.ret (.sl b 0 n e)
  |_,_,_=>AM.fail)
 |_,_=>AM.fail
def cpyM(e:Nat)(d x:AV):AM AV:=match d with
 |.sl b o n e'=>(match AwM e' e with
  |true=>(newsM e x).bind λr=>match Gv (r.2.take (Axd r.1 n*e)) with
   |true=>(AM.getB b).bind λk=>match k.st,Awf (o+n*e) k.cells.length with
    |true,Δ=>(AM.setB b { k with cells:=Bp k.cells o (r.2.take (Axd r.1 n*e)) }).bind λ_=>AM.ret (.v (.int .i64 (Ax9 (Axd r.1 n))))
    |_,_=>AM.fail
   |false=>AM.fail
  |false=>AM.fail)
 |_=>AM.fail
def clrM(z:AO)(e:Nat)(x:AV):AM AV:=match x with
 |.sl b o n e'=>(match AwM e' e with
  |true=>(AM.getB b).bind λk=>match k.st,Awf (o+n*e) k.cells.length with
   |true,Δ=>(AM.setB b { k with cells:=Bp k.cells o (Ch (z.map .v) (n*e)) }).bind λ_=>AM.ret (.tup [])
   |_,_=>AM.fail
  |false=>AM.fail)
 |_=>AM.fail
def strM(x:AV):AM AV:=match P5 x with
 |true=>(newsM 1 x).bind λr=>AM.opt ((bytesOf r.2).map λl=>.v (.string ⟨l.toArray⟩))
 |false=>AM.fail
def K6(T:Ab):List (Nat × Operand)->List (Nat × AV)
 |[]=>[]
 |(i,x)::r=>(i,Bl T x)::K6 T r
def P9(T:Ab):List Operand->Ab
 |[]=>[]
 |x::r=>Bl T x::P9 T r
def mop(Γ:FuncId->Ab->AM AV)(o:MO)(T:Ab):AM AV:=match o with
 |.mv x=>AM.ret (Bl T x)
 |.pick c a b=>(match Bl T c with
  |.v (.bool t)=>(match t with
   |true=>AM.ret (Bl T a)
   |false=>AM.ret (Bl T b))
  |_=>AM.fail)
 |.alloc z=>(AM.newB ⟨z.map .v,Δ,Φ⟩).bind λb=>AM.ret (.ptr b 0)
 |.box x=>boxA (Bl T x)
 |.buildS z pl ps=>AM.opt (LG (pl[·]?) z (K6 T ps))
 |.buildR z e ps=>AM.opt (LG (λi=>Θ (i*e,e)) z (K6 T ps))
 |.buildSl z e n ps=>buildSlM z e n (K6 T ps)
 |.ld row n a=>loadM row n (Bl T a)
 |.st n a x=>storeM n (Bl T a) (Bl T x)
 |.nilck x=>(match Bl T x with
  |.ptr b o=>AM.ret (.ptr b o)
  |.lp cs=>AM.ret (.lp cs)
  |.fn (.func f) a c=>AM.ret (.fn (.func f) a c)
  |_=>AM.fail)
 |.bin ek b x y=>AM.opt (AfC A ek b (Bl T x) (Bl T y))
 |.eqs neg ks x y=>AM.opt (AnC A neg ks (Bl T x) (Bl T y))
 |.not x=>AM.opt (ArS A (Bl T x))
 |.neg x=>AM.opt (ArR A (Bl T x))
 |.mkfn f a c=>AM.ret (.fn f (P9 T a) (P9 T c))
 |.slice e x lo hi=>AM.opt (PB e (Bl T x) (lo.map (Bl T)) (hi.map (Bl T)))
 |.faddr off a=>AM.opt (O3 (Bl T a) off)
 |.field row off n x=>AM.opt (Wc row off n (Bl T x))
 |.iaddr e x i=>AM.opt (OT e (Bl T x) (Bl T i))
 |.aaddr n e x i=>AM.opt (RL n e (Bl T x) (Bl T i))
 |.index n e row sz x i=>AM.opt (OV n e row sz (Bl T x) (Bl T i))
 |.ext x i=>AM.opt (KO (Bl T x) i)
 |.mksl z e bytes l c=>mkslM z e bytes (Bl T l) (Bl T c)
 |.app e bytes s x=>appM e bytes (Bl T s) (Bl T x)
 |.appz z e bytes s x=>appzM z e bytes (Bl T s) (Bl T x)
 |.cpy e d x=>cpyM e (Bl T d) (Bl T x)
 |.clr z e x=>clrM z e (Bl T x)
 |.len sl x=>AM.opt (An3 A sl (Bl T x))
 |.sidx x i=>AM.opt (Va A (Bl T x) (Bl T i))
 |.sslice x lo hi=>AM.opt (Lp A (Bl T x) (lo.map (Bl T)) (hi.map (Bl T)))
 |.iconv k x=>AM.opt (Abv A k (Bl T x))
 |.str x=>strM (Bl T x)
 |.mx x y=>AM.opt (Afs (A.max) (Bl T x) (Bl T y))
 |.mn x y=>AM.opt (Afs (A.min) (Bl T x) (Bl T y))
 |.callF f args=>Γ f (P9 T args)
 |.callV ents x args=>(match Bl T x with
  |.fn (.func g) a cs=>(match ents.testBit g with
   |true=>Γ g (a++P9 T args++cs)
   |false=>AM.fail)
  |_=>AM.fail)
 |.bad=>AM.fail
def VC(T:Ab)(g:Option (Nat × Bool)):Option Bool:=match g with
 |none=>Θ Δ
 |some (d,want)=>match T[d]? with
  |some (.v (.bool b))=>(match want with
   |true=>Θ b
   |false=>Θ (A.not b))
  |some (.v (.tuple _))=>Θ Φ
  |_=>Ξ
def coreM(Γ:FuncId->Ab->AM AV)(o:MOp)(T:Ab):AM AV:=match VC A T o.g with
 |some t=>(match t with
  |true=>mop A Γ o.op T
  |false=>AM.ret AV.undef)
 |none=>AM.fail
def runM(Γ:FuncId->Ab->AM AV):List MOp->Ab->AH->Option (Ab × AH × List Foot)
 |[],T,H=>Θ (T,H,[])
 |o::r,T,H=>match coreM A Γ o T H with
  |none=>Ξ
  |some (v,H1,f)=>match runM Γ r (CI T o.dst v) H1 with
   |none=>Ξ
   |some (T2,H2,fs)=>Θ (T2,H2,f::fs)
def regM(Γ:FuncId->Ab->AM AV)(ops:List MOp)(bf:Option (Af))(T:Ab):AM (AX × Ab):=λH=>match runM A Γ ops T H with
 |none=>Ξ
 |some (T',H',fs)=>match bf with
  |none=>Θ ((.normal,T'),H',⟨fs.flatMap (·.rd),fs.flatMap (·.wr)⟩)
  |some bf=>(match Fa bf fs with
   |true=>Θ ((.normal,T'),H',⟨fs.flatMap (·.rd),fs.flatMap (·.wr)⟩)
   |false=>Ξ)
def CP{α:Type}:List Bool->List α->List α
 |true::l,x::r=>x::CP l r
 |false::l,_::r=>CP l r
 |_,_=>[]
def Cq:List Bool->Nat->Ab->Ab
 |_,0,_=>[]
 |true::l,n+1,x::xs=>x::Cq l n xs
 |true::l,n+1,[]=>.any::Cq l n []
 |false::l,n+1,xs=>.any::Cq l n xs
 |[],n+1,_=>.any::Cq [] n []
def axN:AX->Nat
 |.exit i=>i+1
 |_=>0
def Af9:List (Nat × (List Bool × (Af × Af)))->Nat->List Bool × (Af × Af)
 |[],_=>([],([],[]))
 |(k,m)::r,n=>match AwM k n with
  |true=>m
  |false=>Af9 r n
def LpH.out(h:LpH)(x:AX):List Bool:=(Af9 h.outs (axN x)).1
def LpH.fzo(h:LpH)(x:AX):Af:=(Af9 h.outs (axN x)).2.1
def LpH.dlo(h:LpH)(x:AX):Af:=(Af9 h.outs (axN x)).2.2
def UP(T:Ab)(t:Nat):Bool:=match T[t]? with
 |some (.v z)=>L6 z
 |_=>Φ
theorem Adu{T:Ab}{t:Nat}(h:UP T t=Δ):T[t]? = Θ (.v (.slice Ξ 0 0)):=by
 grind [UP,I9]
def F8(cs:Ab)(i:Nat):Bool:=match cs[i]? with
 |some (.v z)=>L6 z
 |_=>Φ
def adoptB1(b i e:Nat):AM Unit:=(AM.getB b).bind λk=>match k.ex,F8 k.cells i with
 |false,Δ=>(AM.newB ⟨[],Δ,Δ⟩).bind λc=>(AM.getB b).bind λk2=>(match k2.ex,F8 k2.cells i with
  |false,Δ=>AM.setB b { k2 with cells:=k2.cells.set i (.sl c 0 0 e) }
  |_,_=>AM.fail)
 |_,_=>AM.ret ()
def nilB(b i:Nat):AM Unit:=(AM.getB b).bind λk=>match k.ex,F8 k.cells i with
 |false,Δ=>AM.setB b { k with cells:=k.cells.set i (.ls []) }
 |_,_=>AM.ret ()
def adoptB(b i e:Nat):AM Unit:=match AwM e 0 with
 |true=>nilB b i
 |false=>adoptB1 b i e
def Ql(T:Ab)(t:Nat):Option (Nat × Nat):=match Awf 1000000 t with
 |true=>(match T[t % 1000000]? with
  |some (.ptr b o)=>Θ (b,o+(t / 1000000-1))
  |_=>Ξ)
 |false=>Ξ
def adoptM:List (Nat × Nat)->Ab->AM Ab
 |[],T=>AM.ret T
 |(t,e)::r,T=>match UP T t with
  |true=>(AM.newB ⟨[],Δ,Δ⟩).bind λb=>adoptM r (T.set t (.sl b 0 0 e))
  |false=>(match Ql T t with
   |some q=>(adoptB q.1 q.2 e).bind λ_=>adoptM r T
   |none=>adoptM r T)
def Bo:Nat->Nat->Ab->List Ab
 |0,_,_=>[]
 |n+1,e,l=>l.take e::Bo n e (l.drop e)
def Adt(z:Value):AV:=match L6 z with
 |true=>.ls []
 |false=>.v z
def frz0(x:AV):AM AV:=match x with
 |.v z=>AM.ret (Adt z)
 |.sl ..=>AM.fail
 |.agg _=>AM.fail
 |.tup _=>AM.fail
 |x=>AM.ret x
mutual
def frz:Nat->AV->AM AV
 |0,x=>frz0 x
 |n+1,x=>match x with
  |.v z=>AM.ret (Adt z)
  |.sl b o m e=>(AM.getB b).bind λk=>match Awf (o+m*e) k.cells.length with
   |false=>AM.fail
   |true=>(match k.st with
    |true=>AM.setB b { k with st:=Φ }
    |false=>AM.ret ()).bind λ_=>match (k.ex||Bj ((k.cells.drop o).take (m*e))) with
     |true=>AM.ret (.ls (Bo m e ((k.cells.drop o).take (m*e))))
     |false=>(frzL n ((k.cells.drop o).take (m*e))).bind λcs=>match Bj cs with
      |true=>AM.ret (.ls (Bo m e cs))
      |false=>AM.fail
  |.agg cs=>(frzL n cs).bind λcs=>AM.ret (.agg cs)
  |.tup cs=>(frzL n cs).bind λcs=>AM.ret (.tup cs)
  |x=>AM.ret x
def frzL:Nat->Ab->AM Ab
 |_,[]=>AM.ret []
 |0,_::_=>AM.fail
 |n+1,x::r=>(frz n x).bind λx=>(frzL n r).bind λr=>AM.ret (x::r)
end
def frzB(b:Nat):AM Unit:=(AM.getB b).bind λk=>match k.ex,k.st with
 |false,Δ=>(frzL 1000 k.cells).bind λcs=>(AM.getB b).bind λk2=>(match k2.ex,AwM cs.length k2.cells.length with
  |false,Δ=>AM.setB b { k2 with cells:=cs }
  |_,_=>AM.fail)
 |_,_=>AM.ret ()
def frzT:Af->Ab->AM Ab
 |[],T=>AM.ret T
 |t::r,T=>match T[t]? with
  |some (.ptr b _)=>(frzB b).bind λ_=>frzT r T
  |some x=>(frz 1000 x).bind λy=>frzT r (T.set t y)
  |none=>frzT r T
def evC(Γ:FuncId->Ab->AM AV)(Λ:Nat->Ab->AM (AX × Ab)):MC->Ab->AM (AX × Ab)
 |.skip,T=>AM.ret (.normal,T)
 |.reg ops bf,T=>regM A Γ ops bf T
 |.seq a b,T=>(evC Γ Λ a T).bind λr=>match r.1 with
  |.normal=>evC Γ Λ b r.2
  |ax=>AM.ret (ax,r.2)
 |.cond c a b,T=>(match Bl T c with
  |.v (.bool t)=>(match t with
   |true=>evC Γ Λ a T
   |false=>evC Γ Λ b T)
  |_=>AM.fail)
 |.block id c,T=>(evC Γ Λ c T).bind λr=>match r.1 with
  |.exit i=>if i=id then AM.ret (.normal,r.2) else AM.ret (.exit i,r.2)
  |ax=>AM.ret (ax,r.2)
 |.loop i h,T=>(adoptM h.ad T).bind λT=>(frzT h.fz T).bind λT=>match AwM T.length h.n with
  |true=>(Λ i (CP h.live T)).bind λr=>AM.ret (r.1,Cq (h.out r.1) h.n r.2)
  |false=>AM.fail
 |.exit id,T=>AM.ret (.exit id,T)
 |.ret,T=>AM.ret (.ret,T)
 |.bad,_=>AM.fail
end
mutual
def AV.ids:AV->Af
 |.v _=>[]
 |.ptr b _=>[b]
 |.sl b _ _ _=>[b]
 |.ls _=>[]
 |.lp _=>[]
 |.agg cs=>E0 cs
 |.tup cs=>E0 cs
 |.fn _ a c=>E0 a++E0 c
 |.any=>[]
def E0:Ab->Af
 |[]=>[]
 |x::r=>x.ids++E0 r
end
mutual
def AV.ren(τ:Nat->Nat):AV->AV
 |.v x=>.v x
 |.ptr b o=>.ptr (τ b) o
 |.sl b o n e=>.sl (τ b) o n e
 |.ls xs=>.ls xs
 |.lp cs=>.lp cs
 |.agg cs=>.agg (H8 τ cs)
 |.tup cs=>.tup (H8 τ cs)
 |.fn f a c=>.fn f (H8 τ a) (H8 τ c)
 |.any=>.any
def H8(τ:Nat->Nat):Ab->Ab
 |[]=>[]
 |x::r=>x.ren τ::H8 τ r
end
def ABlk.ren(τ:Nat->Nat)(k:ABlk):ABlk:=match k.ex with
 |true=>k
 |false=>{ k with cells:=H8 τ k.cells }
def ABlk.ids(k:ABlk):Af:=match k.ex with
 |true=>[]
 |false=>E0 k.cells
inductive BO where
 |keep
 |del
 |set (k:ABlk)
def BO.ids:BO->Af
 |.set k=>k.ids
 |_=>[]
def BO.ren(τ:Nat->Nat):BO->BO
 |.keep=>.keep
 |.del=>.del
 |.set k=>.set (k.ren τ)
abbrev DF:=Ab->List ABlk->Option (AV × List BO)
inductive Key where
 |fn (f:Nat)
 |lp (f i:Nat)
inductive Orc where
 |mk (f:Key->Ab->List ABlk->Option (AV × List BO))
 |no
def Orc.ask(D:Orc)(k:Key)(args:Ab)(bs:List ABlk):Option (AV × List BO):=match D with
 |.mk f=>f k args bs
 |.no=>Ξ
def FT(b:Nat):Af->Bool
 |[]=>Φ
 |c::r=>match AwM b c with
  |true=>Δ
  |false=>FT b r
def idx(b:Nat):Af->Nat
 |[]=>0
 |c::r=>match AwM b c with
  |true=>0
  |false=>idx b r+1
def trav:Nat->Af->Af->AM (Af)
 |_,[],acc=>AM.ret acc
 |0,_::_,_=>AM.fail
 |n+1,b::r,acc=>match FT b acc with
  |true=>trav n r acc
  |false=>(AM.getB b).bind λk=>trav n (r++k.ids) (acc++[b])
def readAll:Af->AM (List ABlk)
 |[]=>AM.ret []
 |b::r=>(AM.getB b).bind λk=>(readAll r).bind λl=>AM.ret (k::l)
def nextB:AM Nat:=λH=>Θ (H.next,H,⟨[],[]⟩)
def writeAll(σ:Nat->Nat):Af->List BO->AM (List BO)
 |[],out=>AM.ret out
 |_::_,[]=>AM.fail
 |b::r,o::out=>(match o with
  |.keep=>AM.ret ()
  |.del=>AM.delB b
  |.set k=>AM.setB b (k.ren σ)).bind λ_=>writeAll σ r out
def newAll(σ:Nat->Nat):List BO->AM Unit
 |[]=>AM.ret ()
 |.set k::out=>(AM.newB (k.ren σ)).bind λ_=>newAll σ out
 |_::_=>AM.fail
def Z1:Af->Nat->Option Nat
 |[],_=>Ξ
 |x::_,0=>Θ x
 |_::r,n+1=>Z1 r n
def HK(L:Af)(n c:Nat):Nat:=match Z1 L c with
 |some b=>b
 |none=>n+(c-L.length)
def PY(n:Nat):Af->Bool
 |[]=>Δ
 |c::r=>match Aw0 c n with
  |true=>PY n r
  |false=>Φ
def Tv(n:Nat):List BO->Bool
 |[]=>Δ
 |o::r=>match PY n o.ids with
  |true=>Tv n r
  |false=>Φ
def callD(D:DF)(args:Ab):AM AV:=
 (trav 4096 (E0 args) []).bind λL=>(readAll L).bind λbs=>
  (AM.opt (D (H8 (λb=>idx b L) args) (bs.map (ABlk.ren λb=>idx b L)))).bind λr=>
   match PY r.2.length r.1.ids,Tv r.2.length r.2 with
   |true,Δ=>nextB.bind λn=>(writeAll (HK L n) L r.2).bind λout=>(newAll (HK L n) out).bind λ_=>AM.ret (r.1.ren (HK L n))
   |_,_=>AM.fail
def Ds:Nat->List ABlk->List (Nat × ABlk)
 |_,[]=>[]
 |n,k::r=>(n,k)::Ds (n+1) r
def WK(H:AH)(wr:Af)(b:Nat):BO:=match FT b wr with
 |false=>.keep
 |true=>(match H.get b with
  |some k=>.set k
  |none=>.del)
def Aj0(H:AH)(b:Nat):BO:=match H.get b with
 |some k=>.set k
 |none=>.del
def Ez:Nat->Nat->Af
 |_,0=>[]
 |a,n+1=>a::Ez (a+1) n
def Ff(m:Ab->AM AV):DF:=λargs bs=>match m args ⟨Ds 0 bs,bs.length,Ξ⟩ with
 |some (r,H',ft)=>Θ (r,(Ez 0 bs.length).map (WK H' ft.wr)++(Ez bs.length (H'.next-bs.length)).map (Aj0 H'))
 |none=>Ξ
def WG:List BO->Nat->Option BO
 |[],_=>Ξ
 |x::_,0=>Θ x
 |_::r,n+1=>WG r n
def Gr(k:Nat)(out:List BO):Nat->Af->Af->Option (Af)
 |_,[],acc=>Θ acc
 |0,_::_,_=>Ξ
 |n+1,b::r,acc=>match Aw0 b k with
  |true=>Gr k out n r acc
  |false=>match FT b acc with
   |true=>Gr k out n r acc
   |false=>match WG out b with
    |some (.set kb)=>Gr k out n (r++kb.ids) (acc++[b])
    |_=>Ξ
def ZD(k:Nat)(acc:Af)(b:Nat):Nat:=match Aw0 b k with
 |true=>b
 |false=>k+idx b acc
def JB:List BO->Nat->List BO
 |[],_=>[]
 |_::_,0=>[]
 |x::r,n+1=>x::JB r n
def Wn:List BO->Af
 |[]=>[]
 |o::r=>o.ids++Wn r
def UV(τ:Nat->Nat)(out:List BO):Af->List BO
 |[]=>[]
 |b::r=>(match WG out b with
  |some o=>o.ren τ
  |none=>.del)::UV τ out r
def AdY(τ:Nat->Nat):List BO->List BO
 |[]=>[]
 |o::r=>o.ren τ::AdY τ r
def PT(D:DF):DF:=λargs bs=>match D args bs with
 |none=>Ξ
 |some (r,out)=>match Gr bs.length out 4096 (r.ids++Wn (JB out bs.length)) []with
  |none=>Ξ
  |some acc=>Θ (r.ren (ZD bs.length acc),AdY (ZD bs.length acc) (JB out bs.length)++UV (ZD bs.length acc) out acc)
def AdD(own:List (Nat × Nat))(f i:Nat):Bool:=match own with
 |[]=>Φ
 |(g,j)::r=>match AwM f g,AwM i j with
  |true,Δ=>Δ
  |_,_=>AdD r f i
def frzA(own:List (Nat × Nat))(f:Nat):Nat->Ab->AM Ab
 |_,[]=>AM.ret []
 |i,x::r=>match AdD own f i with
  |true=>(frzA own f (i+1) r).bind λr=>AM.ret (x::r)
  |false=>(frz 1000 x).bind λx=>(frzA own f (i+1) r).bind λr=>AM.ret (x::r)
def touchS(x:AV):AM AV:=match x with
 |.sl b o n e=>(AM.getB b).bind λk=>match k.ex with
  |true=>(AM.delB b).bind λ_=>(AM.newB k).bind λc=>AM.ret (.sl c o n e)
  |false=>AM.ret (.sl b o n e)
 |x=>AM.ret x
def touchL:Ab->AM Ab
 |[]=>AM.ret []
 |x::r=>(touchS x).bind λx=>(touchL r).bind λr=>AM.ret (x::r)
def touchB(b:Nat):AM Unit:=(AM.getB b).bind λk=>match k.ex,k.st with
 |false,Δ=>(touchL k.cells).bind λcs=>(AM.getB b).bind λk2=>(match k2.ex,AwM cs.length k2.cells.length with
  |false,Δ=>AM.setB b { k2 with cells:=cs }
  |_,_=>AM.fail)
 |true,Δ=>AM.setB b k
 |_,_=>AM.ret ()
def touchI:Af->AM Unit
 |[]=>AM.ret ()
 |b::r=>(touchB b).bind λ_=>touchI r
def touchV(x:AV):AM AV:=match x with
 |.sl b o n e=>touchS (.sl b o n e)
 |.agg cs=>(touchL cs).bind λcs=>(touchI (E0 cs)).bind λ_=>AM.ret (.agg cs)
 |x=>(touchI x.ids).bind λ_=>AM.ret x
def touchA:List Bool->Ab->AM Ab
 |_,[]=>AM.ret []
 |true::m,x::r=>(touchI x.ids).bind λ_=>(touchA m r).bind λr=>AM.ret (x::r)
 |false::m,x::r=>(touchV x).bind λx=>(touchA m r).bind λr=>AM.ret (x::r)
 |[],x::r=>(touchV x).bind λx=>(touchA [] r).bind λr=>AM.ret (x::r)
def LpH.nt(h:LpH)(x:AX):List Bool:=CP (h.out x) ((Ez 0 h.n).map λt=>FT (1000000+t) (h.dlo x))
def delC(b i:Nat):AM Unit:=(AM.getB b).bind λk=>match k.cells[i]? with
 |some (.sl c _ _ _)=>AM.delB c
 |_=>AM.ret ()
def delT:Af->Ab->AM Unit
 |[],_=>AM.ret ()
 |t::r,T=>match T[t]? with
  |some (.sl b _ _ _)=>(AM.delB b).bind λ_=>delT r T
  |some (.ptr b _)=>(AM.delB b).bind λ_=>delT r T
  |_=>(match Ql T t with
   |some q=>(delC q.1 q.2).bind λ_=>delT r T
   |none=>delT r T)
inductive MRes where
 |tmp (t:Nat)
 |cell (t:Nat) (row:Bool) (n:Nat)
structure MFn where
 nt:Nat
 res:List MRes
 body:MC
 loops:List (LpH × MC)
 own:Bool
 tch:Bool
def resM(T:Ab):List MRes->AM Ab
 |[]=>AM.ret []
 |.tmp t::r=>(resM T r).bind λl=>AM.ret ((T[t]?).getD AV.undef::l)
 |.cell x row n::r=>(loadM row n ((T[x]?).getD AV.undef)).bind λv=>(resM T r).bind λl=>AM.ret (v::l)
def axA:AX->AV
 |.normal=>.v (.bool Φ)
 |.ret=>.v (.bool Δ)
 |.exit i=>.v (.int .i64 (Ax9 i))
 |.goto _=>.any
def VL:AV->Option AX
 |.v (.bool Δ)=>Θ .ret
 |.v (.bool Φ)=>Θ .normal
 |.v (.int .i64 (.ofNat i))=>Θ (.exit i)
 |_=>Ξ
section
variable (A:Ar) (D:Orc) (own:List (Nat × Nat))
def callsM(f:FuncId)(args:Ab):AM AV:=(frzA own f 0 args).bind λl=>callD (D.ask (.fn f)) l
def loopsM(f i:Nat)(xs:Ab):AM (AX × Ab):=(callD (D.ask (.lp f i)) xs).bind λr=>match r with
 |.tup (x::ys)=>(match VL x with
  |some ax=>AM.ret (ax,ys)
  |none=>AM.fail)
 |_=>AM.fail
def fnM(f:Nat)(mf:MFn)(args:Ab):AM AV:=(evC A (callsM D own) (loopsM D f) mf.body (Sb mf.nt args)).bind λr=>match r.1 with
 |.exit _=>AM.fail
 |.goto _=>AM.fail
 |_=>(resM r.2 mf.res).bind λl=>(match mf.own with
  |true=>AM.ret (Jn l)
  |false=>frz 1000 (Jn l)).bind λv=>match mf.tch with
   |true=>(touchI (E0 args)).bind λ_=>AM.ret v
   |false=>AM.ret v
def lpM(f i:Nat)(h:LpH)(c:MC)(xs:Ab):AM AV:=(evC A (callsM D own) (loopsM D f) c (Cq h.live h.n xs)).bind λr=>match r.1 with
 |.normal=>(frzT h.fz r.2).bind λT=>(loopsM D f i (CP h.live T)).bind λq=>AM.ret (.tup (axA q.1::q.2))
 |.goto _=>AM.fail
 |ax=>(frzT (h.fzo ax) r.2).bind λT=>(delT (h.dlo ax) T).bind λ_=>(touchA (h.nt ax) (CP (h.out ax) T)).bind λys=>AM.ret (.tup (axA ax::ys))
end
section
variable (P:Program)
def SM(t:TypeId):Option Nat:=match P.underlying t with
 |some .bool=>Θ 1
 |some (.int _)=>Θ 0
 |some .string=>Θ 2
 |_=>Ξ
def QD:List Field->Nat->Option (Af)
 |[],_=>Θ []
 |f::r,n=>if(f.offset == n&&f.name != "_"&&(Cy P f.type == Θ Φ))=Δ then(match SM P f.type,QD r (n+1) with
  |some k,Θ ks=>Θ (k::ks)
  |_,_=>Ξ) else Ξ
def eqS(t:TypeId):Option (Af):=match P.underlying t with
 |some (.struct fs)=>if(!P.stoodInHeld t&&!P.eqGuardType P.depth t)=Δ then QD P fs.toList 0 else Ξ
 |_=>Ξ
def GM(t:TypeId):Nat:=match P.underlying t with
 |some (.pointer _)=>1
 |some (.slice _)=>2
 |some (.func ..)=>3
 |some .bool=>4
 |some (.int _)=>0
 |some .string=>0
 |_=>9
def MG(t:TypeId):Option (Nat × AO × Nat):=match CA P t with
 |some et=>(match P.info? et,C6 P et with
  |some i,Θ z=>if z.cells.size=i.size/\0<i.size then Θ (i.size,z.cells.toList,i.bytes) else Ξ
  |_,_=>Ξ)
 |none=>Ξ
def VU(ents:Nat)(o:Op):MO:=match o with
 |.move x=>.mv x
 |.assign x=>.mv x
 |.pick c a b=>.pick c a b
 |.alloc t=>(match C6 P t with
  |some z=>.alloc z.cells.toList
  |none=>.bad)
 |.box _ x=>.box x
 |.build t ps=>(match C6 P t,CT P t with
  |some z,Θ fs=>(match Je P fs.toList with
   |some pl=>.buildS z.cells.toList pl ps.toList
   |none=>.bad)
  |some z,Ξ=>(match NV P t with
   |some et=>(match DS P et with
    |some e=>.buildR z.cells.toList e ps.toList
    |none=>.bad)
   |none=>.bad)
  |_,_=>.bad)
 |.buildSlice t n ps=>(match CA P t with
  |some et=>(match DS P et,C6 P et with
   |some e,Θ z=>.buildSl z.cells.toList e n ps.toList
   |_,_=>.bad)
  |none=>.bad)
 |.load t a=>(match Cy P t,DS P t with
  |some Δ,Θ n=>.ld Δ n a
  |some Φ,_=>.ld Φ 0 a
  |_,_=>.bad)
 |.store t a x=>(match DS P t with
  |some n=>.st n a x
  |none=>.bad)
 |.nilCheck x=>.nilck x
 |.binOp b t x y _=>(match eqS P t with
  |some ks=>(match b with
   |.eql=>.eqs Φ ks x y
   |.neq=>.eqs Δ ks x y
   |_=>.bad)
  |none=>(match GM P t with
   |9=>.bad
   |k=>.bin k b x y))
 |.unOp .not _ x=>.not x
 |.unOp .neg _ x=>.neg x
 |.makeFunc f a c=>.mkfn f a.toList c.toList
 |.slice t x lo hi Ξ=>(match CA P t with
  |some et=>(match DS P et with
   |some e=>.slice e x lo hi
   |none=>.bad)
  |none=>if Ck P t then .sslice x lo hi else .bad)
 |.fieldAddr t a f=>(match CT P t with
  |some fs=>(match fs[f]? with
   |some fd=>(match DS P fd.type with
    |some (_+1)=>.faddr fd.offset a
    |_=>.bad)
   |none=>.bad)
  |none=>.bad)
 |.field t x f=>(match CT P t with
  |some fs=>(match fs[f]? with
   |some fd=>(match Cy P fd.type,DS P fd.type with
    |some Δ,Θ n=>.field Δ fd.offset n x
    |some Φ,_=>.field Φ fd.offset 0 x
    |_,_=>.bad)
   |none=>.bad)
  |none=>.bad)
 |.indexAddr t x i=>(match CA P t,PX P t with
  |some et,_=>(match DS P et with
   |some e=>.iaddr e x i
   |none=>.bad)
  |none,Θ (n,et)=>(match DS P et with
   |some e=>.aaddr n e x i
   |none=>.bad)
  |_,_=>.bad)
 |.index t x i=>(match PX P t with
  |some (n,et)=>(match DS P et,Cy P et with
   |some e,Θ Δ=>.index n e Δ e x i
   |some e,Θ Φ=>.index n e Φ 0 x i
   |_,_=>.bad)
  |none=>if Ck P t then .sidx x i else .bad)
 |.convert s d x=>(match P.underlying s,P.underlying d with
  |some (.int _),Θ (.int k)=>.iconv k x
  |_,_=>(match DV P s,Ck P d with
   |true,Δ=>.str x
   |_,_=>.bad))
 |.extract x i=>.ext x i
 |.makeSlice t l c=>(match MG P t with
  |some (e,z,by')=>.mksl z e by' l c
  |none=>.bad)
 |.call c=>(match c.callee with
  |.builtin .append=>(match c.args.toList,c.argTypes.toList with
   |[s,x],[t,u]=>(match MG P t,Df P u with
    |some (e,_,by'),Δ=>.app e by' s x
    |some (e,z,by'),Φ=>(match LZ P u with
     |true=>.appz z e by' s x
     |false=>.bad)
    |_,_=>.bad)
   |_,_=>.bad)
  |.builtin .copy=>(match c.args.toList,c.argTypes.toList with
   |[d,x],[t,u]=>(match CA P t,Df P u with
    |some et,Δ=>(match DS P et with
     |some e=>.cpy e d x
     |none=>.bad)
    |_,_=>.bad)
   |_,_=>.bad)
  |.builtin .clear=>(match c.args.toList,c.argTypes.toList with
   |[x],[t]=>(match CA P t with
    |some et=>(match DS P et,C6 P et with
     |some e,Θ z=>if z.cells.size=e/\0<e/\(z.cells.toList.map AV.v).all AV.one=Δ then .clr z.cells.toList e x else .bad
     |_,_=>.bad)
    |none=>.bad)
   |_,_=>.bad)
  |.builtin .len=>(match c.args.toList,c.argTypes.toList with
   |[x],[t]=>if Df P t then .len Δ x else if Ck P t then .len Φ x else .bad
   |_,_=>.bad)
  |.builtin .max=>(match c.args.toList with
   |[x,y]=>.mx x y
   |_=>.bad)
  |.builtin .min=>(match c.args.toList with
   |[x,y]=>.mn x y
   |_=>.bad)
  |.builtin _=>.bad
  |.value f=>(match f with
   |.func g=>if GH P g then .callF g c.args.toList else .bad
   |_=>.callV ents f c.args.toList)
  |.invoke ..=>.bad)
 |_=>.bad
def Abu(ops:Array Oper)(g:Option (Nat × Bool)):Option (Option (Nat × Bool)):=match g with
 |none=>Θ Ξ
 |some (j,want)=>match (ops[j]?).bind (·.dst) with
  |some d=>Θ (Θ (d,want))
  |none=>Ξ
def Jq(ents:Nat)(ops:Array Oper)(o:Oper):MOp:=match Abu ops o.guard with
 |some g=>⟨o.dst,VU P ents o.op,g⟩
 |none=>⟨o.dst,.bad,Ξ⟩
abbrev KA:=List LpH
def BS(ents:Nat)(hs:KA):Code->Nat->MC × List (LpH × MC)
 |.skip,_=>(.skip,[])
 |.region _ ops d,_=>(.reg (ops.toList.map (Jq P ents ops)) (if d then Θ (Tq ops) else Ξ),[])
 |.seq a b,n=>match BS ents hs a n with
  |(ma,la)=>match BS ents hs b (n+la.length) with
   |(mb,lb)=>(.seq ma mb,la++lb)
 |.cond c a b,n=>match BS ents hs a n with
  |(ma,la)=>match BS ents hs b (n+la.length) with
   |(mb,lb)=>(.cond c ma mb,la++lb)
 |.block id c,n=>match BS ents hs c n with
  |(mc,lc)=>(.block id mc,lc)
 |.loop c,n=>match BS ents hs c (n+1),hs[n]? with
  |(mc,lc),Θ h=>(.loop n h,(h,mc)::lc)
  |(mc,lc),Ξ=>(.bad,(⟨0,[],[],[],[]⟩,mc)::lc)
 |.exit id,_=>(.exit id,[])
 |.ret,_=>(.ret,[])
 |_,_=>(.bad,[])
def Jr(rs:List ResultVar):List MRes:=rs.map λr=>match r with
 |.tmp t=>.tmp t
 |.cell t ty=>match Cy P ty,DS P ty with
  |some Δ,Θ n=>.cell t Δ n
  |some Φ,_=>.cell t Φ 0
  |_,_=>.tmp 1000000
end
section
variable {P:Program}
@[simp] theorem CK{α:Type}(a:α):AJ P (pure a:Sem α)=Θ a:=rfl
@[simp] theorem Afg{α:Type}(a:α):AJ P (Sem.pure a:Sem α)=Θ a:=rfl
theorem Jw{α β:Type}(k:α->Sem β):∀(s:Sem α),AJ P (s.bind k)=(AJ P s).bind λa=>AJ P (k a)
 |.pure a=>rfl
 |.program f=>by simp only[Sem.bind,AJ];exact Jw k (f P)
 |.load ..=>rfl
 |.store ..=>rfl
 |.new ..=>rfl
 |.shape ..=>rfl
 |.freeze ..=>rfl
 |.frozen ..=>rfl
 |.getObj ..=>rfl
 |.setObj ..=>rfl
 |.choose ..=>rfl
 |.sys ..=>rfl
 |.mark ..=>rfl
 |.halt ..=>rfl
@[simp] theorem AD{α β:Type}(s:Sem α)(k:α->Sem β):AJ P (s >>= k)=(AJ P s).bind λa=>AJ P (k a):=Jw k s
@[simp] theorem Nn:AJ P program=Θ P:=rfl
theorem Bh{t:TypeId}{d:TypeDesc}(h:P.underlying t=Θ d):AJ P (underlying t)=Θ d:=by
 unfold underlying;simp[h]
theorem OZ{t:TypeId}(h:GM P t=1):∃ e,P.underlying t=Θ (.pointer e):=by
 grind [GM]
theorem X4{t:TypeId}(h:GM P t=2):∃ e,P.underlying t=Θ (.slice e):=by
 grind [GM]
theorem X3{t:TypeId}(h:GM P t=3):∃ a b c,P.underlying t=Θ (.func a b c):=by
 grind [GM]
theorem ZS{t:TypeId}(h:GM P t=4):P.underlying t=Θ .bool:=by
 grind [GM]
theorem QH{o:Oper}{b:BinOp}{t yt:TypeId}{x y:Operand}(ho:o.op=.binOp b t x y yt){ρ:Operand->AV}{u v z:Value}(hx:(ρ x).toVal=Θ u)(hy:(ρ y).toVal=Θ v)
  (h:AJ P (do eqGuard b t x y u v;binOp b t u v)=Θ z):CU P o ρ=Θ (E5 z):=by
 have e1:Cl ρ x=u:=by unfold Cl;rw[hx];rfl
 have e2:Cl ρ y=v:=by unfold Cl;rw[hy];rfl
 have c:(Cu o.op&&o.op.operands.toList.all λx=>(ρ x).toVal.isSome)=Δ:=by
  grind [Op.operands,Cu]
 unfold CU;rw[Ac c];have:AJ P (execOp (Cl ρ) o)=Θ (.value z):=by
  unfold execOp;rw[ho];simp only[e1,e2];rw[AD,h];rfl
 rw[this];rfl
theorem Ow{o:Oper}{b:BinOp}{t yt:TypeId}{x y:Operand}(ho:o.op=.binOp b t x y yt){ρ:Operand->AV}{u v z:Value}(hx:ρ x=.v u)(hy:ρ y=.v v)
  (h:AJ P (do eqGuard b t x y u v;binOp b t u v)=Θ z):CU P o ρ=Θ (E5 z):=QH ho (by rw[hx];rfl) (by rw[hy];rfl) h
theorem Acw{o:Oper}{t:TypeId}{x:Operand}(ho:o.op=.unOp .not t x){ρ:Operand->AV}{c:Bool}(hx:ρ x=.v (.bool c)):CU P o ρ=Θ (.v (.bool !c)):=by
 have e1:Cl ρ x=.bool c:=by unfold Cl;rw[hx];rfl
 have cc:(Cu o.op&&o.op.operands.toList.all λx=>(ρ x).toVal.isSome)=Δ:=by
  grind [AV.toVal,Op.operands,Cu]
 unfold CU;rw[Ac cc];have:AJ P (execOp (Cl ρ) o)=Θ (.value (.bool !c)):=by
  unfold execOp;rw[ho];simp only[e1];rw[AD];rfl
 rw[this];rfl
theorem Acv{o:Oper}{t:TypeId}{x:Operand}(ho:o.op=.unOp .neg t x){ρ:Operand->AV}{k:IntKind}{n:Int}(hx:ρ x=.v (.int k n)):CU P o ρ=Θ (.v (.int k (Ap.sub k 0 n))):=by
 have e1:Cl ρ x=.int k n:=by unfold Cl;rw[hx];rfl
 have cc:(Cu o.op&&o.op.operands.toList.all λx=>(ρ x).toVal.isSome)=Δ:=by
  grind [AV.toVal,Op.operands,Cu]
 unfold CU;rw[Ac cc];have:AJ P (execOp (Cl ρ) o)=Θ (.value (.int k (Ap.sub k 0 n))):=by
  unfold execOp;rw[ho];simp only[e1];rw[AD];rfl
 rw[this];rfl
theorem ZJ{b:BinOp}{t:TypeId}{x y:Operand}{k k':IntKind}{a c:Int}:AJ P (eqGuard b t x y (.int k a) (.int k' c))=Θ ():=by
 simp_all [eqGuard]
theorem ZK{b:BinOp}{t:TypeId}{x y:Operand}{a c:ByteArray}:AJ P (eqGuard b t x y (.string a) (.string c))=Θ ():=by
 simp_all [eqGuard]
theorem Aft{o:Oper}{b:BinOp}{t yt:TypeId}{x y:Operand}(ho:o.op=.binOp b t x y yt){ρ:Operand->AV}{k k':IntKind}{a c:Int}(hx:ρ x=.v (.int k a))(hy:ρ y=.v (.int k' c)){z:Value}(hz:AJ P (binOp b t (.int k a) (.int k' c))=Θ z):CU P o ρ=Θ (E5 z):=
 Ow ho hx hy (by rw[AD,ZJ];exact hz)
theorem Zh{o:Oper}{b:BinOp}{t yt:TypeId}{x y:Operand}(ho:o.op=.binOp b t x y yt){ρ:Operand->AV}{r:AV}(h:KC Ap b (ρ x) (ρ y)=Θ r):CU P o ρ=Θ r/\F9 P t (ρ x) (ρ y)=Φ:=by
 unfold KC at h;split at h
 .rename_i k a k' c hx hy
  refine⟨?_,by rw[hx,hy];rfl⟩;have key:∀ z,AJ P (binOp b t (.int k a) (.int k' c))=Θ z->CU P o ρ=Θ (E5 z):=λz hz=>Aft ho hx hy hz
  have shf:∀{op:BinOp} {v:Value},¬ c<0->(∀ n,n=Axd c.toNat k.bits->AJ P (match op with
    |.shl=>(pure (.int k (k.wrap (a*2 ^ n))):Sem Value)
    |.shr=>pure (.int k (a.fdiv (2 ^ n)))
    |_=>stuck "shift: << >> expected")=Θ v)->AJ P (Op.shift op k a k' c)=Θ v:=λ{op v} hc hv=>by
   unfold Op.shift;rw[Ad hc];exact hv _ rfl
  have div:∀{op:BinOp} {v:Value},¬ c=0->AJ P (match op with
    |.quo=>(pure (.int k (k.wrap (a.tdiv c))):Sem Value)
    |.rem=>pure (.int k (a.tmod c))
    |_=>stuck "intDiv: / % expected")=Θ v->AJ P (Op.intDiv op k a c)=Θ v:=λ{op v} hc hv=>by
   grind [Op.intDiv]
  cases b with
  |shl=>
   simp only at h
   cases e:Ap.lt c 0 with
   |true=>rw[e]at h;cases h
   |false=>
    rw[e]at h;simp only[ψ]at h;subst h;have hc:¬ c<0:=of_decide_eq_false e;exact key (.int k (Ap.shl k a c)) (by
     show AJ P (Op.shift .shl k a k' c)=_
     exact shf hc λn hn=>by rw[hn];rfl)
  |shr=>
   simp only at h
   cases e:Ap.lt c 0 with
   |true=>rw[e]at h;cases h
   |false=>
    rw[e]at h;simp only[ψ]at h;subst h;have hc:¬ c<0:=of_decide_eq_false e;exact key (.int k (Ap.shr k a c)) (by
     show AJ P (Op.shift .shr k a k' c)=_
     exact shf hc λn hn=>by rw[hn];rfl)
  |_=>
   simp only at h;split at h
   .rename_i hk
    subst hk
    try simp only[ψ,reduceCtorEq]at h
    first
     | (subst h
        first
         |exact key (.int k (k.wrap (a+c))) (by simp[binOp,Op.intArith])
         |exact key (.int k (k.wrap (a-c))) (by simp[binOp,Op.intArith])
         |exact key (.int k (k.wrap (a*c))) (by simp[binOp,Op.intArith])
         |exact key (.int k (Ap.bits .and k a c)) (by simp[binOp,Op.intBits,Ap,Hp,Ar.bits,Tt])
         |exact key (.int k (Ap.bits .or k a c)) (by simp[binOp,Op.intBits,Ap,Hp,Ar.bits,Tt])
         |exact key (.int k (Ap.bits .xor k a c)) (by simp[binOp,Op.intBits,Ap,Hp,Ar.bits,Tt])
         |exact key (.int k (Ap.bits .andNot k a c)) (by simp[binOp,Op.intBits,Ap,Hp,Ar.bits,Tt])
         |exact key (.bool (a == c)) (by simp[binOp,Op.intCmp])
         |exact key (.bool (a != c)) (by simp[binOp,Op.intCmp])
         |exact key (.bool (decide (a<c))) (by simp[binOp,Op.intCmp])
         |exact key (.bool (decide (a<=c))) (by simp[binOp,Op.intCmp])
         |exact key (.bool (decide (c<a))) (by simp[binOp,Op.intCmp])
         |exact key (.bool (decide (c<=a))) (by simp[binOp,Op.intCmp]))
     | (cases e:Ap.eq c 0 with
        |true=>rw[e]at h;cases h
        |false=>
         rw[e]at h;simp only[ψ]at h;subst h;have hc:¬ c=0:=λe0=>by subst e0;exact absurd e (by simp[Ap,Hp,Ar.eq])
         first
          |exact key (.int k (Ap.quo k a c)) (by
            have:binOp .quo t (.int k a) (.int k c)=Op.intDiv .quo k a c:=by simp[binOp]
            rw[this];exact div hc rfl)
          |exact key (.int k (Ap.rem k a c)) (by
            have:binOp .rem t (.int k a) (.int k c)=Op.intDiv .rem k a c:=by simp[binOp]
            rw[this];exact div hc rfl))
   .cases h
 .rename_i a c hx hy
  refine⟨?_,by rw[hx,hy];rfl⟩;have key:∀ z,AJ P (binOp b t (.string a) (.string c))=Θ z->CU P o ρ=Θ (E5 z):=λz hz=>Ow ho hx hy (by rw[AD,ZK];exact hz)
  cases b with
  |add=>
   simp only at h
   cases e:Awf (Ap.slen a+Ap.slen c) 9223372036854775807 with
   |false=>rw[e]at h;cases h
   |true=>
    rw[e]at h;simp only[ψ]at h;subst h;have e1:a.size+c.size<=9223372036854775807:=Nat.le_of_ble_eq_true e;refine key (.string (a++c)) ?_;simp only[binOp,Op.stringOp];rw[Ad (by
     have:IntKind.i64.max=9223372036854775807:=by decide
     rw[this];omega)]
    rfl
  |eql=>simp only[ψ]at h;subst h;exact key (.bool (a.toList == c.toList)) (by simp[binOp,Op.stringOp])
  |neq=>simp only[ψ]at h;subst h;exact key (.bool !(a.toList == c.toList)) (by simp[binOp,Op.stringOp])
  |lss=>simp only[ψ]at h;subst h;exact key (.bool (Op.bytesLess a.toList c.toList)) (by simp[binOp,Op.stringOp])
  |geq=>simp only[ψ]at h;subst h;exact key (.bool !(Op.bytesLess a.toList c.toList)) (by simp[binOp,Op.stringOp])
  |_=>cases h
 .cases h
def Zg(P:Program)(o:Oper)(b:BinOp)(t:TypeId)(x y:Operand)(ρ:Operand->AV):AM AV:=if F9 P t (ρ x) (ρ y)=Δ then(match b with
   |.eql=>AM.ret (.v (.bool Φ))
   |.neq=>AM.ret (.v (.bool Δ))
   |_=>AM.fail) else AM.opt (CU P o ρ)
theorem AfQ{t:TypeId}{x y:Operand}{u v:Value}(hu:∀ us vs,¬ (u=.agg us/\v=.agg vs))(hn:u≠.nilIface){b:BinOp}:AJ P (eqGuard b t x y u v)=Θ ():=by
 have key:AJ P (match u,v with
  |.nilIface,.nilIface=>do
   if(x matches .const _)||(y matches .const _) then return
   if ←Op.eqGuardIn Op.maxDepth t u v then unsupported (.noEntry "binop/eql: two nil values of an interface type with methods, neither of them the literal nil")
  |.agg _,.agg _=>do
   if !(←program).eqGuardType (←program).depth t then return
   if ←Op.eqGuardIn Op.maxDepth t u v then unsupported (.noEntry "binop/eql: two nil values of an interface type with methods, in a part of a struct or an array")
  |_,_=>pure ())=Θ ():=by
  simp_all
 unfold eqGuard
 cases b<;>first
  |rfl
  |exact key
theorem R7{o:Oper}{b:BinOp}{t yt:TypeId}{x y:Operand}(ho:o.op=.binOp b t x y yt){ρ:Operand->AV}{u v:Value}{c:Bool}(hx:ρ x=.v u)(hy:ρ y=.v v)
  (hu:∀ us vs,¬ (u=.agg us/\v=.agg vs)) (hn:u≠.nilIface) (hi:∀ k a k' c,¬ (u=.int k a/\v=.int k' c)) (hfl:∀ k a,u≠.float k a) (hc:∀ k a c,u≠.complex k a c) (hs:∀ a,u≠.string a)
  (h:AJ P (Op.equal t u v)=Θ c) (hb:b=.eql\/b=.neq):CU P o ρ=Θ (.v (.bool (if b=.eql then c else !c))):=by
 have:CU P o ρ=Θ (E5 (.bool (if b=.eql then c else !c))):=by
  refine Ow ho hx hy ?_;rw[AD,AfQ hu hn];rcases hb with rfl|rfl
  .cases u<;>first
    |(exfalso;first|exact hfl _ _ rfl|exact hc _ _ _ rfl|exact hs _ rfl)
    |(cases v<;>first
      |(exfalso;exact hi _ _ _ _ ⟨rfl,rfl⟩)
      |(simp only[AwQ,Go.binOp,AD,h,CK];rfl))
  .cases u<;>first
    |(exfalso;first|exact hfl _ _ rfl|exact hc _ _ _ rfl|exact hs _ rfl)
    |(cases v<;>first
      |(exfalso;exact hi _ _ _ _ ⟨rfl,rfl⟩)
      |(simp only[AwQ,Go.binOp,AD,h,CK];rfl))
 exact this
theorem Zx{t:TypeId}(hu:P.underlying t=Θ .bool)(d:Nat)(a c:Bool):AJ P (Op.equalIn (d+1) t (.bool a) (.bool c))=Θ (a == c):=by
 unfold Op.equalIn;rw[AD,Bh hu];rfl
theorem Ace{t e:TypeId}(hu:P.underlying t=Θ (.pointer e))(d:Nat):AJ P (Op.equalIn (d+1) t (.pointer Ξ) (.pointer Ξ))=Θ Δ:=by
 unfold Op.equalIn;rw[AD,Bh hu];rfl
theorem AfP{t e:TypeId}(hu:P.underlying t=Θ (.slice e))(d:Nat):AJ P (Op.equalIn (d+1) t (.slice Ξ 0 0) (.slice Ξ 0 0))=Θ Δ:=by
 unfold Op.equalIn;rw[AD,Bh hu];rfl
theorem AfO{t:TypeId}{a b:Array TypeId}{c:Bool}(hu:P.underlying t=Θ (.func a b c))(d:Nat):AJ P (Op.equalIn (d+1) t .nilFunc .nilFunc)=Θ Δ:=by
 unfold Op.equalIn;rw[AD,Bh hu];rfl
theorem TN{o:Oper}{b:BinOp}{t yt:TypeId}{x y:Operand}(ho:o.op=.binOp b t x y yt){ρ:Operand->AV}{ek:Nat}(hk:GM P t=ek){c:Bool}(h:eqM Ap ek (ρ x) (ρ y)=Θ c)(hb:b=.eql\/b=.neq) :
  Zg P o b t x y ρ=AM.ret (.v (.bool (if b=.eql then c else !c))):=by
 unfold eqM at h;unfold Zg;split at h<;>simp only[ψ,reduceCtorEq]at h<;>try subst h
 .-- bool
  rename_i a c hx hy;have hu:=ZS hk;rw[Ad (by rw[hx,hy];simp[F9])];have:AJ P (Op.equal t (.bool a) (.bool c))=Θ (a == c):=Zx hu 9999 a c;rw[R7 ho hx hy (by simp) (by simp) (by simp) (by simp) (by simp) (by simp) this hb];rfl
 .rename_i hx hy
  obtain⟨e,hu⟩:=OZ hk;rw[Ac (by rw[hx,hy];simp[F9,hu])];rcases hb with rfl|rfl<;>rfl
 .rename_i hx hy
  obtain⟨e,hu⟩:=OZ hk;rw[Ac (by rw[hx,hy];simp[F9,hu])];rcases hb with rfl|rfl<;>rfl
 .rename_i hx hy
  obtain⟨e,hu⟩:=OZ hk;rw[Ad (by rw[hx,hy];simp[F9])];have:AJ P (Op.equal t (.pointer Ξ) (.pointer Ξ))=Θ Δ:=Ace hu 9999;rw[R7 ho hx hy (by simp) (by simp) (by simp) (by simp) (by simp) (by simp) this hb];rfl
 .rename_i hx hy
  obtain⟨e,hu⟩:=X4 hk;rw[Ac (by rw[hx,hy];simp[F9,hu])];rcases hb with rfl|rfl<;>rfl
 .rename_i hx hy
  obtain⟨e,hu⟩:=X4 hk;rw[Ad (by rw[hx,hy];simp[F9])];have:AJ P (Op.equal t (.slice Ξ 0 0) (.slice Ξ 0 0))=Θ Δ:=AfP hu 9999;rw[R7 ho hx hy (by simp) (by simp) (by simp) (by simp) (by simp) (by simp) this hb];rfl
 .rename_i hx hy
  obtain⟨e,e2,e3,hu⟩:=X3 hk;rw[Ac (by rw[hx,hy];simp[F9,hu])];rcases hb with rfl|rfl<;>rfl
 .rename_i hx hy
  obtain⟨e,e2,e3,hu⟩:=X3 hk;rw[Ad (by rw[hx,hy];simp[F9])];have:AJ P (Op.equal t .nilFunc .nilFunc)=Θ Δ:=AfO hu 9999;rw[R7 ho hx hy (by simp) (by simp) (by simp) (by simp) (by simp) (by simp) this hb];rfl
def JJ:Nat->Value->Value->Option Bool
 |1,.bool a,.bool b=>Θ (a == b)
 |0,.int k a,.int k' b=>if k=k' then Θ (a == b) else Ξ
 |2,.string a,.string b=>Θ (a == b)
 |_,_,_=>Ξ
def Ep:Af->AO->AO->Option Bool
 |[],[],[]=>Θ Δ
 |k::ks,u::us,v::vs=>(match JJ k u v,Ep ks us vs with
  |some a,Θ b=>Θ (a&&b)
  |_,_=>Ξ)
 |_,_,_=>Ξ
theorem IZ(a b:ByteArray):(a == b)=(a.data == b.data):=by
 cases a;cases b;rfl
theorem Ty(a b:ByteArray):(a.toList == b.toList)=(a == b):=by
 simp_all [Go.ByteArray.toList_eq,IZ]
theorem KN:∀{ks:Af} {xs ys:Ab} {c:Bool},eqL Ap ks xs ys=Θ c->∃ us vs,H9 xs=Θ us/\H9 ys=Θ vs/\Ep ks us vs=Θ c
 |[],[],[],c,h=>by simp only[eqL,ψ]at h;subst h;exact⟨[],[],rfl,rfl,rfl⟩
 |ks,xs,ys,c,h=>by
  unfold eqL at h;split at h
  .simp only[ψ]at h;subst h;exact⟨[],[],rfl,rfl,rfl⟩
  .rename_i ks a r b q
   cases e:eqL Ap ks r q with
   |none=>rw[e]at h;cases h
   |some t=>
    rw[e]at h;simp only[ψ]at h;subst h;obtain⟨us,vs,h1,h2,h3⟩:=KN e;exact⟨.bool a::us,.bool b::vs,by simp only[H9,h1],by simp only[H9,h2],by simp only[Ep,JJ,h3];rfl⟩
  .rename_i ks k a r k' b q
   split at h
   .rename_i hk
    cases e:eqL Ap ks r q with
    |none=>rw[e]at h;cases h
    |some t=>
     rw[e]at h;simp only[ψ]at h;subst h;obtain⟨us,vs,h1,h2,h3⟩:=KN e;exact⟨.int k a::us,.int k' b::vs,by simp only[H9,h1],by simp only[H9,h2],by simp only[Ep,JJ,h3,Ac hk];rfl⟩
   .cases h
  .rename_i ks a r b q
   cases e:eqL Ap ks r q with
   |none=>rw[e]at h;cases h
   |some t=>
    rw[e]at h;simp only[ψ]at h;subst h;obtain⟨us,vs,h1,h2,h3⟩:=KN e;refine⟨.string a::us,.string b::vs,by simp only[H9,h1],by simp only[H9,h2],?_⟩;simp only[Ep,JJ,h3]
    show Θ ((a == b)&&t)=Θ ((a.toList == b.toList)&&t)
    rw[Ty]
  .cases h
theorem Zy{t:TypeId}{k:Nat}(hk:SM P t=Θ k){u v:Value}{c:Bool}(h:JJ k u v=Θ c)(d:Nat):AJ P (Op.equalIn (d+1) t u v)=Θ c:=by
 unfold JJ at h;unfold SM at hk;split at h
 .simp only[ψ]at h
  subst h;split at hk<;>simp only[ψ,reduceCtorEq]at hk<;>try (exact absurd hk (by decide))
  rename_i hu;unfold Op.equalIn;rw[AD,Bh hu];rfl
 .split at h
  .rename_i ek
   simp only[ψ]at h;subst h;split at hk<;>simp only[ψ,reduceCtorEq]at hk<;>try (exact absurd hk (by decide))
   rename_i hu;unfold Op.equalIn;rw[AD,Bh hu];simp only[AwQ,ek,if_true];rfl
  .cases h
 .simp only[ψ]at h
  subst h;split at hk<;>simp only[ψ,reduceCtorEq]at hk<;>try (exact absurd hk (by decide))
  rename_i hu;unfold Op.equalIn;rw[AD,Bh hu];rfl
 .cases h
theorem Q7{t:TypeId}(h:Cy P t=Θ Φ){cs:Array Value}{n:Nat}{u:Value}(hu:cs[n]? = Θ u):AJ P (part t cs n)=Θ u:=by
 unfold part;have:AJ P (isAgg t)=Θ Φ:=by
  unfold isAgg;unfold Cy at h
  cases e:P.underlying t with
  |none=>rw[e]at h;cases h
  |some d=>
   rw[e]at h;simp only[AwT,ψ]at h;rw[AD,Bh e]
   cases d<;>first | (simp[AcX]at h;done) | rfl
 rw[AD,this];simp[hu]
theorem LP{o:Oper}{ρ:Operand->AV}{z:Value}(hn:Cu o.op=Δ)(ha:(o.op.operands.toList.all λx=>(ρ x).toVal.isSome)=Δ)(h:AJ P (execOp (Cl ρ) o)=Θ (.value z)):CU P o ρ=Θ (E5 z):=by
 unfold CU;rw[Ac (by rw[hn,ha];rfl),h];rfl
theorem Gk{ρ:Operand->AV}{x:Operand}{u:Value}(h:ρ x=.v u):Cl ρ x=u:=by unfold Cl;rw[h];rfl
theorem KK{xs ys:Array Value}(d:Nat):∀(fs:List Field) (n:Nat) {ks:Af} {us vs:AO} {c:Bool},QD P fs n=Θ ks->Ep ks us vs=Θ c->(∀(i:Nat) u,us[i]? = Θ u->xs[n+i]? = Θ u)->(∀(i:Nat) u,vs[i]? = Θ u->ys[n+i]? = Θ u)->AJ P (Op.eqFields (d+1) xs ys fs)=Θ c
 |[],n,ks,us,vs,c,hf,hc,hx,hy=>by
  simp only[QD,ψ]at hf;subst hf
  cases us<;>cases vs<;>simp only[Ep,ψ,reduceCtorEq]at hc
  subst hc;rfl
 |f::r,n,ks,us,vs,c,hf,hc,hx,hy=>by
  simp only[QD]at hf;split at hf
  .rename_i h1
   simp only[Awh,beq_iff_eq,bne_iff_ne]at h1;obtain⟨⟨h1,h2⟩,h3⟩:=h1
   cases e1:SM P f.type with
   |none=>rw[e1]at hf;cases hf
   |some k=>
    cases e2:QD P r (n+1) with
    |none=>rw[e1,e2]at hf;cases hf
    |some ks'=>
     rw[e1,e2]at hf;simp only[ψ]at hf;subst hf
     cases us with
     |nil=>simp[Ep]at hc
     |cons u us=>
      cases vs with
      |nil=>simp[Ep]at hc
      |cons v vs=>
       simp only[Ep]at hc
       cases e3:JJ k u v with
       |none=>rw[e3]at hc;cases hc
       |some a=>
        cases e4:Ep ks' us vs with
        |none=>rw[e3,e4]at hc;cases hc
        |some b=>
         rw[e3,e4]at hc;simp only[ψ]at hc;subst hc;have ih:=KK d r (n+1) e2 e4 (λi u hi=>by have:=hx (i+1) u (by simpa using hi);rwa [show n+1+i=n+(i+1) by omega]) (λi u hi=>by have:=hy (i+1) u (by simpa using hi);rwa [show n+1+i=n+(i+1) by omega]);unfold Op.eqFields;rw[Ac h2,h1,AD,Q7 h3 (show xs[n]? = Θ u from hx 0 u rfl)];simp only[AwQ];rw[AD,Q7 h3 (show ys[n]? = Θ v from hy 0 v rfl)];simp only[AwQ];rw[AD,Zy e1 e3 d];simp only[AwQ]
         cases a with
         |true=>simpa using ih
         |false=>simp
  .cases hf
theorem TM{t:TypeId}{fs:Array Field}(ht:P.underlying t=Θ (.struct fs))(hp:P.stoodInHeld t=Φ)(d:Nat)(xs ys:Array Value):AJ P (Op.equalIn (d+1) t (.agg xs) (.agg ys))=AJ P (Op.eqFields d xs ys fs.toList):=by
 unfold Op.equalIn;rw[AD,Bh ht];simp only[AwQ,AD,Nn,hp,Axj,if_false];rw[←Array.forIn_toList];generalize fs.toList=l;clear ht
 induction l with
 |nil=>simp[Op.eqFields]
 |cons f fs ih=>
  simp only[List.forIn_cons,Op.eqFields];split
  .simp only[AD]
   cases AJ P (part f.type xs f.offset) with
   |none=>rfl
   |some a=>
    simp only[AwQ,AD]
    cases AJ P (part f.type ys f.offset) with
    |none=>rfl
    |some b=>
     simp only[AwQ,AD]
     cases AJ P (Op.equalIn d f.type a b) with
     |none=>rfl
     |some r=>
      cases r
      .simp
      .simpa using ih
  .simpa using ih
theorem Qz{o:Oper}{b:BinOp}{t yt:TypeId}{x y:Operand}(ho:o.op=.binOp b t x y yt){ρ:Operand->AV}{ks:Af}(hk:eqS P t=Θ ks){r:AV}{neg:Bool}(hb:b=if neg then .neq else .eql)(h:AnC Ap neg ks (ρ x) (ρ y)=Θ r):Zg P o b t x y ρ=AM.ret r:=by
 unfold AnC at h;split at h
 .rename_i xs ys ex ey
  cases e:eqL Ap ks xs ys with
  |none=>rw[e]at h;cases h
  |some c=>
   rw[e]at h;obtain⟨us,vs,h1,h2,h3⟩:=KN e;unfold eqS at hk;split at hk
   .rename_i fs hu
    split at hk
    .rename_i hc
     simp only[Awh,Bool.not_eq_true']at hc;have key:AJ P (Op.equalIn 10000 t (.agg us.toArray) (.agg vs.toArray))=Θ c:=by
      rw[TM hu hc.1 9999];exact KK 9998 fs.toList 0 hk h3 (λi u hi=>by rw[Awt];simpa using hi) (λi u hi=>by rw[Awt];simpa using hi)
     have g:CU P o ρ=Θ (E5 (.bool (if neg then !c else c))):=by
      refine QH ho (u:=.agg us.toArray) (v:=.agg vs.toArray) (by rw[ex];simp only[AV.toVal,h1]) (by rw[ey];simp only[AV.toVal,h2]) ?_;have g1:AJ P (eqGuard b t x y (.agg us.toArray) (.agg vs.toArray))=Θ ():=by
       unfold eqGuard;rw[hb]
       cases neg<;>simp[hc.2]
      rw[AD,g1];simp only[AwQ];rw[hb]
      cases neg
      .show AJ P (binOp .eql t (.agg us.toArray) (.agg vs.toArray))=_
       have:binOp .eql t (.agg us.toArray) (.agg vs.toArray)=(do let r ←Op.equalIn 10000 t (.agg us.toArray) (.agg vs.toArray);pure (.bool r)):=rfl;rw[this,AD,key];rfl
      .show AJ P (binOp .neq t (.agg us.toArray) (.agg vs.toArray))=_
       have:binOp .neq t (.agg us.toArray) (.agg vs.toArray)=(do let r ←Op.equalIn 10000 t (.agg us.toArray) (.agg vs.toArray);pure (.bool !r)):=rfl;rw[this,AD,key];rfl
     unfold Zg;rw[Ad (by rw[ex,ey];simp[F9]),g]
     cases neg<;>(simp only[ψ]at h;rw[←h];rfl)
    .cases hk
   .cases hk
 .cases h
theorem Zu{o:Oper}{b:BinOp}{t yt:TypeId}{x y:Operand}(ho:o.op=.binOp b t x y yt){ρ:Operand->AV}{r:AV}(h:AfC Ap (GM P t) b (ρ x) (ρ y)=Θ r):Zg P o b t x y ρ=AM.ret r:=by
 unfold AfC at h;split at h
 .obtain⟨h1,h2⟩:=Zh (P:=P) ho h
  unfold Zg;rw[Ad (by rw[h2];simp),h1];rfl
 .rename_i hk
  cases e:eqM Ap (GM P t) (ρ x) (ρ y) with
  |none=>rw[e]at h;cases h
  |some c=>
   rw[e]at h;simp only[AwT,ψ]at h;subst h;rw[TN ho rfl e (.inl rfl)];rfl
 .cases e:eqM Ap (GM P t) (ρ x) (ρ y) with
  |none=>rw[e]at h;cases h
  |some c=>
   rw[e]at h;simp only[AwT,ψ]at h;subst h;rw[TN ho rfl e (.inr rfl)];rfl
 .cases h
end
def Le{α:Type}(m m':AM α):Prop:=∀ H r,m H=Θ r->m' H=Θ r
section
variable {α β:Type}
theorem Le.refl(m:AM α):Le m m:=λ_ _ h=>h
theorem Le.fail(m:AM α):Le AM.fail m:=λ_ _ h=>by cases h
theorem Le.bind{m m':AM α}{f f':α->AM β}(h:Le m m')(k:∀ a,Le (f a) (f' a)):Le (m.bind f) (m'.bind f'):=λH r e=>by
 unfold AM.bind at e ⊢;rcases e1:m H with _|⟨a,H1,f1⟩<;>rw[e1]at e
 .cases e
 simp only at e;rcases e2:f a H1 with _|⟨b,H2,f2⟩<;>rw[e2]at e
 .cases e
 simp only at e;rw[h H _ e1];simp only;rw[k a H1 _ e2];exact e
theorem Le.opt{o o':Option α}(h:∀ a,o=Θ a->o'=Θ a):Le (AM.opt o) (AM.opt o'):=λH r e=>by
 cases o with
 |none=>cases e
 |some a=>rw[h a rfl];exact e
theorem Le.ret{o:Option α}{m:AM α}(h:∀ a,o=Θ a->m=AM.ret a):Le (AM.opt o) m:=λH r e=>by
 cases o with
 |none=>cases e
 |some a=>rw[h a rfl];exact e
theorem Le.trans{m m1 m2:AM α}(h:Le m m1)(k:Le m1 m2):Le m m2:=λH r e=>k H r (h H r e)
end
section
variable {P:Program}
theorem Hk:∀ xs,AT xs=xs.length
 |[]=>rfl
 |x::r=>by simp[AT,Hk r]
theorem GZ:∀ xs n,HT xs n=xs.take n
 |[],_=>by simp[HT]
 |x::r,0=>by simp[HT]
 |x::r,n+1=>by simp[HT,GZ r n]
theorem GG:∀ xs n,HL xs n=xs.drop n
 |[],_=>by simp[HL]
 |x::r,0=>by simp[HL]
 |x::r,n+1=>by simp[HL,GG r n]
theorem KF:∀ xs,E8 xs=xs.flatten
 |[]=>rfl
 |x::r=>by simp[E8,KF r]
theorem Ga:∀ xs,Gv xs=xs.all AV.one
 |[]=>rfl
 |x::r=>by simp[Gv,Ga r]
theorem Ank(a b:Nat):AwM a b=(a == b):=Bool.eq_iff_iff.2 (by simp)
theorem IT(e:Nat):∀ xs,EG e xs=xs.all λcs=>cs.length == e
 |[]=>rfl
 |x::r=>by simp[EG,IT e r,Ank]
theorem Jd(T:Ab):∀ l,P9 T l=l.map (Bl T)
 |[]=>rfl
 |x::r=>by simp[P9,Jd T r]
theorem K7(T:Ab):∀ l,K6 T l=l.map λp=>(p.1,Bl T p.2)
 |[]=>rfl
 |(i,x)::r=>by simp[K6,K7 T r]
theorem Ny{t:TypeId}{row:Bool}{n:Nat}(h1:Cy P t=Θ row)(h2:row=Δ->DS P t=Θ n)(a:AV):Le (loadM row n a) (loadA P t a):=by
 unfold loadM loadA;rw[h1]
 cases row with
 |true=>rw[h2 rfl];exact Le.refl _
 |false=>exact Le.refl _
theorem Adb{t:TypeId}{n:Nat}(h:DS P t=Θ n)(a x:AV):Le (storeM n a x) (storeA P t a x):=by
 unfold storeM storeA;rw[h]
 cases a<;>exact Le.refl _
theorem YG{t:TypeId}{row:Bool}{n:Nat}(h1:Cy P t=Θ row)(h2:row=Δ->DS P t=Θ n)(cs:Ab)(off:Nat):UU row off n cs=Q6 P t cs off:=by
 unfold UU Q6;rw[h1]
 cases row with
 |true=>rw[h2 rfl]
 |false=>rfl
theorem AcT{t et:TypeId}{e:Nat}(h1:CA P t=Θ et)(h2:DS P et=Θ e){x ix r:AV}(h:OT e x ix=Θ r):D6 P t x ix=Θ r:=by
 unfold OT at h;unfold D6;rw[h1]
 cases e1:ix.idx with
 |none=>rw[e1]at h;cases h
 |some i=>
  rw[e1]at h;simp only at h
  cases x<;>try (cases h)
  .rename_i b o n e'
   simp only at h ⊢;split at h
   .rename_i hlt
    split at h
    .rename_i he
     subst he;have:i+1<=n:=by simpa[Aw0]using hlt
     have:i<n:=by omega
     rw[Ac ⟨this,h2⟩];exact h
    .cases h
   .cases h
  .rename_i xs
   simp only[SL]at h ⊢
   cases e2:xs[i]? with
   |none=>rw[e2]at h;cases h
   |some cs=>
    rw[e2]at h;simp only at h ⊢;split at h
    .rename_i hb
     have:cs.length=e:=by simpa using hb
     rw[Ac (by rw[h2,this])];exact h
    .cases h
theorem Aeo{t et:TypeId}{e:Nat}(h1:CA P t=Θ et)(h2:DS P et=Θ e){x r:AV}{lo hi:Option AV}(h:PB e x lo hi=Θ r):Ka P t x lo hi=Θ r:=by
 have om:∀ n o,Nl n o=EN n o:=λn o=>by cases o<;>rfl
 unfold PB at h;unfold Ka;rw[h1];simp only[om,Hk,GZ,GG,IT]at h
 cases x<;>try (cases h)
 .rename_i b o n e'
  simp only at h ⊢;split at h
  .rename_i l hh e1 e2
   rw[e1,e2];simp only;split at h
   .rename_i c1 c2 c3
    have c3':e'=e:=by simpa using c3
    subst c3';rw[Ac ⟨by simpa using c1,by simpa using c2,h2⟩];exact h
   .cases h
  .cases h
 .rename_i xs
  simp only at h ⊢;split at h
  .rename_i l hh e1 e2
   rw[e1,e2];simp only;split at h
   .rename_i c1 c2 c3
    have c4:(xs.all λcs=>DS P et == Θ cs.length)=Δ:=Awr.2 λcs hcs=>by
     have:=Awr.1 c3 cs hcs;rw[h2];simp at this ⊢;exact this.symm
    rw[Ac ⟨by simpa using c1,by simpa using c2,by rw[h2];rfl,c4⟩];exact h
   .cases h
  .cases h
theorem Ss(e:Nat)(x:AV):Le (newsM e x) (newsA e x):=by
 unfold newsM newsA;split
 .dsimp only
  split
  .refine Le.bind (Le.refl _) λk=>?_
   split
   .rename_i c1 c2
    rw[Ac ⟨by simpa using c1,c2⟩];exact Le.refl _
   .exact Le.fail _
  .exact Le.fail _
 .simp only[Hk,KF,IT]
  split
  .rename_i c
   rw[Ac c];exact Le.refl _
  .exact Le.fail _
 .exact Le.refl _
 .exact Le.fail _
theorem JR{t:TypeId}{e b:Nat}{z:AO}(h:MG P t=Θ (e,z,b)):∃ et i zz,CA P t=Θ et/\P.info? et=Θ i/\C6 P et=Θ zz/\i.zero=Θ zz/\zz.cells.size=i.size/\0<i.size/\e=i.size/\z=zz.cells.toList/\b=i.bytes:=by
 unfold MG at h;split at h
 .rename_i et h1
  split at h
  .rename_i i zz h2 h3
   split at h
   .rename_i h4
    simp only[ψ,Prod.mk.injEq]at h;refine⟨et,i,zz,h1,h2,h3,?_,h4.1,h4.2,h.1.symm,h.2.1.symm,h.2.2.symm⟩;unfold C6 at h3;rw[h2]at h3;simp only at h3;split at h3
    .split at h3
     .rename_i e5 _;rw[e5];exact h3
     .cases h3
    .cases h3
   .cases h
  .cases h
 .cases h
theorem ZT{t u:TypeId}{e b:Nat}{z:AO}(h:MG P t=Θ (e,z,b))(hu:Df P u=Δ)(s x:AV):Le (appM e b s x) (appendA P [t,u] s x):=by
 obtain⟨et,i,zz,h1,h2,h3,h4,h5,h6,rfl,_,rfl⟩:=JR h;have hn:Gu P u=Δ:=by
  unfold Df at hu;unfold Gu;split at hu
  .rename_i e1;rw[e1]
  .cases hu
 unfold appM appendA;simp only[h1,h2,h4];rw[Ac (show zz.cells.size=i.size/\0<i.size from ⟨h5,h6⟩)];refine Le.bind (by unfold newsU;rw[hn];exact Ss _ _) λr=>?_
 unfold appR;split
 .rename_i c
  rw[Ac (show r.1=0 by simpa using c)];exact Le.refl _
 .rename_i c
  rw[Ad (show ¬ r.1=0 by intro e;rw[e]at c;simp at c)];rw[Ga];split
  .exact Le.fail _
  .rename_i c1
   rw[Ac c1];split
   .dsimp only
    split
    .rename_i c2 c3
     rw[Ac ⟨rfl,by simpa using c2,by simpa using c3⟩];exact Le.refl _
    .exact Le.fail _
   .dsimp only
    split
    .rename_i c2 c3 c4
     rw[Ac ⟨by simpa using c2,by simpa using c3,by simpa using c4⟩];have c2':=AwA c2;subst c2';refine Le.bind (Le.refl _) λk=>?_
     split
     .rename_i d1 d2 d3
      have d3':=AwA d3;rw[Ac ⟨d1,by omega,.inl d2⟩,Ac d2,d2];exact Le.refl _
     .rename_i d1 d2 d3
      have d3':=AwA d3;rw[Ac ⟨d1,by omega,.inr d3'⟩,Ad (by rw[d2];simp),d2];exact Le.refl _
     .rename_i d1 d2 d3
      split
      .rename_i d4
       rw[Ac ⟨d1,by simpa using d4,.inl d2⟩,Ac d2,d2];exact Le.refl _
      .exact Le.fail _
     .exact Le.fail _
    .exact Le.fail _
   .exact Le.fail _
theorem Aga{t u:TypeId}{e b:Nat}{z:AO}(h:MG P t=Θ (e,z,b))(hu:LZ P u=Δ)(s x:AV):Le (appzM z e b s x) (appendA P [t,u] s x):=by
 obtain⟨et,i,zz,h1,h2,h3,h4,h5,h6,rfl,rfl,rfl⟩:=JR h;have hn:Gu P u=Φ:=by
  unfold LZ at hu;unfold Gu;split at hu
  .rename_i e1;rw[e1]
  .cases hu
 unfold appzM appendA;simp only[h1,h2,h4];rw[Ac (show zz.cells.size=i.size/\0<i.size from ⟨h5,h6⟩)];refine Le.bind ?_ λr=>?_
 .unfold newsU SH newsZ
  rw[hn,hu];dsimp only;obtain⟨_,_,_,hfl⟩:=D9 h3
  cases x.idx with
  |none=>exact Le.fail _
  |some m=>
   dsimp only;split
   .rename_i c1
    rw [Ac ⟨by     have:m<=9223372036854775807:=by simpa using c1
                   omega,hfl⟩]
    exact Le.refl _
   .exact Le.fail _
 unfold appR;split
 .rename_i c
  rw[Ac (show r.1=0 by simpa using c)];exact Le.refl _
 .rename_i c
  rw[Ad (show ¬ r.1=0 by intro e;rw[e]at c;simp at c)];rw[Ga];split
  .exact Le.fail _
  .rename_i c1
   rw[Ac c1];split
   .dsimp only
    split
    .rename_i c2 c3
     rw[Ac ⟨rfl,by simpa using c2,by simpa using c3⟩];exact Le.refl _
    .exact Le.fail _
   .dsimp only
    split
    .rename_i c2 c3 c4
     rw[Ac ⟨by simpa using c2,by simpa using c3,by simpa using c4⟩];have c2':=AwA c2;subst c2';refine Le.bind (Le.refl _) λk=>?_
     split
     .rename_i d1 d2 d3
      have d3':=AwA d3;rw[Ac ⟨d1,by omega,.inl d2⟩,Ac d2,d2];exact Le.refl _
     .rename_i d1 d2 d3
      have d3':=AwA d3;rw[Ac ⟨d1,by omega,.inr d3'⟩,Ad (by rw[d2];simp),d2];exact Le.refl _
     .rename_i d1 d2 d3
      split
      .rename_i d4
       rw[Ac ⟨d1,by simpa using d4,.inl d2⟩,Ac d2,d2];exact Le.refl _
      .exact Le.fail _
     .exact Le.fail _
    .exact Le.fail _
   .exact Le.fail _
theorem Agc{t:TypeId}{e b:Nat}{z:AO}(h:MG P t=Θ (e,z,b))(l c:AV):Le (mkslM z e b l c) (makeSliceA P t l c):=by
 obtain⟨et,i,zz,h1,h2,h3,h4,h5,h6,rfl,rfl,rfl⟩:=JR h;unfold mkslM makeSliceA;rw[h1];split
 .rename_i n m e1 e2
  rw[e1,e2];dsimp only;rw[h2,h3];dsimp only;split
  .rename_i c1 c2 c3
   rw[Ac ⟨by simpa using c1,by simpa using c2,by simpa using c3,h5,h6⟩];exact Le.refl _
  .exact Le.fail _
 .exact Le.fail _
theorem Agb{t u et:TypeId}{e:Nat}(h1:CA P t=Θ et)(h2:DS P et=Θ e)(d x:AV):Le (cpyM e d x) (copyA P [t,u] d x):=by
 unfold cpyM copyA;simp only[h1];split
 .split
  .rename_i c
   have c':=AwA c;subst c';dsimp only;rw[Ac h2];refine Le.bind (Ss _ _) λr=>?_
   simp only[Ga];split
   .rename_i c1
    rw[Ac c1];refine Le.bind (Le.refl _) λk=>?_
    split
    .rename_i c2 c3
     rw[Ac ⟨c2,by simpa using c3⟩];exact Le.refl _
    .exact Le.fail _
   .exact Le.fail _
  .exact Le.fail _
 .exact Le.fail _
theorem Ac9{t et:TypeId}{e:Nat}{z:Value}(h1:CA P t=Θ et)(h2:DS P et=Θ e)(h3:C6 P et=Θ z)(h4:z.cells.size=e/\0<e/\(z.cells.toList.map AV.v).all AV.one=Δ)(x:AV):Le (clrM z.cells.toList e x) (clearA P [t] x):=by
 unfold clrM clearA;simp only[h1]
 cases x with
 |sl b o n e'=>
  simp only[h3];split
  .rename_i c
   have c':=AwA c;subst c';rw[Ac ⟨h2,h4⟩];refine Le.bind (Le.refl _) λk=>?_
   split
   .rename_i c2 c3
    rw[Ac ⟨c2,by simpa using c3⟩];exact Le.refl _
   .exact Le.fail _
  .exact Le.fail _
 |_=>exact Le.fail _
theorem Ox{o:Oper}{c:Call}{b:Builtin}{x:Operand}(ho:o.op=.call c)(hc:c.callee=.builtin b)(ha:c.args.toList=[x]){ρ:Operand->AV}{u z:Value}(hx:ρ x=.v u)
  (h:∀ cs,AJ P (builtin b c.argTypes o.type cs #[u])=Θ (.value z)):CU P o ρ=Θ (E5 z):=by
 have e1:Cl ρ x=u:=by unfold Cl;rw[hx];rfl
 have ha':c.args=#[x]:=by rw[←AyJ (xs:=c.args),ha]
 have cc:(Cu o.op&&o.op.operands.toList.all λx=>(ρ x).toVal.isSome)=Δ:=by
  rw[ho];simp[Cu,Op.operands,Call.operands,hc,ha',hx,AV.toVal]
 unfold CU;rw[Ac cc];have:AJ P (execOp (Cl ρ) o)=Θ (.value z):=by
  unfold execOp;rw[ho];simp only[resolve,hc,ha',AD,CK,AwQ,invoke];have e3:#[x].map (Cl ρ)=#[u]:=by simp[e1]
  rw[e3];exact h _
 rw[this];rfl
theorem Oy{o:Oper}{c:Call}{b:Builtin}{x y:Operand}(ho:o.op=.call c)(hc:c.callee=.builtin b)(ha:c.args.toList=[x,y]){ρ:Operand->AV}{u v z:Value}(hx:ρ x=.v u)(hy:ρ y=.v v)
  (h:∀ cs,AJ P (builtin b c.argTypes o.type cs #[u,v])=Θ (.value z)):CU P o ρ=Θ (E5 z):=by
 have e1:Cl ρ x=u:=by unfold Cl;rw[hx];rfl
 have e2:Cl ρ y=v:=by unfold Cl;rw[hy];rfl
 have ha':c.args=#[x,y]:=by rw[←AyJ (xs:=c.args),ha]
 have cc:(Cu o.op&&o.op.operands.toList.all λx=>(ρ x).toVal.isSome)=Δ:=by
  rw[ho];simp[Cu,Op.operands,Call.operands,hc,ha',hx,hy,AV.toVal]
 unfold CU;rw[Ac cc];have:AJ P (execOp (Cl ρ) o)=Θ (.value z):=by
  unfold execOp;rw[ho];simp only[resolve,hc,ha',AD,CK,AwQ,invoke];have e3:#[x,y].map (Cl ρ)=#[u,v]:=by simp[e1,e2]
  rw[e3];exact h _
 rw[this];rfl
def Jo(P:Program)(ents:Nat):Prop:=∀ g,ents.testBit g=Δ->GH P g=Δ
theorem Ac8{t:TypeId}{zz:Value}(hz:C6 P t=Θ zz)(T:Ab)(ps:List (Nat × Operand)) :
  (∀{fs:Array Field} {pl:List (Nat × Nat)},CT P t=Θ fs->Je P fs.toList=Θ pl->LG (pl[·]?) zz.cells.toList (K6 T ps)=JH P t (ps.map λp=>(p.1,Bl T p.2))) ∧
  (∀{et:TypeId} {e:Nat},CT P t=Ξ->NV P t=Θ et->DS P et=Θ e->LG (λi=>Θ (i*e,e)) zz.cells.toList (K6 T ps)=JH P t (ps.map λp=>(p.1,Bl T p.2))):=by
 refine⟨λh1 h2=>?_,λh1 h2 h3=>?_⟩
 .unfold LG JH
  rw[h1,K7];unfold Nt;rw[hz,h1];simp only[h2]
 .unfold LG JH
  rw[h1,K7];unfold Ns;rw[hz,h2];simp only[h3]
theorem Ww{t et:TypeId}{e:Nat}{zz:Value}(h1:CA P t=Θ et)(h2:DS P et=Θ e)(h3:C6 P et=Θ zz)(n:Nat)(T:Ab)(ps:List (Nat × Operand)) :
  buildSlM zz.cells.toList e n (K6 T ps)=buildSliceA P t n (ps.map λp=>(p.1,Bl T p.2)):=by
 unfold buildSlM buildSliceA;rw[h1];simp only[h2,h3,K7];rfl
theorem Ada{o:Oper}{c:Call}{x:Operand}{t:TypeId}{sl:Bool}(ho:o.op=.call c)(hc:c.callee=.builtin .len)(ha:c.args.toList=[x])(ht:c.argTypes.toList=[t])
  (hs:if sl=Δ then Df P t=Δ else Df P t=Φ/\Ck P t=Δ) (ρ:Operand->AV) :
  Le (AM.opt (An3 Ap sl (ρ x))) (if Df P t=Δ then(match Age (ρ x) with
     |some r=>AM.ret r
     |none=>AM.opt (CU P o ρ)) else AM.opt (CU P o ρ)):=by
 have ht':c.argTypes=#[t]:=by rw[←AyJ (xs:=c.argTypes),ht]
 refine Le.ret λr h=>?_
 unfold An3 at h
 cases sl with
 |true=>
  rw[Ac rfl]at hs;rw[Ac hs];simp only at h;split at h<;>simp only[ψ,reduceCtorEq]at h<;>subst h
  .rename_i e;rw[e];rfl
  .rename_i e;rw[e,Hk];rfl
  .rename_i e
   have hu:∃ et,P.underlying t=Θ (.slice et):=by
    unfold Df at hs;split at hs
    .exact⟨_,‹_›⟩
    .cases hs
   obtain⟨et,hu⟩:=hu;have hg:CU P o ρ=Θ (E5 (.int .i64 0)):=Ox ho hc ha e λcs=>by
    rw[ht'];simp only[builtin,Builtin.len_,AD];simp[Bh hu,goInt]
   rw[e,hg];rfl
 |false=>
  rw[Ad (by simp)]at hs;rw[Ad (by rw[hs.1];simp)];simp only at h;split at h<;>simp only[ψ,reduceCtorEq]at h
  subst h;rename_i s e;have hu:P.underlying t=Θ .string:=by
   have:=hs.2;unfold Ck at this;split at this
   .assumption
   .cases this
  have hg:CU P o ρ=Θ (E5 (.int .i64 s.size)):=Ox ho hc ha e λcs=>by
   rw[ht'];simp only[builtin,Builtin.len_,AD];simp[Bh hu,goInt]
  rw[hg];rfl
theorem Ac7{o:Oper}{c:Call}{x y:Operand}{b:Builtin}(ho:o.op=.call c)(hc:c.callee=.builtin b)(ha:c.args.toList=[x,y])(ρ:Operand->AV){f:Int->Int->Int}
  (hb:(b=.max/\f=Ap.max)\/(b=.min/\f=Ap.min)):Le (AM.opt (Afs f (ρ x) (ρ y))) (AM.opt (CU P o ρ)):=by
 refine Le.opt λr h=>?_
 unfold Afs at h;split at h
 .rename_i k a k' d hx hy
  split at h
  .rename_i hk
   subst hk;simp only[ψ]at h;subst h;rcases hb with⟨rfl,rfl⟩|⟨rfl,rfl⟩
   .exact Oy (z:=.int k (Ap.max a d)) ho hc ha hx hy λcs=>by
     simp[builtin,Builtin.max_,Builtin.max2,Ap,Hp,Ar.max]
   .exact Oy (z:=.int k (Ap.min a d)) ho hc ha hx hy λcs=>by
     simp[builtin,Builtin.min_,Builtin.min2,Ap,Hp,Ar.min]
  .cases h
 .cases h
end
section
variable {P:Program} {Γ:FuncId->Ab->AM AV} {ents:Nat}
theorem AcU{x:AV}{i:Nat}(h:x.idx=Θ i):∃ k,x=.v (.int k (.ofNat i)):=by
 unfold AV.idx at h;split at h
 .simp_all
 .cases h
theorem ET{k:IntKind}{i n:Nat}(h:i<=n)(c:BoundsCode):AJ P (Instr.sliceBound (.int k (.ofNat i)) n c)=Θ i:=by
 unfold Instr.sliceBound asIntOf;rw[AD];simp only[CK,AwQ];rw[Ac ⟨by simp,by simpa using h⟩];rfl
theorem S5{o:Oper}{t:TypeId}{x:Operand}{lo hi:Option Operand}(ho:o.op=.slice t x lo hi Ξ)(ht:P.underlying t=Θ .string){ρ:Operand->AV}{r:AV}(h:Lp Ap (ρ x) (lo.map ρ) (hi.map ρ)=Θ r):CU P o ρ=Θ r:=by
 unfold Lp at h;split at h
 .rename_i s es
  split at h
  .rename_i l hh e1 e2
   split at h
   .rename_i c1 c2
    simp only[ψ]at h;subst h;have c1:l<=hh:=by simpa using c1
    have c2:hh<=s.size:=by
     have:Awf hh s.size=Δ:=c2;simpa using this
    have hlo:(lo=Ξ/\l=0)\/∃ y k,lo=Θ y/\ρ y=.v (.int k (.ofNat l)):=by
     cases lo with
     |none=>simp only[AyN,Nl,ψ]at e1;exact .inl ⟨rfl,e1.symm⟩
     |some y=>
      simp only[AwT,Nl]at e1;obtain⟨k,hk⟩  :=AcU e1;exact .inr ⟨y,k,rfl,hk⟩
    have hhi:(hi=Ξ/\hh=s.size)\/∃ y k,hi=Θ y/\ρ y=.v (.int k (.ofNat hh)):=by
     cases hi with
     |none=>
      simp only[AyN,Nl,ψ]at e2;exact .inl ⟨rfl,e2.symm⟩
     |some y=>
      simp only[AwT,Nl]at e2;obtain⟨k,hk⟩  :=AcU e2;exact .inr ⟨y,k,rfl,hk⟩
    have hb:AJ P (Instr.sliceBounds Φ s.size s.size (lo.map (Cl ρ)) (hi.map (Cl ρ)) Ξ)=Θ (l,hh,s.size):=by
     rcases hlo with⟨rfl,rfl⟩|⟨y,k,rfl,hy⟩<;>rcases hhi with⟨rfl,rfl⟩|⟨z,k',rfl,hz⟩
     .rfl
     .simp only[AyN,AwT,Gk hz,Instr.sliceBounds,AD,CK,AwQ,ET c2]
     .simp only[AyN,AwT,Gk hy,Instr.sliceBounds,AD,CK,AwQ,ET c1]
     .simp only[AwT,Gk hy,Gk hz,Instr.sliceBounds,AD,CK,AwQ,ET c1,ET c2]
    refine LP (z:=.string (s.extract l hh)) (by rw[ho];rfl) ?_ ?_
    .rw[ho]
     rcases hlo with⟨rfl,_⟩|⟨y,k,rfl,hy⟩<;>rcases hhi with⟨rfl,_⟩|⟨z,k',rfl,hz⟩<;>simp_all [Op.operands,AV.toVal]
    .unfold execOp
     rw[ho]
     show AJ P (Instr.sliceAt t (Cl ρ x) (lo.map (Cl ρ)) (hi.map (Cl ρ)) Ξ >>= λy=>pure (Next.value y))=_
     rw[AD,Gk es];have:AJ P (Instr.sliceAt t (.string s) (lo.map (Cl ρ)) (hi.map (Cl ρ)) Ξ)=Θ (.string (s.extract l hh)):=by
      unfold Instr.sliceAt;rw[AD,Bh ht];simp only[AwQ];unfold Instr.slice;rw[AD,Bh ht];simp only[AwQ,Option.isSome_none,Axj,if_false];rw[AD,hb];rfl
     rw[this];rfl
   .cases h
  .cases h
 .cases h
theorem W9{o:Oper}{t:TypeId}{x i:Operand}(ho:o.op=.index t x i)(ht:P.underlying t=Θ .string){ρ:Operand->AV}{r:AV}(h:Va Ap (ρ x) (ρ i)=Θ r):CU P o ρ=Θ r:=by
 unfold Va at h;split at h
 .rename_i s j es ei
  split at h
  .rename_i c1
   simp only[ψ]at h;subst h;obtain⟨k,hk⟩  :=AcU ei;have c1:j<s.size:=by
    have:Aw0 j s.size=Δ:=c1;have:j+1<=s.size:=by simpa[Aw0]using this
    omega
   have e1:s[j]? = Θ (s[j]'c1):=by simp[c1]
   refine LP (z:=.int .u8 (s[j]'c1).toNat) (by rw[ho];rfl) (by rw[ho];simp[Op.operands,es,hk,AV.toVal]) ?_ |>.trans ?_
   .unfold execOp
    rw[ho]
    show AJ P (Instr.index t (Cl ρ x) (Cl ρ i) >>= λy=>pure (Next.value y))=_
    rw[AD,Gk es,Gk hk];have:AJ P (Instr.index t (.string s) (.int k (.ofNat j)))=Θ (.int .u8 (s[j]'c1).toNat):=by
     unfold Instr.index asIntOf;rw[AD];simp only[CK,AwQ];rw[AD,Bh ht];simp only[AwQ];have:(if 0<=(Ax9 j) then s[(Ax9 j).toNat]? else Ξ)=Θ (s[j]'c1):=by
      grind
     rw[this];rfl
    rw[this];rfl
   .have:Ap.sat s j=Ax9 (s[j]'c1).toNat:=by
     show (match s[j]? with
      |some c=>Ax9 c.toNat
      |none=>0)=_
     rw[e1]
    rw[this];rfl
  .cases h
 .cases h
theorem VW{o:Oper}{s d:TypeId}{x:Operand}(ho:o.op=.convert s d x){k k0:IntKind}(hs:P.underlying s=Θ (.int k0))(hd:P.underlying d=Θ (.int k)){ρ:Operand->AV}{r:AV}(h:Abv Ap k (ρ x)=Θ r):CU P o ρ=Θ r:=by
 unfold Abv at h;split at h
 .rename_i k1 n e
  simp only[ψ]at h;subst h;refine LP (z:=.int k (k.wrap n)) (by rw[ho];rfl) (by rw[ho];simp[Op.operands,e,AV.toVal]) ?_;unfold execOp;rw[ho]
  show AJ P (convert s d (Cl ρ x) >>= λy=>pure (Next.value y))=_
  rw[AD,Gk e];have:AJ P (convert s d (.int k1 n))=Θ (.int k (k.wrap n)):=by
   unfold convert;rw[AD,Bh hs];simp only[AwQ];rw[AD,Bh hd];rfl
  rw[this];rfl
 .cases h
theorem AjS(hE:Jo P ents)(o:Oper)(T:Ab):Le (mop Ap Γ (VU P ents o.op) T) (aop P Γ o (Bl T)):=by
 unfold aop
 cases ho:o.op<;>simp only[VU]
 case move x=>exact Le.refl _
 case assign x=>exact Le.refl _
 case pick c a b=>
  simp only[mop];split
  .grind [Le.refl]
  .exact Le.fail _
 case alloc t=>
  unfold allocA
  cases e:C6 P t with
  |none=>exact Le.fail _
  |some z=>exact Le.refl _
 case box t x=>exact Le.refl _
 case build t ps=>
  cases e:C6 P t with
  |none=>exact Le.fail _
  |some z=>
   obtain⟨k1,k2⟩:=Ac8 e T ps.toList
   cases e1:CT P t with
   |some fs=>
    simp only
    cases e2:Je P fs.toList with
    |none=>exact Le.fail _
    |some pl=>
     simp only[mop];rw[k1 e1 e2];exact Le.refl _
   |none=>
    simp only
    cases e2:NV P t with
    |none=>exact Le.fail _
    |some et=>
     simp only
     cases e3:DS P et with
     |none=>exact Le.fail _
     |some s=>
      simp only[mop];rw[k2 e1 e2 e3];exact Le.refl _
 case buildSlice t n ps=>
  cases e:CA P t with
  |none=>exact Le.fail _
  |some et=>
   simp only
   cases e2:DS P et with
   |none=>exact Le.fail _
   |some s=>
    cases e3:C6 P et with
    |none=>exact Le.fail _
    |some z=>
     simp only[mop];rw[Ww e e2 e3];exact Le.refl _
 case load t a=>
  cases e:Cy P t with
  |none=>exact Le.fail _
  |some b=>
   cases b with
   |true=>
    cases e2:DS P t with
    |none=>exact Le.fail _
    |some n=>exact Ny e (λ_=>e2) _
   |false=>exact Ny (n:=0) e (λh=>by cases h) _
 case store t a x=>
  cases e:DS P t with
  |none=>exact Le.fail _
  |some n=>exact Adb e _ _
 case nilCheck x=>
  simp only[mop];split<;>first
   |exact Le.fail _
   |(rename_i e;rw[e];exact Le.refl _)
 case binOp b t x y yt=>
  split
  .rename_i ks hk
   split
   .exact Le.ret λr h=>Qz ho hk (neg:=Φ) rfl h
   .exact Le.ret λr h=>Qz ho hk (neg:=Δ) rfl h
   .exact Le.fail _
  .split
   .exact Le.fail _
   .rename_i k hk
    exact Le.ret λr h=>Zu ho h
 case unOp u t x=>
  cases u<;>simp only<;>try exact Le.fail _
  case not=>
   exact Le.opt λr h=>by
    unfold ArS at h;split at h
    .rename_i c e
     simp only[ψ]at h;subst h;rw[Acw ho e];rfl
    .cases h
  case neg=>
   exact Le.opt λr h=>by
    unfold ArR at h;split at h
    .grind [ψ,Acv]
    .cases h
 case makeFunc f a c=>
  simp only[mop,Jd];exact Le.refl _
 case slice t x lo hi mx=>
  cases mx with
  |some m=>exact Le.fail _
  |none=>
   simp only
   cases e:CA P t with
   |none=>
    simp only;split
    .rename_i hst
     refine Le.ret λr h=>?_
     have ht:P.underlying t=Θ .string:=by
      grind [Ck]
     have hn:Ka P t (Bl T x) (lo.map (Bl T)) (hi.map (Bl T))=Ξ:=by
      unfold Ka;rw[e];split<;>rename_i q<;>first|cases q|rfl
     rw[hn];simp only;rw[S5 ho ht h];rfl
    .exact Le.fail _
   |some et=>
    simp only
    cases e2:DS P et with
    |none=>exact Le.fail _
    |some s=>
     refine Le.ret λr h=>?_
     rw[Aeo e e2 h]
 case fieldAddr t a f=>
  cases e:CT P t with
  |none=>exact Le.fail _
  |some fs=>
   simp only
   cases e2:fs[f]? with
   |none=>exact Le.fail _
   |some fd=>
    simp only;split
    .rename_i n e3
     refine Le.opt λr h=>?_
     unfold Hh;rw[e];simp only[e2,e3];exact h
    .exact Le.fail _
 case field t x f=>
  cases e:CT P t with
  |none=>exact Le.fail _
  |some fs=>
   simp only
   cases e2:fs[f]? with
   |none=>exact Le.fail _
   |some fd=>
    simp only;have key:∀{row:Bool} {n:Nat},Cy P fd.type=Θ row->(row=Δ->DS P fd.type=Θ n)->Le (AM.opt (Wc row fd.offset n (Bl T x))) (AM.opt (Om P t (Bl T x) f)):=λh1 h2=>by
     refine Le.opt λr h=>?_
     unfold Wc at h;unfold Om;rw[e];split at h
     .grind [YG]
     .cases h
    cases e3:Cy P fd.type with
    |none=>exact Le.fail _
    |some b=>
     cases b with
     |true=>
      cases e4:DS P fd.type with
      |none=>exact Le.fail _
      |some n=>exact key e3 λ_=>e4
     |false=>exact key e3 λh=>by cases h
 case indexAddr t x i=>
  cases e:CA P t with
  |some et=>
   simp only
   cases e2:DS P et with
   |none=>exact Le.fail _
   |some s=>
    refine Le.ret λr h=>?_
    rw[AcT e e2 h]
  |none=>
   have e0:D6 P t (Bl T x) (Bl T i)=Ξ:=by
    unfold D6;rw[e];split<;>first|rfl|simp_all
   cases e1:PX P t with
   |none=>exact Le.fail _
   |some ne=>
    obtain⟨n,et⟩:=ne;simp only
    cases e2:DS P et with
    |none=>exact Le.fail _
    |some s=>
     simp only[mop];rw[e0];refine Le.opt λr h=>?_
     unfold RL at h;unfold KB;rw[e1];split at h
     .rename_i j ej
      rw[ej];simp only[e2];split at h
      .simp_all
      .cases h
     .cases h
 case index t x i=>
  cases e1:PX P t with
  |none=>
   simp only;split
   .rename_i hst
    refine Le.ret λr h=>?_
    have ht:P.underlying t=Θ .string:=by
     grind [Ck]
    have hn:Ix P t (Bl T x) (Bl T i)=Ξ:=by
     unfold Ix;rw[e1];split
     .rename_i q _
      cases q
     .rfl
    rw[hn];simp only;rw[W9 ho ht h];rfl
   .exact Le.fail _
  |some ne=>
   obtain⟨n,et⟩:=ne
   show Le (mop Ap Γ (match DS P et,Cy P et with
    |some e,Θ Δ=>MO.index n e Δ e x i
    |some e,Θ Φ=>MO.index n e Φ 0 x i
    |_,_=>MO.bad) T) _
   have key:∀{row:Bool} {s m:Nat},Cy P et=Θ row->DS P et=Θ s->(row=Δ->m=s)->Le (AM.opt (OV n s row m (Bl T x) (Bl T i))) (match Ix P t (Bl T x) (Bl T i) with
     |some r=>AM.ret r
     |none=>AM.opt (CU P o (Bl T))):=λ{row s m} h1 h2 h3=>by
    refine Le.ret λr h=>?_
    have:Ix P t (Bl T x) (Bl T i)=Θ r:=by
     unfold OV at h;unfold Ix;rw[e1];split at h
     .rename_i cs j ej1 ej2
      simp only[ej1,ej2,h2];split at h
      .rename_i hlt
       have:j+1<=n:=by simpa[Aw0]using hlt
       rw[Ac (by omega),←YG (n:=m) h1 (λhr=>by rw[h3 hr];exact h2)];exact h
      .cases h
     .cases h
    rw[this]
   cases e2:DS P et with
   |none=>exact Le.fail _
   |some s=>
    cases e3:Cy P et with
    |none=>exact Le.fail _
    |some b=>
     cases b with
     |true=>exact key e3 e2 λ_=>rfl
     |false=>exact key e3 e2 λh=>by cases h
 case extract x i=>exact Le.refl _
 case makeSlice t l c=>
  cases e:MG P t with
  |none=>exact Le.fail _
  |some ezb=>
   obtain⟨s,z,b⟩:=ezb;exact Agc e _ _
 case call c=>
  cases hc:c.callee with
  |invoke=>exact Le.fail _
  |value f=>
   simp only
   cases f with
   |func g=>
    simp only;split
    .simp_all [mop,Bl,Le.refl,List.append_nil,List.nil_append,Ac,Jd]
    .exact Le.fail _
   |tmp t=>
    simp only[mop,Jd];split
    .rename_i g a cs e
     rw[e];simp only;split
     .rename_i hb
      rw[Ac (hE g hb)];exact Le.refl _
     .exact Le.fail _
    .exact Le.fail _
   |const v=>
    simp only[mop,Jd];split
    .rename_i g a cs e
     rw[e];simp only;split
     .rename_i hb
      rw[Ac (hE g hb)];exact Le.refl _
     .exact Le.fail _
    .exact Le.fail _
   |global v=>
    simp only[mop,Jd];split
    .rename_i g a cs e
     rw[e];simp only;split
     .rename_i hb
      rw[Ac (hE g hb)];exact Le.refl _
     .exact Le.fail _
    .exact Le.fail _
  |builtin b=>
   cases b<;>simp only<;>try exact Le.fail _
   .-- append
    split
    .rename_i s x t u ea et
     rw[ea];simp only[et];split
     .rename_i e b' h1 h2
      exact ZT h1 h2 _ _
     .rename_i e z b' h1 h2
      split
      .rename_i h3
       exact Aga h1 h3 _ _
      .exact Le.fail _
     .exact Le.fail _
    .exact Le.fail _
   .-- clear
    split
    .rename_i x t ea et
     rw[ea];simp only[et];split
     .rename_i ett h1
      split
      .rename_i e z h2 h3
       split
       .rename_i h4
        exact Ac9 h1 h2 h3 h4 _
       .exact Le.fail _
      .exact Le.fail _
     .exact Le.fail _
    .exact Le.fail _
   .-- copy
    split
    .rename_i s x t u ea et
     rw[ea];simp only[et];split
     .rename_i ett h1 h2
      cases e2:DS P ett with
      |none=>exact Le.fail _
      |some s=>exact Agb h1 e2 _ _
     .exact Le.fail _
    .exact Le.fail _
   .-- len
    split
    .rename_i x t ea et
     rw[ea,et];split
     .rename_i h1
      exact Ada ho hc ea et (by rw[Ac rfl];exact h1) _
     .rename_i h1
      split
      .rename_i h2
       exact Ada ho hc ea et (by rw[Ad (by simp)];exact⟨by simpa using h1,h2⟩) _
      .exact Le.fail _
    .exact Le.fail _
   .split
    .rename_i x y ea
     exact Ac7 ho hc ea _ (.inl ⟨rfl,rfl⟩)
    .exact Le.fail _
   .split
    .rename_i x y ea
     exact Ac7 ho hc ea _ (.inr ⟨rfl,rfl⟩)
    .exact Le.fail _
 case convert s d x=>
  split
  .rename_i k0 k hs hd
   have b1:DV P s=Φ:=by
    unfold DV CA;rw[hs]
   have b2:Ck P s=Φ:=by
    unfold Ck;rw[hs]
   rw[Ad (by rw[b1];simp),b2,Bool.false_and];refine Le.ret λr h=>?_
   have:=VW ho hs hd h;simp only;rw[this];rfl
  .cases b1:DV P s with
   |false=>exact Le.fail _
   |true=>
    cases b2:Ck P d with
    |false=>exact Le.fail _
    |true=>
     simp only[mop,strM]
     cases b3:P5 (Bl T x) with
     |false=>exact Le.fail _
     |true=>
      rw[Ac (by first|exact⟨trivial,trivial,rfl⟩|exact⟨trivial,trivial,b3⟩|simp_all)];exact Le.bind (Ss _ _) λ_=>Le.refl _
 all_goals exact Le.fail _
end
section
variable {A:Ar}
theorem Loc.loadM(row:Bool)(n:Nat)(a:AV):Loc (loadM row n a):=by
 unfold Go.Proofs.YtpncilciembjdaaGreatDoor.loadM
 cases row
 .grind [Loc.bind,Loc.opt,Loc.rdAt]
 .grind [Loc.bind,Loc.rdAt,Loc.ret]
theorem Loc.storeM(n:Nat)(a x:AV):Loc (storeM n a x):=by
 unfold Go.Proofs.YtpncilciembjdaaGreatDoor.storeM;split
 .exact Loc.ite (Loc.bind (Loc.getB _) λk=>Loc.ite (Loc.bind (Loc.setB _ _) λ_=>Loc.ret _) Loc.fail) Loc.fail
 .exact Loc.fail
theorem Loc.buildSlM(z:AO)(e n:Nat)(ps:List (Nat × AV)):Loc (buildSlM z e n ps):=by
 grind [Go.Proofs.YtpncilciembjdaaGreatDoor.buildSlM,Loc.bind,Loc.fail,Loc.newB,Loc.ret]
theorem Loc.newsM(e:Nat)(x:AV):Loc (newsM e x):=by
 unfold Go.Proofs.YtpncilciembjdaaGreatDoor.newsM;split
 .grind [Loc.bind,Loc.fail,Loc.getB,Loc.ret]
 .grind [Loc.fail,Loc.ret]
 .exact Loc.ret _
 .exact Loc.fail
theorem Loc.appR(e b:Nat)(s:AV)(r:Nat × Ab):Loc (appR e b s r):=by
 unfold Go.Proofs.YtpncilciembjdaaGreatDoor.appR
 repeat' split
 all_goals first
  |exact Loc.fail
  |exact Loc.ret _
  |exact Loc.bind (Loc.newB _) λ_=>Loc.ret _
  |refine Loc.bind (Loc.getB _) λk=>?_
 repeat' split
 all_goals first
  |exact Loc.fail
  |exact Loc.bind (Loc.delB _) λ_=>Loc.bind (Loc.newB _) λ_=>Loc.ret _
  |exact Loc.bind (Loc.setB _ _) λ_=>Loc.bind (Loc.newB _) λ_=>Loc.ret _
theorem Loc.appM(e b:Nat)(s x:AV):Loc (appM e b s x):=Loc.bind (Loc.newsM _ _) λr=>Loc.appR _ _ _ _
theorem Loc.appzM(z:AO)(e b:Nat)(s x:AV):Loc (appzM z e b s x):=by
 refine Loc.bind ?_ λr=>Loc.appR _ _ _ _
 unfold SH
 repeat' split
 all_goals first
  |exact Loc.fail
  |exact Loc.ret _
theorem Loc.mkslM(z:AO)(e b:Nat)(l c:AV):Loc (mkslM z e b l c):=by
 grind [Go.Proofs.YtpncilciembjdaaGreatDoor.mkslM,Loc.bind,Loc.fail,Loc.newB,Loc.ret]
theorem Loc.cpyM(e:Nat)(d x:AV):Loc (cpyM e d x):=by
 unfold Go.Proofs.YtpncilciembjdaaGreatDoor.cpyM;split
 .grind [Loc.bind,Loc.fail,Loc.getB,Loc.newsM,Loc.ret,Loc.setB]
 .exact Loc.fail
theorem Loc.clrM(z:AO)(e:Nat)(x:AV):Loc (clrM z e x):=by
 unfold Go.Proofs.YtpncilciembjdaaGreatDoor.clrM;split
 .grind [Loc.bind,Loc.fail,Loc.getB,Loc.ret,Loc.setB]
 .exact Loc.fail
theorem Loc.strM(x:AV):Loc (strM x):=by
 grind [Go.Proofs.YtpncilciembjdaaGreatDoor.strM,Loc.bind,Loc.fail,Loc.newsM,Loc.opt]
theorem Loc.mop{Γ:FuncId->Ab->AM AV}(hΓ:∀ f args,Loc (Γ f args))(o:MO)(T:Ab):Loc (mop A Γ o T):=by
 unfold Go.Proofs.YtpncilciembjdaaGreatDoor.mop
 repeat' split
 all_goals first
  |exact Loc.fail
  |exact Loc.ret _
  |exact Loc.opt _
  |exact Loc.boxA _
  |exact Loc.bind (Loc.newB _) λ_=>Loc.ret _
  |exact Loc.buildSlM _ _ _ _
  |exact Loc.loadM _ _ _
  |exact Loc.storeM _ _ _
  |exact Loc.mkslM _ _ _ _ _
  |exact Loc.appM _ _ _ _
  |exact Loc.appzM _ _ _ _ _
  |exact Loc.cpyM _ _ _
  |exact Loc.clrM _ _ _
  |exact Loc.strM _
  |exact hΓ _ _
theorem Loc.coreM{Γ:FuncId->Ab->AM AV}(hΓ:∀ f args,Loc (Γ f args))(o:MOp)(T:Ab):Loc (coreM A Γ o T):=by
 grind [Go.Proofs.YtpncilciembjdaaGreatDoor.coreM,Loc.fail,Loc.mop,Loc.ret]
def chainM(A:Ar)(Γ:FuncId->Ab->AM AV)(l:List MOp)(T:Ab):AM (Ab × List Foot):=λH=>match runM A Γ l T H with
 |some (T',H',fs)=>Θ ((T',fs),H',⟨fs.flatMap (·.rd),fs.flatMap (·.wr)⟩)
 |none=>Ξ
theorem Tz(Γ:FuncId->Ab->AM AV)(o:MOp)(r:List MOp)(T:Ab) :
  chainM A Γ (o::r) T=(logged (coreM A Γ o T)).bind λvf=>(chainM A Γ r (CI T o.dst vf.1)).bind λq=>AM.ret (q.1,vf.2::q.2):=by
 funext H
 simp only[chainM,runM,AM.bind,logged,AM.ret];rcases Go.Proofs.YtpncilciembjdaaGreatDoor.coreM A Γ o T H with _|⟨v,H1,f⟩
 .rfl
 simp only;rcases runM A Γ r (CI T o.dst v) H1 with _|⟨T2,H2,fs⟩
 .rfl
 .simp
theorem Loc.chainM{Γ:FuncId->Ab->AM AV}(hΓ:∀ f args,Loc (Γ f args)):∀(l:List MOp) (T:Ab),Loc (chainM A Γ l T)
 |[],T=>by
  have:Go.Proofs.YtpncilciembjdaaGreatDoor.chainM A Γ [] T=AM.ret (T,[]):=by funext H;simp[Go.Proofs.YtpncilciembjdaaGreatDoor.chainM,runM,AM.ret]
  rw[this];exact Loc.ret _
 |o::r,T=>by
  rw[Tz];exact Loc.bind (Loc.logged (Loc.coreM hΓ o T)) λ_=>Loc.bind (Loc.chainM hΓ r _) λ_=>Loc.ret _
theorem Akg(Γ:FuncId->Ab->AM AV)(ops:List MOp)(bf:Option (Af))(T:Ab) :
  regM A Γ ops bf T=(chainM A Γ ops T).bind λr=>match bf with
   |none=>AM.ret (.normal,r.1)
   |some bf=>(match Fa bf r.2 with
    |true=>AM.ret (.normal,r.1)
    |false=>AM.fail):=by
 funext H
 unfold Go.Proofs.YtpncilciembjdaaGreatDoor.regM Go.Proofs.YtpncilciembjdaaGreatDoor.chainM AM.bind
 cases e0:runM A Γ ops T H with
 |none=>simp[e0]
 |some r=>
  obtain⟨T',H',fs⟩:=r
  cases bf with
  |none=>simp[AM.ret,e0]
  |some bf=>cases e:Fa bf fs<;>simp[AM.ret,AM.fail,e,e0]
theorem Loc.regM{Γ:FuncId->Ab->AM AV}(hΓ:∀ f args,Loc (Γ f args))(ops:List MOp)(bf:Option (Af))(T:Ab):Loc (regM A Γ ops bf T):=by
 grind [Loc.bind,Loc.chainM,Loc.fail,Loc.ret,Akg]
theorem Loc.adoptB1(b i e:Nat):Loc (adoptB1 b i e):=by
 grind [Go.Proofs.YtpncilciembjdaaGreatDoor.adoptB1,Loc.bind,Loc.fail,Loc.getB,Loc.newB,Loc.ret,Loc.setB]
theorem Loc.nilB(b i:Nat):Loc (nilB b i):=by
 grind [Go.Proofs.YtpncilciembjdaaGreatDoor.nilB,Loc.bind,Loc.getB,Loc.ret,Loc.setB]
theorem Loc.adoptB(b i e:Nat):Loc (adoptB b i e):=by
 grind [Go.Proofs.YtpncilciembjdaaGreatDoor.adoptB,Loc.adoptB1,Loc.nilB]
theorem Loc.adoptM:∀(l:List (Nat × Nat)) (T:Ab),Loc (adoptM l T)
 |[],T=>Loc.ret _
 |(t,e)::r,T=>by
  unfold Go.Proofs.YtpncilciembjdaaGreatDoor.adoptM;split
  .exact Loc.bind (Loc.newB _) λb=>Loc.adoptM r _
  .split
   .exact Loc.bind (Loc.adoptB _ _ _) λ_=>Loc.adoptM r T
   .exact Loc.adoptM r T
theorem Loc.frz0(x:AV):Loc (frz0 x):=by
 unfold Go.Proofs.YtpncilciembjdaaGreatDoor.frz0;split<;>first
  |exact Loc.ret _
  |exact Loc.fail
mutual
theorem Loc.frz:∀(n:Nat) (x:AV),Loc (frz n x)
 |0,x=>by
  unfold Go.Proofs.YtpncilciembjdaaGreatDoor.frz;exact Loc.frz0 x
 |n+1,x=>by
  unfold Go.Proofs.YtpncilciembjdaaGreatDoor.frz;split
  .exact Loc.ret _
  .refine Loc.bind (Loc.getB _) λk=>?_
   split
   .exact Loc.fail
   .refine Loc.bind ?_ λ_=>?_
    .split
     .exact Loc.setB _ _
     .exact Loc.ret _
    .split
     .exact Loc.ret _
     .refine Loc.bind (Loc.frzL n _) λcs=>?_
      split
      .exact Loc.ret _
      .exact Loc.fail
  .exact Loc.bind (Loc.frzL n _) λ_=>Loc.ret _
  .exact Loc.bind (Loc.frzL n _) λ_=>Loc.ret _
  .exact Loc.ret _
theorem Loc.frzL:∀(n:Nat) (l:Ab),Loc (frzL n l)
 |n,[]=>by
  unfold Go.Proofs.YtpncilciembjdaaGreatDoor.frzL;exact Loc.ret _
 |0,_::_=>by
  unfold Go.Proofs.YtpncilciembjdaaGreatDoor.frzL;exact Loc.fail
 |n+1,x::r=>by
  unfold Go.Proofs.YtpncilciembjdaaGreatDoor.frzL;exact Loc.bind (Loc.frz n x) λ_=>Loc.bind (Loc.frzL n r) λ_=>Loc.ret _
end
theorem Loc.frzB(b:Nat):Loc (frzB b):=by
 grind [Go.Proofs.YtpncilciembjdaaGreatDoor.frzB,Loc.bind,Loc.fail,Loc.frzL,Loc.getB,Loc.ret,Loc.setB]
theorem Loc.frzT:∀(l:Af) (T:Ab),Loc (frzT l T)
 |[],T=>Loc.ret _
 |t::r,T=>by
  unfold Go.Proofs.YtpncilciembjdaaGreatDoor.frzT;split
  .exact Loc.bind (Loc.frzB _) λ_=>Loc.frzT r T
  .exact Loc.bind (Loc.frz _ _) λ_=>Loc.frzT r _
  .exact Loc.frzT r T
theorem Loc.evC{Γ:FuncId->Ab->AM AV}{Λ:Nat->Ab->AM (AX × Ab)}(hΓ:∀ f args,Loc (Γ f args))(hΛ:∀ i T,Loc (Λ i T)):∀(c:MC) (T:Ab),Loc (evC A Γ Λ c T)
 |.skip,T=>Loc.ret _
 |.reg ops bf,T=>Loc.regM hΓ _ _ _
 |.seq a b,T=>by
  unfold Go.Proofs.YtpncilciembjdaaGreatDoor.evC;refine Loc.bind (Loc.evC hΓ hΛ a T) λr=>?_
  split
  .exact Loc.evC hΓ hΛ b _
  .exact Loc.ret _
 |.cond c a b,T=>by
  unfold Go.Proofs.YtpncilciembjdaaGreatDoor.evC;split
  .split
   .exact Loc.evC hΓ hΛ a T
   .exact Loc.evC hΓ hΛ b T
  .exact Loc.fail
 |.block id c,T=>by
  unfold Go.Proofs.YtpncilciembjdaaGreatDoor.evC;refine Loc.bind (Loc.evC hΓ hΛ c T) λr=>?_
  split
  .simp_all [Loc.ite,Loc.ret]
  .exact Loc.ret _
 |.loop i h,T=>by
  grind [Go.Proofs.YtpncilciembjdaaGreatDoor.evC,Loc.adoptM,Loc.bind,Loc.fail,Loc.frzT,Loc.ret]
 |.exit id,T=>Loc.ret _
 |.ret,T=>Loc.ret _
 |.bad,_=>Loc.fail
theorem Loc.delC(b i:Nat):Loc (delC b i):=by
 grind [Go.Proofs.YtpncilciembjdaaGreatDoor.delC,Loc.bind,Loc.delB,Loc.getB,Loc.ret]
theorem Loc.delT:∀(l:Af) (T:Ab),Loc (delT l T)
 |[],T=>Loc.ret _
 |t::r,T=>by
  unfold Go.Proofs.YtpncilciembjdaaGreatDoor.delT;split
  .exact Loc.bind (Loc.delB _) λ_=>Loc.delT r T
  .exact Loc.bind (Loc.delB _) λ_=>Loc.delT r T
  .split
   .exact Loc.bind (Loc.delC _ _) λ_=>Loc.delT r T
   .exact Loc.delT r T
theorem Loc.touchS(x:AV):Loc (touchS x):=by
 unfold Go.Proofs.YtpncilciembjdaaGreatDoor.touchS;split
 .grind [Loc.bind,Loc.delB,Loc.getB,Loc.newB,Loc.ret]
 .exact Loc.ret _
theorem Loc.touchL:∀ l:Ab,Loc (touchL l)
 |[]=>Loc.ret _
 |x::r=>by
  unfold Go.Proofs.YtpncilciembjdaaGreatDoor.touchL;exact Loc.bind (Loc.touchS x) λ_=>Loc.bind (Loc.touchL r) λ_=>Loc.ret _
theorem Loc.touchB(b:Nat):Loc (touchB b):=by
 grind [Go.Proofs.YtpncilciembjdaaGreatDoor.touchB,Loc.bind,Loc.fail,Loc.getB,Loc.ret,Loc.setB,Loc.touchL]
theorem Loc.touchI:∀ l:Af,Loc (touchI l)
 |[]=>Loc.ret _
 |b::r=>by
  unfold Go.Proofs.YtpncilciembjdaaGreatDoor.touchI;exact Loc.bind (Loc.touchB b) λ_=>Loc.touchI r
theorem Loc.touchV(x:AV):Loc (touchV x):=by
 unfold Go.Proofs.YtpncilciembjdaaGreatDoor.touchV;split
 .exact Loc.touchS _
 .grind [Loc.bind,Loc.ret,Loc.touchI,Loc.touchL]
 .grind [Loc.bind,Loc.ret,Loc.touchI]
theorem Loc.touchA:∀(m:List Bool) (l:Ab),Loc (touchA m l)
 |m,[]=>by cases m with
  |nil=>exact Loc.ret _
  |cons b m=>cases b<;>exact Loc.ret _
 |true::m,x::r=>by
  unfold Go.Proofs.YtpncilciembjdaaGreatDoor.touchA;exact Loc.bind (Loc.touchI _) λ_=>Loc.bind (Loc.touchA m r) λ_=>Loc.ret _
 |false::m,x::r=>by
  unfold Go.Proofs.YtpncilciembjdaaGreatDoor.touchA;exact Loc.bind (Loc.touchV x) λ_=>Loc.bind (Loc.touchA m r) λ_=>Loc.ret _
 |[],x::r=>by
  unfold Go.Proofs.YtpncilciembjdaaGreatDoor.touchA;exact Loc.bind (Loc.touchV x) λ_=>Loc.bind (Loc.touchA [] r) λ_=>Loc.ret _
end
def Gh(μ:Mu)(F:Bf)(w:World)(H H':AH)(Q:Mu->Bf->Prop):Prop:=
 ∃ μ' F',Later μ μ' F F' w w/\HRep μ' F' w H'.get/\(∀ b,(b<H.next\/H'.next<=b)->μ' b=μ b)/\Q μ' F'
section
variable {μ:Mu} {F:Bf} {w:World} {H H1 H2:AH}
theorem Gh.same{Q:Mu->Bf->Prop}(hH:HRep μ F w H.get)(h:Q μ F):Gh μ F w H H Q:=⟨μ,F,Later.refl _ _ _,hH,λ_ _=>rfl,h⟩
theorem Gh.trans{Q:Mu->Bf->Prop}(hn1:H.next<=H1.next)(hn2:H1.next<=H2.next){Q1:Mu->Bf->Prop}(h:Gh μ F w H H1 Q1)(k:∀ μ' F',Later μ μ' F F' w w->HRep μ' F' w H1.get->(∀ b,(b<H.next\/H1.next<=b)->μ' b=μ b)->Q1 μ' F'->Gh μ' F' w H1 H2 Q):Gh μ F w H H2 Q:=by
 obtain⟨μ1,F1,h1,h2,h3,h4⟩:=h;obtain⟨μ2,F2,k1,k2,k3,k4⟩:=k μ1 F1 h1 h2 h3 h4;refine⟨μ2,F2,h1.trans k1,k2,λb hb=>?_,k4⟩;rw[k3 b (by omega),h3 b (by omega)]
theorem Gh.mono{Q Q':Mu->Bf->Prop}(h:Gh μ F w H H1 Q)(k:∀ μ' F',Later μ μ' F F' w w->Q μ' F'->Q' μ' F'):Gh μ F w H H1 Q':=by
 obtain⟨μ1,F1,h1,h2,h3,h4⟩:=h;exact⟨μ1,F1,h1,h2,h3,k _ _ h1 h4⟩
theorem Qp:∀(n e:Nat) (l:Ab) (i:Nat),(Bo n e l)[i]? = if i<n then Θ ((l.drop (i*e)).take e) else Ξ
 |0,e,l,i=>by simp[Bo]
 |n+1,e,l,0=>by simp[Bo]
 |n+1,e,l,i+1=>by
  simp only[Bo,List.getElem?_cons_succ,Qp n e (l.drop e) i,List.drop_drop,Nat.add_lt_add_iff_right];rw[show e+i*e=(i+1)*e by rw[Nat.add_mul];omega]
theorem Hb:∀(n e:Nat) (l:Ab),(Bo n e l).length=n
 |0,e,l=>rfl
 |n+1,e,l=>by simp[Bo,Hb n]
theorem Pa{l:Ab}(h:Bj l=Δ)(n:Nat):Bj (l.take n)=Δ:=by
 grind [List.mem_of_mem_take,BZ]
theorem O9{l:Ab}(h:Bj l=Δ)(n:Nat):Bj (l.drop n)=Δ:=by
 grind [List.mem_of_mem_drop,BZ]
theorem MV:∀(n e:Nat) {l:Ab},Bj l=Δ->Jv (Bo n e l)=Δ
 |0,e,l,h=>rfl
 |n+1,e,l,h=>by
  have:=MV n e (O9 h e);unfold Jv at this ⊢;simp[Bo,Pa h,this]
theorem Aae{g q m e c:Nat}{cs:Ab}(hn:Bj cs=Δ)(hl:cs.length=m*e)(hm:m<=c)(hc:c<=maxLen){u:Value}(hu:u=.slice (Θ ⟨g,q,Ξ⟩) m c)(hr:m≠0->RepAt μ F w g cs q):Rep μ F w (.ls (Bo m e cs)) u:=by
 simp only[Rep];refine⟨MV m e hn,Θ ⟨g,q,Ξ⟩,c,by rw[Hb];exact hu,by rw[Hb];exact hm,hc,λhne=>⟨g,q,e,rfl,?_⟩⟩;have hm0:m≠0:=λh0=>hne (by rw[h0];rfl)
 have hr:=hr hm0;refine RepRows.mk λi x hx=>?_
 rw[Qp]at hx;split at hx
 .rename_i hi
  simp only[ψ]at hx;subst hx;have h1:i*e+e<=m*e:=by rw[←Nat.succ_mul];exact Nat.mul_le_mul_right e hi
  refine⟨by rw[Awo,AxD,hl];omega,?_⟩;have h2:=hr.drop (i*e);refine RepAt.mk λj y hy=>?_
  rw[AwP]at hy;split at hy
  .exact h2.get hy
  .cases hy
 .cases hx
theorem GW{b:Nat}{k:ABlk}{u:Unit}{H H':AH}{ft:Foot}(h:AM.setB b k H=Θ (u,H',ft)):H'=H.put b k/\∃ k0,H.get b=Θ k0:=by
 unfold AM.setB at h
 cases e:H.get b with
 |none=>rw[e]at h;cases h
 |some k0=>
  rw[e]at h;simp only[ψ,Prod.mk.injEq]at h;exact⟨h.2.1.symm,k0,rfl⟩
theorem TW(n:Nat)(x:AV){y:AV}{H':AH}{ft:Foot}(hw:H.wf)(h:frz n x H=Θ (y,H',ft)):H.next<=H'.next/\H'.wf:=⟨(Loc.frz n x H y H' ft hw h).next,(Loc.frz n x H y H' ft hw h).wf⟩
theorem QG(n:Nat)(x:Ab){y:Ab}{H':AH}{ft:Foot}(hw:H.wf)(h:frzL n x H=Θ (y,H',ft)):H.next<=H'.next/\H'.wf:=⟨(Loc.frzL n x H y H' ft hw h).next,(Loc.frzL n x H y H' ft hw h).wf⟩
theorem Apg{b:Nat}{k k0:ABlk}(hw:H.wf)(hb:H.get b=Θ k0):(H.put b k).wf:=λc h1 h2=>by
 rw[AH.get_put]
 by_cases hcb:c=b
 .subst hcb
  rw[hw c h1 h2]at hb
  cases hb
 .rw[Ad hcb];exact hw c h1 h2
theorem Pm{z u:Value}(hx:Rep μ F w (.v z) u):Rep μ F w (Adt z) u:=by
 unfold Adt;split
 .rename_i e
  simp only[Rep]at hx ⊢;rw[hx.1,I9 e];exact⟨rfl,Ξ,0,rfl,π _,Awz _,λh=>absurd rfl h⟩
 .exact hx
end
mutual
theorem I3:∀(n:Nat) (x:AV) {μ:Mu} {F:Bf} {w:World} {H:AH} {u:Value} {y:AV} {H':AH} {ft:Foot},Rep μ F w x u->HRep μ F w H.get->H.wf->frz n x H=Θ (y,H',ft)->Gh μ F w H H' λμ' F'=>Rep μ' F' w y u
 |0,x,μ,F,w,H,u,y,H',ft,hx,hH,hw,h=>by
  simp only[frz]at h
  cases x<;>simp only[frz0]at h<;>first
   |exact(Aw h).elim
   | (obtain⟨rfl,rfl⟩:=Ax h
      first
       |exact Gh.same hH hx
       |exact Gh.same hH (Pm hx))
 |n+1,.v z,μ,F,w,H,u,y,H',ft,hx,hH,hw,h=>by
  simp only[frz]at h;obtain⟨rfl,rfl⟩:=Ax h;exact Gh.same hH (Pm hx)
 |n+1,.sl b o m e,μ,F,w,H,u,y,H',ft,hx,hH,hw,h=>by
   simp only[frz]at h;obtain⟨k,H1,f1,f2,h1,h2⟩:=bind_some h;obtain⟨hk,e1⟩:=Cc h1;rw[e1]at h2
   cases hle:Awf (o+m*e) k.cells.length with
   |false=>rw[hle]at h2;exact(Aw h2).elim
   |true=>
    rw[hle]at h2;have hle':o+m*e<=k.cells.length:=by simpa using hle
    obtain⟨_,H2,f3,f4,h3,h4⟩:=bind_some h2;simp only[Rep]at hx;obtain⟨p,hp,hu⟩:=hx;obtain⟨p',hp',hB⟩:=hH.blk b k hk;rw[hp]at hp'
    cases hp'
    have step:∃ F1,Later μ μ F F1 w w/\HRep μ F1 w H2.get/\(∀ i,i<k.cells.length->F1 p.g (p.o+i))/\H2.next=H.next/\H2.wf:=by
     cases hst:k.st with
     |true=>
      rw[hst]at h3;obtain⟨e2,k0,hk0⟩:=GW h3;obtain⟨g1,g2⟩:=QL hH hk hp;refine⟨_,g2,?_,λi hi=>.inr ⟨rfl,by omega,by omega⟩,by rw[e2];rfl,by rw[e2];exact Apg hw hk0⟩;have:H2.get=λc=>if c=b then Θ { k with st:=Φ } else H.get c:=by
       funext c
       rw[e2,AH.get_put]
      rw[this];exact g1
     |false=>
      rw[hst]at h3;obtain⟨_,e2⟩:=Ax h3;rw[e2];exact⟨F,Later.refl _ _ _,hH,λi hi=>hB.kept hst i hi,rfl,hw⟩
    obtain⟨F1,g1,g2,g3,g4,g5⟩:=step;obtain⟨us,r1,r2⟩:=DJ (g:=p.g) (cs:=(k.cells.drop o).take (m*e)) (o:=p.o+o) (μ:=μ) (F:=F1) (w:=w) (by
     intro i x hi;rw[AwP]at hi;split at hi
     .rw[List.getElem?_drop]at hi
      obtain⟨u',q1,q2⟩:=hB.cell (o+i) x hi;exact⟨u',by rw[AwI];exact q1,q2.later g1⟩
     .cases hi)
    have hlen:us.length=m*e:=by
     rw[r1.length,Awo,AxD];omega
    have fin:∀{cs:Ab} {H3:AH},H2.next<=H3.next->Bj cs=Δ->Gh μ F1 w H2 H3 (λμ' F'=>RepList μ' F' w cs us)->Gh μ F w H H3 λμ' F'=>Rep μ' F' w (.ls (Bo m e cs)) u:=by
     intro cs H3 n3 hno hG;refine Gh.trans (H1:=H2) (by omega) n3 (Q1:=λμ' F'=>μ'=μ/\F'=F1) ⟨μ,F1,g1,g2,λ_ _=>rfl,rfl,rfl⟩ ?_;rintro μ' F' _ _ _ ⟨rfl,rfl⟩;refine hG.mono λμ2 F2 l2 hr=>?_
     have hcl:cs.length=m*e:=by rw[←hr.length,hlen]
     rcases hu with⟨rfl,rfl⟩|⟨q,c,rfl,hq,hmc,hcm,hroom⟩
     .simp only[Bo,Rep]
      exact⟨rfl,Ξ,0,rfl,π _,Awz _,λh=>absurd rfl h⟩
     .refine Aae hno hcl hmc hcm rfl λhm0=>?_
      have hq':=hq (by omega);rw[hq'];refine RepAt.mk λi x hi=>?_
      obtain⟨v,v1,v2⟩:=hr.get hi;have hi':i<m*e:=by rw[←hcl];exact(List.getElem?_eq_some_iff.1 hi).1
      refine⟨(l2.prot _ _ (by rw[AwI];exact g3 (o+i) (by omega))).1,v,r2 i v v1,v2⟩
    cases hno0:(k.ex||Bj ((k.cells.drop o).take (m*e))) with
    |true=>
     rw[hno0]at h4;obtain⟨rfl,rfl⟩:=Ax h4;have hno:Bj ((k.cells.drop o).take (m*e))=Δ:=by
      cases hx:k.ex with
      |true=>exact Pa (O9 (hB.pure hx) _) _
      |false=>rw[hx,Bool.false_or]at hno0;exact hno0
     exact fin (π _) hno (Gh.same g2 r1)
    |false=>
     rw[hno0]at h4;obtain⟨cs,H3,f5,f6,h5,h6⟩:=bind_some h4;have hG:=FD n _ r1 g2 g5 h5;obtain⟨n3,w3⟩:=QG n _ g5 h5
     cases hno:Bj cs with
     |true=>
      rw[hno]at h6;obtain⟨rfl,rfl⟩:=Ax h6;exact fin n3 hno hG
     |false=>rw[hno]at h6;exact(Aw h6).elim
 |n+1,.agg cs,μ,F,w,H,u,y,H',ft,hx,hH,hw,h=>by
   simp only[frz]at h;obtain⟨cs',H1,f1,f2,h1,h2⟩:=bind_some h;obtain⟨rfl,rfl⟩:=Ax h2;simp only[Rep]at hx;obtain⟨us,rfl,hr⟩:=hx;refine(FD n _ hr hH hw h1).mono λμ' F' _ hq=>?_
   simp only[Rep];exact⟨us,rfl,hq⟩
 |n+1,.tup cs,μ,F,w,H,u,y,H',ft,hx,hH,hw,h=>by
   simp only[frz]at h;obtain⟨cs',H1,f1,f2,h1,h2⟩:=bind_some h;obtain⟨rfl,rfl⟩:=Ax h2;simp only[Rep]at hx;obtain⟨us,rfl,hr⟩:=hx;refine(FD n _ hr hH hw h1).mono λμ' F' _ hq=>?_
   simp only[Rep];exact⟨us,rfl,hq⟩
 |n+1,.ptr b o,μ,F,w,H,u,y,H',ft,hx,hH,hw,h=>by
   simp only[frz]at h;obtain⟨rfl,rfl⟩:=Ax h;exact Gh.same hH hx
 |n+1,.ls xs,μ,F,w,H,u,y,H',ft,hx,hH,hw,h=>by
   simp only[frz]at h;obtain⟨rfl,rfl⟩:=Ax h;exact Gh.same hH hx
 |n+1,.lp xs,μ,F,w,H,u,y,H',ft,hx,hH,hw,h=>by
   simp only[frz]at h;obtain⟨rfl,rfl⟩:=Ax h;exact Gh.same hH hx
 |n+1,.fn f a c,μ,F,w,H,u,y,H',ft,hx,hH,hw,h=>by
   simp only[frz]at h;obtain⟨rfl,rfl⟩:=Ax h;exact Gh.same hH hx
 |n+1,.any,μ,F,w,H,u,y,H',ft,hx,hH,hw,h=>by
   simp only[frz]at h;obtain⟨rfl,rfl⟩:=Ax h;exact Gh.same hH hx
theorem FD:∀(n:Nat) (l:Ab) {μ:Mu} {F:Bf} {w:World} {H:AH} {us:AO} {y:Ab} {H':AH} {ft:Foot},RepList μ F w l us->HRep μ F w H.get->H.wf->frzL n l H=Θ (y,H',ft)->Gh μ F w H H' λμ' F'=>RepList μ' F' w y us
 |n,[],μ,F,w,H,us,y,H',ft,hx,hH,hw,h=>by
  unfold frzL at h;obtain⟨rfl,rfl⟩:=Ax h;exact Gh.same hH hx
 |0,_::_,μ,F,w,H,us,y,H',ft,hx,hH,hw,h=>by
  unfold frzL at h;exact(Aw h).elim
 |n+1,x::r,μ,F,w,H,us,y,H',ft,hx,hH,hw,h=>by
  unfold frzL at h;obtain⟨x',H1,f1,f2,h1,h2⟩:=bind_some h;obtain⟨r',H2,f3,f4,h3,h4⟩:=bind_some h2;obtain⟨rfl,rfl⟩:=Ax h4;simp only[RepList]at hx;obtain⟨u,t,rfl,hu,ht⟩:=hx;obtain⟨n1,w1⟩:=TW n x hw h1;obtain⟨n2,w2⟩:=QG n r w1 h3;refine Gh.trans n1 n2 (I3 n x hu hH hw h1) λμ1 F1 l1 hH1 _ hx1=>?_
  refine(FD n r (ht.later' l1) hH1 w1 h3).mono λμ2 F2 l2 hr2=>?_
  simp only[RepList];exact⟨u,t,rfl,hx1.later l2,hr2⟩
end
