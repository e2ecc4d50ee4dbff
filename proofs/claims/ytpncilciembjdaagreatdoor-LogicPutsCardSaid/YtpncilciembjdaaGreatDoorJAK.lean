/- The same run with what c -/
import Derived.Test.YtpncilciembjdaaGreatDoorJAJ
set_option linter.all false
open List renaming append_nil->AtY,length_cons->Ate,nil_append->Atw,take_of_length_le->Auv
open Nat renaming beq->AtK,ble->Atl,blt->Aup,eq_of_beq_eq_true->Atz,le_refl->η,lt_of_lt_of_le->At4,min->At8
namespace Go.Proofs.YtpncilciembjdaaGreatDoor
open AV renaming tup->Ath
open Option.some renaming injEq->θ
section
open Go.RowKit
abbrev KR:=Option (AV × List BO)
inductive Sh where
 |int (k:IntKind)
 |bool
 |str
 |ls
 |lp (l:List Sh)
 |agg (l:List Sh)
 |tup (l:List Sh)
 |sl (b e:Nat)
 |slo (b e:Nat)
 |ptr (b o:Nat)
 |cst (v:Value)
 |fnc (f:Nat)
 |any
inductive Os where
 |keep
 |del
 |row (st:Bool)
 |box (l:List Sh)
def br(b:Bool)(x y:KR):KR:=match b with
 |true=>x
 |false=>y
def unI(n:Int)(k:Nat->KR):KR:=match n with
 |.ofNat i=>k i
 |.negSucc _=>none
def Bh(xs:List Aa)(i:Nat)(k:Aa->KR):KR:=match S1 xs i with
 |some cs=>k cs
 |none=>none
def EX(cells:Aa)(o n:Nat)(k:Aa->KR):KR:=match Atl (o+n) cells.length with
 |true=>k ((cells.drop o).take n)
 |false=>none
def AT(D:Orc)(key:Key)(args:Aa)(bs:List ABlk)(k:AV->List BO->KR):KR:=match D.ask key args bs with
 |some r=>k r.1 r.2
 |none=>none
def II(kd:IntKind)(x:AV)(k:Int->KR):KR:=match x with
 |.v (.int k' n)=>if k'=kd then k n else none
 |_=>none
def Lr(x:AV)(k:Bool->KR):KR:=match x with
 |.v (.bool b)=>k b
 |_=>none
def P3(x:AV)(k:ByteArray->KR):KR:=match x with
 |.v (.string s)=>k s
 |_=>none
def Lv(x:AV)(k:List Aa->KR):KR:=match x with
 |.ls xs=>k xs
 |_=>none
def ApT(x:AV)(k0:KR)(k:Aa->KR):KR:=match x with
 |.v (.pointer none)=>k0
 |.lp cs=>k cs
 |_=>none
def Me(x:AV)(k:Aa->KR):KR:=match x with
 |.agg cs=>k cs
 |_=>none
def Ky(x:AV)(k:Aa->KR):KR:=match x with
 |.tup cs=>k cs
 |_=>none
def VH(b e:Nat)(x:AV)(k:Nat->KR):KR:=match x with
 |.sl b' 0 n e'=>(match AtK b b',AtK e e' with
  |true,true=>k n
  |_,_=>none)
 |_=>none
def AkF(b e:Nat)(x:AV)(k:Nat->Nat->KR):KR:=match x with
 |.sl b' o n e'=>(match AtK b b',AtK e e' with
  |true,true=>k o n
  |_,_=>none)
 |_=>none
def Kv(b o:Nat)(x:AV)(k:KR):KR:=match x with
 |.ptr b' o'=>(match AtK b b',AtK o o' with
  |true,true=>k
  |_,_=>none)
 |_=>none
def YY(f:Nat)(x:AV)(k:KR):KR:=match x with
 |.fn (.func g) [] []=>(match AtK f g with
  |true=>k
  |false=>none)
 |_=>none
def AjT:Value->Value->Bool
 |.slice none 0 0,.slice none 0 0=>true
 |.pointer none,.pointer none=>true
 |_,_=>false
def P1(v:Value)(x:AV)(k:KR):KR:=match x with
 |.v u=>(match AjT v u with
  |true=>k
  |false=>none)
 |_=>none
def E0(cs:Aa)(k:KR):KR:=match cs with
 |[]=>k
 |_::_=>none
def Ew(cs:Aa)(k:AV->Aa->KR):KR:=match cs with
 |[]=>none
 |c::r=>k c r
def M5(kd:IntKind)(cs:Aa)(k:Int->Aa->KR):KR:=match cs with
 |.v (.int k' n)::r=>if k'=kd then k n r else none
 |_=>none
def O7(cs:Aa)(k:Bool->Aa->KR):KR:=match cs with
 |.v (.bool b)::r=>k b r
 |_=>none
def Xe(cs:Aa)(k:ByteArray->Aa->KR):KR:=match cs with
 |.v (.string s)::r=>k s r
 |_=>none
def cLs(cs:Aa)(k:List Aa->Aa->KR):KR:=match cs with
 |.ls xs::r=>k xs r
 |_=>none
def Ez(o:List BO)(k:BO->List BO->KR):KR:=match o with
 |[]=>none
 |c::r=>k c r
def CW(o:List BO)(k:KR):KR:=match o with
 |[]=>k
 |_::_=>none
def Lu(o:BO)(k:KR):KR:=match o with
 |.keep=>k
 |_=>none
def P2(o:BO)(k:KR):KR:=match o with
 |.del=>k
 |_=>none
def F7(st ex:Bool)(o:BO)(k:Aa->KR):KR:=match o with
 |.set ⟨cs,st',ex'⟩=>if st'=st/\ex'=ex then k cs else none
 |_=>none
def Bg(k:Nat)(x:AV):Bool:=match k,x with
 |0,.v (.bool true)=>true
 |i+1,.v (.int .i64 (.ofNat j))=>AtK i j
 |_,_=>false
mutual
def Dc:Sh->AV->(AV->KR)->KR
 |.int kd,x,K=>II kd x λn=>K (.v (.int kd n))
 |.bool,x,K=>Lr x λb=>K (.v (.bool b))
 |.str,x,K=>P3 x λs=>K (.v (.string s))
 |.ls,x,K=>Lv x λxs=>K (.ls xs)
 |.lp l,x,K=>ApT x (K (.v (.pointer none))) λcs=>Cw l cs λcs=>K (.lp cs)
 |.agg l,x,K=>Me x λcs=>Cw l cs λcs=>K (.agg cs)
 |.tup l,x,K=>Ky x λcs=>Cw l cs λcs=>K (.tup cs)
 |.sl b e,x,K=>VH b e x λn=>K (.sl b 0 n e)
 |.slo b e,x,K=>AkF b e x λo n=>K (.sl b o n e)
 |.ptr b o,x,K=>Kv b o x (K (.ptr b o))
 |.cst v,x,K=>P1 v x (K (.v v))
 |.fnc f,x,K=>YY f x (K (.fn (.func f) [] []))
 |.any,x,K=>K x
def Cw:List Sh->Aa->(Aa->KR)->KR
 |[],cs,K=>E0 cs (K [])
 |.int kd::l,cs,K=>M5 kd cs λn r=>Cw l r λr=>K (.v (.int kd n)::r)
 |.bool::l,cs,K=>O7 cs λn r=>Cw l r λr=>K (.v (.bool n)::r)
 |.str::l,cs,K=>Xe cs λn r=>Cw l r λr=>K (.v (.string n)::r)
 |.ls::l,cs,K=>cLs cs λn r=>Cw l r λr=>K (.ls n::r)
 |s::l,cs,K=>Ew cs λc r=>Dc s c λc=>Cw l r λr=>K (c::r)
end
def Fb:List Os->List BO->(List BO->KR)->KR
 |[],o,K=>CW o (K [])
 |s::l,o,K=>Ez o λc r=>(match s with
  |.keep=>Lu c (Fb l r λr=>K (.keep::r))
  |.del=>P2 c (Fb l r λr=>K (.del::r))
  |.row st=>F7 st true c λcs=>Fb l r λr=>K (.set ⟨cs,st,true⟩::r)
  |.box m=>F7 true false c λcs=>Cw m cs λcs=>Fb l r λr=>K (.set ⟨cs,true,false⟩::r))
inductive Sc where
 |n
 |b (x y:Sc)
 |t (x:Sc)
 |f (x:Sc)
def brS(s:Sc)(c:Bool)(x y:Sc->KR):KR:=match s with
 |.n=>br c (x .n) (y .n)
 |.b p q=>br c (x p) (y q)
 |.t p=>br c (x p) none
 |.f p=>br c none (y p)
def KM(α:Type):=AH->Sc->(α->AH->Foot->Sc->KR)->KR
namespace KM
variable {α β:Type}
def ret(a:α):KM α:=λH s k=>k a H ⟨[],[]⟩ s
def fail:KM α:=λ_ _ _=>none
def bind(m:KM α)(f:α->KM β):KM β:=λH s k=>m H s λa H1 f1 s=>f a H1 s λb H2 f2 s=>k b H2 ⟨f1.rd++f2.rd,f1.wr++f2.wr⟩ s
def gen(m:AM α):KM α:=λH s k=>match m H with
 |some (a,H',f)=>k a H' f s
 |none=>none
def opt:Option α->KM α
 |some a=>ret a
 |none=>fail
def brk(b:Bool)(x y:KM α):KM α:=λH s k=>brS s b (λs=>x H s k) (λs=>y H s k)
def test(b:Bool)(x:KM α):KM α:=λH s k=>br b (x H s k) none
def unI(n:Int)(f:Nat->KM α):KM α:=λH s k=>Go.Proofs.YtpncilciembjdaaGreatDoor.unI n λi=>f i H s k
def nth(xs:List Aa)(i:Nat)(f:Aa->KM α):KM α:=λH s k=>Bh xs i λcs=>f cs H s k
def rd(cells:Aa)(o n:Nat):KM Aa:=λH s k=>EX cells o n λcs=>k cs H ⟨[],[]⟩ s
def exp(t:Sh)(x:AV):KM AV:=λH s k=>Dc t x λy=>k y H ⟨[],[]⟩ s
def expL(l:List Sh)(x:Aa):KM Aa:=λH s k=>Cw l x λy=>k y H ⟨[],[]⟩ s
def expO(l:List Os)(x:List BO):KM (List BO):=λH s k=>Fb l x λy=>k y H ⟨[],[]⟩ s
def ask(D:Orc)(key:Key)(args:Aa)(bs:List ABlk):KM (AV × List BO):=λH s k=>AT D key args bs λr o=>k (r,o) H ⟨[],[]⟩ s
def idx(x:AV)(f:Nat->KM α):KM α:=match x with
 |.v (.int _ n)=>unI n f
 |_=>fail
def idxO(n:Nat)(x:Option AV)(f:Nat->KM α):KM α:=match x with
 |some x=>idx x f
 |none=>f n
end KM
def Bo(n bytes:Nat):Bool:=match Atl (n*bytes) 140737488355328 with
 |true=>Atl n maxLen
 |false=>false
def I4(l h n:Nat):Bool:=match Atl l h with
 |true=>Atl h n
 |false=>false
structure Hnt where
 fn:List (Nat × (Sh × List Os))
 lp:List (Nat × List (Nat × (List Sh × List Os)))
 tm:List (Nat × List Sh)
def BG{α:Type}(n:Nat):List (Nat × α)->Option α
 |[]=>none
 |(m,a)::r=>match AtK n m with
  |true=>some a
  |false=>BG n r
section
variable (A:Ar) (D:Orc) (own:List (Nat × Nat)) (Hn:Hnt)
def tmK(d:Option Nat)(cs:Aa):KM Aa:=match d with
 |some d=>(match BG d Hn.tm with
  |some l=>KM.expL l cs
  |none=>KM.ret cs)
 |none=>KM.ret cs
def WJ(d:Option Nat)(a:AV)(n:Nat):KM Aa:=match a with
 |.ptr b o=>(KM.gen (AM.getB b)).bind λk=>(KM.rd k.cells o n).bind λcs=>match k.ex with
  |true=>tmK Hn d cs
  |false=>KM.ret cs
 |a=>KM.gen (rdAt a n)
def Abf(d:Option Nat)(row:Bool)(n:Nat)(a:AV):KM AV:=match row with
 |true=>(WJ Hn d a n).bind λcs=>KM.ret (.agg cs)
 |false=>(WJ Hn d a 1).bind λcs=>KM.opt (U2 cs)
def VA(n:Nat)(a x:AV):KM AV:=match a with
 |.ptr b o=>
  if x.cells.length=n/\x.cells.all AV.one=true then
   (KM.gen (AM.getB b)).bind λk=>if k.st=true/\(!k.ex||AU x.cells)=true then KM.test (Atl (o+n) k.cells.length) ((KM.gen (AM.setB b { k with cells:=AG k.cells o x.cells })).bind λ_=>KM.ret AV.undef) else KM.fail
  else KM.fail
 |_=>KM.fail
def UM(d:Option Nat)(e:Nat)(x ix:AV):KM AV:=KM.idx ix λi=>match x with
 |.sl b o n e'=>KM.test (Aup i n) (if e'=e then KM.ret (.ptr b (o+i*e)) else KM.fail)
 |.ls xs=>KM.nth xs i λcs=>(tmK Hn d cs).bind λcs=>(match AtK cs.length e with
  |true=>KM.ret (.lp cs)
  |false=>KM.fail)
 |_=>KM.fail
def TW(n e:Nat)(x ix:AV):KM AV:=KM.idx ix λi=>KM.test (Aup i n) (KM.opt (NY x (i*e)))
def UO(d:Option Nat)(n e:Nat)(row:Bool)(sz:Nat)(x ix:AV):KM AV:=KM.idx ix λi=>match x with
 |.agg cs=>KM.test (Aup i n) ((KM.rd cs (i*e) (match row with
  |true=>sz
  |false=>1)).bind λxs=>(match row with
  |true=>KM.ret (.agg xs)
  |false=>KM.opt (U2 xs)))
 |_=>KM.fail
def Vu(e:Nat)(x:AV)(lo hi:Option AV):KM AV:=match x with
 |.sl b o n e'=>KM.idxO 0 lo λl=>KM.idxO n hi λh=>KM.test (I4 l h n) (match AtK e' e with
  |true=>KM.ret (.sl b (o+l*e) (h-l) e)
  |false=>KM.fail)
 |.ls xs=>KM.idxO 0 lo λl=>KM.idxO (Bb xs) hi λh=>KM.test (I4 l h (Bb xs)) (KM.test (Fs e xs) (KM.ret (.ls (Ha (HD xs h) l))))
 |_=>KM.fail
def AkY(b:BinOp)(x y:AV):KM AV:=match x,y with
 |.v (.int k a),.v (.int k' c)=>(match b with
  |.shl=>KM.brk (A.lt c 0) KM.fail (KM.ret (.v (.int k (A.shl k a c))))
  |.shr=>KM.brk (A.lt c 0) KM.fail (KM.ret (.v (.int k (A.shr k a c))))
  |.quo=>if k=k' then KM.brk (A.eq c 0) KM.fail (KM.ret (.v (.int k (A.quo k a c)))) else KM.fail
  |.rem=>if k=k' then KM.brk (A.eq c 0) KM.fail (KM.ret (.v (.int k (A.rem k a c)))) else KM.fail
  |.neq=>if k=k' then KM.brk (A.eq a c) (KM.ret (.v (.bool false))) (KM.ret (.v (.bool true))) else KM.fail
  |b=>KM.opt (Jp A b (.v (.int k a)) (.v (.int k' c))))
 |.v (.string a),.v (.string c)=>(match b with
  |.add=>KM.test (Atl (A.slen a+A.slen c) 9223372036854775807) (KM.ret (.v (.string (A.cat a c))))
  |.neq=>KM.brk (A.seq a c) (KM.ret (.v (.bool false))) (KM.ret (.v (.bool true)))
  |b=>KM.opt (Jp A b (.v (.string a)) (.v (.string c))))
 |x,y=>KM.opt (Jp A b x y)
def Aco(x i:AV):KM AV:=match x with
 |.v (.string s)=>KM.idx i λi=>KM.test (Aup i (A.slen s)) (KM.ret (.v (.int .u8 (A.sat s i))))
 |_=>KM.fail
def Q5(x:AV)(lo hi:Option AV):KM AV:=match x with
 |.v (.string s)=>KM.idxO 0 lo λl=>KM.idxO (A.slen s) hi λh=>KM.test (I4 l h (A.slen s)) (KM.ret (.v (.string (A.ssub s l h))))
 |_=>KM.fail
def WB(e:Nat)(x:AV):KM (Nat × Aa):=match x with
 |.sl b o n e'=>if e'=e then(KM.gen (AM.getB b)).bind λk=>KM.test (Atl (o+n*e) k.cells.length) (match (k.ex||AU ((k.cells.drop o).take (n*e))) with
   |true=>KM.ret (n,(k.cells.drop o).take (n*e))
   |false=>KM.fail)
   else KM.fail
 |.ls xs=>KM.test (Fs e xs) (KM.ret (Bb xs,Ip xs))
 |.v (.slice none 0 0)=>KM.ret (0,[])
 |_=>KM.fail
def Ajk(e bytes:Nat)(s:AV)(m:Nat)(xs:Aa):KM AV:=match s with
 |.v (.slice none 0 0)=>KM.test (Bo m bytes) ((KM.gen (AM.newB ⟨xs,true,true⟩)).bind λb=>KM.ret (.sl b 0 m e))
 |.sl b o n e'=>(match AtK e' e with
  |true=>KM.test (Bo (n+m) bytes) ((KM.gen (AM.getB b)).bind λk=>match k.ex,k.st with
   |true,true=>KM.test (Atl (o+n*e) k.cells.length) ((KM.gen (AM.delB b)).bind λ_=>(KM.gen (AM.newB ⟨(k.cells.take (o+n*e)).drop o++xs,true,true⟩)).bind λb'=>KM.ret (.sl b' 0 (n+m) e))
   |true,false=>KM.test (AtK (o+n*e) k.cells.length) ((KM.gen (AM.setB b { k with ex:=false })).bind λ_=>(KM.gen (AM.newB ⟨(k.cells.take (o+n*e)).drop o++xs,false,true⟩)).bind λb'=>KM.ret (.sl b' 0 (n+m) e))
   |_,_=>KM.fail)
  |false=>KM.fail)
 |_=>KM.fail
def VM(e bytes:Nat)(s:AV)(r:Nat × Aa):KM AV:=KM.brk (AtK r.1 0) (if OS s=true then KM.ret s else KM.fail) (KM.test (I9 r.2) (Ajk e bytes s r.1 r.2))
def AnO(e bytes:Nat)(s x:AV):KM AV:=(WB e x).bind λr=>VM e bytes s r
def Zo(z:AA)(e bytes:Nat)(s x:AV):KM AV:=KM.idx x λm=>KM.test (Atl m 9223372036854775807) (VM e bytes s (m,B5 (z.map .v) (m*e)))
def Abt(z:AA)(e bytes:Nat)(l c:AV):KM AV:=KM.idx l λn=>KM.idx c λm=>KM.test (Atl n m) (KM.test (Bo m bytes) ((KM.gen (AM.newB ⟨B5 (z.map .v) (n*e),true,true⟩)).bind λb=>KM.ret (.sl b 0 n e)))
def Ak6(e:Nat)(d x:AV):KM AV:=match d with
 |.sl b o n e'=>(match AtK e' e with
  |true=>(WB e x).bind λr=>KM.test (I9 (r.2.take (At8 r.1 n*e))) ((KM.gen (AM.getB b)).bind λk=>match k.st with
    |true=>KM.test (Atl (o+n*e) k.cells.length) ((KM.gen (AM.setB b { k with cells:=AG k.cells o (r.2.take (At8 r.1 n*e)) })).bind λ_=>KM.ret (.v (.int .i64 (Int.ofNat (At8 r.1 n)))))
    |false=>KM.fail)
  |false=>KM.fail)
 |_=>KM.fail
def Ak4(z:AA)(e:Nat)(x:AV):KM AV:=match x with
 |.sl b o n e'=>(match AtK e' e with
  |true=>(KM.gen (AM.getB b)).bind λk=>match k.st with
   |true=>KM.test (Atl (o+n*e) k.cells.length) ((KM.gen (AM.setB b { k with cells:=AG k.cells o (B5 (z.map .v) (n*e)) })).bind λ_=>KM.ret (.tup []))
   |false=>KM.fail
  |false=>KM.fail)
 |_=>KM.fail
mutual
def R8:Nat->AV->KM AV
 |0,x=>KM.gen (frz0 x)
 |n+1,x=>match x with
  |.v z=>KM.ret (Abz z)
  |.sl b o m e=>(KM.gen (AM.getB b)).bind λk=>KM.test (Atl (o+m*e) k.cells.length) ((match k.st with
    |true=>KM.gen (AM.setB b { k with st:=false })
    |false=>KM.ret ()).bind λ_=>match (k.ex||AU ((k.cells.drop o).take (m*e))) with
     |true=>KM.ret (.ls (Bk m e ((k.cells.drop o).take (m*e))))
     |false=>(JA n ((k.cells.drop o).take (m*e))).bind λcs=>match AU cs with
      |true=>KM.ret (.ls (Bk m e cs))
      |false=>KM.fail)
  |.agg cs=>(JA n cs).bind λcs=>KM.ret (.agg cs)
  |.tup cs=>(JA n cs).bind λcs=>KM.ret (.tup cs)
  |x=>KM.ret x
def JA:Nat->Aa->KM Aa
 |_,[]=>KM.ret []
 |0,_::_=>KM.fail
 |n+1,x::r=>(R8 n x).bind λx=>(JA n r).bind λr=>KM.ret (x::r)
end
def Aay(b:Nat):KM Unit:=(KM.gen (AM.getB b)).bind λk=>match k.ex,k.st with
 |false,true=>(JA 1000 k.cells).bind λcs=>(KM.gen (AM.getB b)).bind λk2=>(match k2.ex,AtK cs.length k2.cells.length with
  |false,true=>KM.gen (AM.setB b { k2 with cells:=cs })
  |_,_=>KM.fail)
 |_,_=>KM.ret ()
def JB:Ae->Aa->KM Aa
 |[],T=>KM.ret T
 |t::r,T=>match T[t]? with
  |some (.ptr b _)=>(Aay b).bind λ_=>JB r T
  |some x=>(R8 1000 x).bind λy=>JB r (T.set t y)
  |none=>JB r T
def Po(f:Nat):Nat->Aa->KM Aa
 |_,[]=>KM.ret []
 |i,x::r=>match AbJ own f i with
  |true=>(Po f (i+1) r).bind λr=>KM.ret (x::r)
  |false=>(R8 1000 x).bind λx=>(Po f (i+1) r).bind λr=>KM.ret (x::r)
def Ql(key:Key)(e:AV × List BO->KM (AV × List BO))(args:Aa):KM AV:=
 (KM.gen (trav 4096 (Ek args) [])).bind λL=>(KM.gen (readAll L)).bind λbs=>
  ((KM.ask D key (GX (λb=>idx b L) args) (bs.map (ABlk.ren λb=>idx b L))).bind e).bind λr=>
    match OM r.2.length r.1.ids,RJ r.2.length r.2 with
    |true,true=>(KM.gen nextB).bind λn=>(KM.gen (writeAll (GL L n) L r.2)).bind λout=>(KM.gen (newAll (GL L n) out)).bind λ_=>KM.ret (r.1.ren (GL L n))
    |_,_=>KM.fail
def ansF(f:Nat)(r:AV × List BO):KM (AV × List BO):=match BG f Hn.fn with
 |some (s,l)=>(KM.exp s r.1).bind λx=>(KM.expO l r.2).bind λo=>KM.ret (x,o)
 |none=>KM.ret r
def Qm(f:FuncId)(args:Aa):KM AV:=(Po own f 0 args).bind λl=>Ql D (.fn f) (ansF Hn f) l
def Zt:Nat->AV
 |0=>.v (.bool true)
 |i+1=>.v (.int .i64 (Int.ofNat i))
def ansX:List (Nat × (List Sh × List Os))->AV->Aa->List BO->KM (AV × List BO)
 |[],_,_,_=>KM.fail
 |(k,s,l)::r,x,ys,o=>KM.brk (Bg k x) ((KM.expL s ys).bind λys=>(KM.expO l o).bind λo=>KM.ret (.tup (Zt k::ys),o)) (ansX r x ys o)
def ansL(i:Nat)(r:AV × List BO):KM (AV × List BO):=match BG i Hn.lp with
 |some l=>λH s k=>Ky r.1 λcs=>Ew cs λx ys=>ansX l x ys r.2 H s k
 |none=>KM.ret r
def UT(f i:Nat)(xs:Aa):KM (AX × Aa):=(Ql D (.lp f i) (ansL Hn i) xs).bind λr=>match r with
 |.tup (x::ys)=>(match T5 x with
  |some ax=>KM.ret (ax,ys)
  |none=>KM.fail)
 |_=>KM.fail
def opK(d:Option Nat)(o:MO)(T:Aa):KM AV:=match o with
 |.pick c a b=>(match AW T c with
  |.v (.bool t)=>KM.brk t (KM.ret (AW T a)) (KM.ret (AW T b))
  |_=>KM.fail)
 |.ld row n a=>Abf Hn d row n (AW T a)
 |.st n a x=>VA n (AW T a) (AW T x)
 |.bin ek b x y=>(match ek with
  |0=>AkY A b (AW T x) (AW T y)
  |ek=>KM.opt (AdG A ek b (AW T x) (AW T y)))
 |.slice e x lo hi=>Vu e (AW T x) (lo.map (AW T)) (hi.map (AW T))
 |.iaddr e x i=>UM Hn d e (AW T x) (AW T i)
 |.aaddr n e x i=>TW n e (AW T x) (AW T i)
 |.index n e row sz x i=>UO d n e row sz (AW T x) (AW T i)
 |.mksl z e bytes l c=>Abt z e bytes (AW T l) (AW T c)
 |.app e bytes s x=>AnO e bytes (AW T s) (AW T x)
 |.appz z e bytes s x=>Zo z e bytes (AW T s) (AW T x)
 |.cpy e d x=>Ak6 e (AW T d) (AW T x)
 |.clr z e x=>Ak4 z e (AW T x)
 |.sidx x i=>Aco A (AW T x) (AW T i)
 |.sslice x lo hi=>Q5 A (AW T x) (lo.map (AW T)) (hi.map (AW T))
 |.callF f args=>Qm D own Hn f (OU T args)
 |.callV ents x args=>(match AW T x with
  |.fn (.func g) a cs=>(match ents.testBit g with
   |true=>Qm D own Hn g (a++OU T args++cs)
   |false=>KM.fail)
  |_=>KM.fail)
 |o=>KM.gen (mop A (λ_ _=>AM.fail) o T)
def ZK(o:MOp)(T:Aa):KM AV:=match o.g with
 |none=>opK A D own Hn o.dst o.op T
 |some (d,want)=>(match T[d]? with
  |some (.v (.bool b))=>KM.brk (match want with
   |true=>b
   |false=>A.not b) (opK A D own Hn o.dst o.op T) (KM.ret AV.undef)
  |some (.v (.tuple _))=>KM.ret AV.undef
  |_=>KM.fail)
def Alp(v:Value)(k:Value->KR):KR:=match v with
 |.int kd n=>k (.int kd n)
 |.bool b=>k (.bool b)
 |.string s=>k (.string s)
 |.tuple t=>k (.tuple t)
 |v=>k v
theorem AdX(v:Value)(k:Value->KR):Alp v k=k v:=by
 unfold Alp;split<;>rfl
def gL(f:AV->(AV->KR)->KR)(l:Aa)(k:Aa->KR):KR:=match l with
 |[]=>k []
 |x::r=>f x λx=>gL f r λr=>k (x::r)
theorem Ajj{f:AV->(AV->KR)->KR}(hf:∀ x k,f x k=k x):∀(l:Aa) (k:Aa->KR),gL f l k=k l
 |[],_=>rfl
 |x::r,k=>by simp only[gL,hf,Ajj hf r]
def gAV(d:Nat)(x:AV)(k:AV->KR):KR:=match d with
 |0=>k x
 |d+1=>match x with
  |.v x=>Alp x λx=>k (.v x)
  |.ptr b o=>k (.ptr b o)
  |.sl b o n e=>k (.sl b o n e)
  |.ls xs=>k (.ls xs)
  |.lp cs=>gL (gAV d) cs λcs=>k (.lp cs)
  |.agg cs=>gL (gAV d) cs λcs=>k (.agg cs)
  |.tup cs=>gL (gAV d) cs λcs=>k (.tup cs)
  |.fn f a c=>gL (gAV d) a λa=>gL (gAV d) c λc=>k (.fn f a c)
  |.any=>k .any
theorem AaA:∀(d:Nat) (x:AV) (k:AV->KR),gAV d x k=k x
 |0,_,_=>rfl
 |d+1,x,k=>by cases x<;>simp only[gAV,AdX,Ajj (AaA d)]
def gB(e:Bool)(x:AV)(s:Sc)(k:AV->Sc->KR):KR:=match e,x with
 |true,.v (.bool b)=>brS s b (λs=>k (.v (.bool true)) s) (λs=>k (.v (.bool false)) s)
 |_,x=>k x s
def Alj:MO->Bool
 |.mv _=>false
 |.ld _ _ _=>false
 |.field _ _ _ _=>false
 |.ext _ _=>false
 |_=>true
def gSp{β:Type}(l:List β)(k:List β->KR):KR:=match l with
 |[]=>k []
 |x::r=>gSp r λr=>k (x::r)
theorem UH{β:Type}:∀(l:List β) (k:List β->KR),gSp l k=k l
 |[],_=>rfl
 |x::r,k=>by simp only[gSp,UH r]
def gBl(l:List (Nat × ABlk))(k:List (Nat × ABlk)->KR):KR:=match l with
 |[]=>k []
 |(b,⟨cs,st,ex⟩)::r=>gBl r λr=>k ((b,⟨cs,st,ex⟩)::r)
theorem AaB:∀(l:List (Nat × ABlk)) (k:List (Nat × ABlk)->KR),gBl l k=k l
 |[],_=>rfl
 |(b,⟨cs,st,ex⟩)::r,k=>by simp only[gBl,AaB r]
def gH(H:AH)(k:AH->KR):KR:=match H with
 |⟨l,n,t⟩=>gBl l λl=>k ⟨l,n,t⟩
theorem Aos(H:AH)(k:AH->KR):gH H k=k H:=by
 simp_all [gH,AaB]
def gFt(f:Foot)(k:Foot->KR):KR:=match f with
 |⟨rd,wr⟩=>gSp rd λrd=>gSp wr λwr=>k ⟨rd,wr⟩
theorem Alk(f:Foot)(k:Foot->KR):gFt f k=k f:=by
 simp_all [gFt,UH]
def Aih:List MOp->Aa->AH->Sc->(Aa->AH->List Foot->Sc->KR)->KR
 |[],T,H,s,k=>k T H [] s
 |o::r,T,H,s,k=>ZK A D own Hn o T H s λv H f s=>gAV 3 v λv=>gB (Alj o.op) v s λv s=>gSp (Ck T o.dst v) λT=>gFt f λf=>gH H λH=>Aih r T H s λT H fs s=>k T H (f::fs) s
def AmT(ops:List MOp)(bf:Option (Ae))(T:Aa):KM (AX × Aa):=λH s k=>Aih A D own Hn ops T H s λT H fs s=>match bf with
 |none=>k (.normal,T) H ⟨fs.flatMap (·.rd),fs.flatMap (·.wr)⟩ s
 |some bf=>(match Et bf fs with
  |true=>k (.normal,T) H ⟨fs.flatMap (·.rd),fs.flatMap (·.wr)⟩ s
  |false=>none)
def Ze(f:Nat):MC->Aa->KM (AX × Aa)
 |.skip,T=>KM.ret (.normal,T)
 |.reg ops bf,T=>AmT A D own Hn ops bf T
 |.seq a b,T=>(Ze f a T).bind λr=>match r.1 with
  |.normal=>Ze f b r.2
  |ax=>KM.ret (ax,r.2)
 |.cond c a b,T=>(match AW T c with
  |.v (.bool t)=>KM.brk t (Ze f a T) (Ze f b T)
  |_=>KM.fail)
 |.block id c,T=>(Ze f c T).bind λr=>match r.1 with
  |.exit i=>if i=id then KM.ret (.normal,r.2) else KM.ret (.exit i,r.2)
  |ax=>KM.ret (ax,r.2)
 |.loop i h,T=>(KM.gen (adoptM h.ad T)).bind λT=>(JB h.fz T).bind λT=>match AtK T.length h.n with
  |true=>(UT D Hn f i (Cu h.live T)).bind λr=>KM.ret (r.1,B1 (h.out r.1) h.n r.2)
  |false=>KM.fail
 |.exit id,T=>KM.ret (.exit id,T)
 |.ret,T=>KM.ret (.ret,T)
 |.bad,_=>KM.fail
def AbX(T:Aa):List MRes->KM Aa
 |[]=>KM.ret []
 |.tmp t::r=>(AbX T r).bind λl=>KM.ret ((T[t]?).getD AV.undef::l)
 |.cell x row n::r=>(Abf Hn none row n ((T[x]?).getD AV.undef)).bind λv=>(AbX T r).bind λl=>KM.ret (v::l)
def Nl(n:Nat)(r:AV)(H:AH)(ft:Foot):KR:=
 match (DV 0 n).map (U3 H ft.wr)++(DV n (H.next-n)).map (AhM H) with
 |out=>(match Fx n out 4096 (r.ids++UN (IG out n)) []with
  |none=>none
  |some acc=>some (r.ren (Xx n acc),AbT (Xx n acc) (IG out n)++S4 (Xx n acc) out acc))
def BZ(s:Sc)(f:Nat)(mf:MFn)(args:Aa)(bs:List ABlk):KR:=((Ze A D own Hn f mf.body (Qv mf.nt args)).bind λr=>match r.1 with
 |.exit _=>KM.fail
 |.goto _=>KM.fail
 |_=>(AbX Hn r.2 mf.res).bind λl=>(match mf.own with
  |true=>KM.ret (Iw l)
  |false=>R8 1000 (Iw l)).bind λv=>match mf.tch with
   |true=>(KM.gen (touchI (Ek args))).bind λ_=>KM.ret v
   |false=>KM.ret v) ⟨C6 0 bs,bs.length,none⟩ s λv H ft _=>Nl bs.length v H ft
def AbE(n:Nat):Ae->Ae
 |[]=>[]
 |x::r=>match Aup x n,E6 x r with
  |true,false=>x::AbE n r
  |_,_=>AbE n r
def AI(n:Nat)(L:Ae)(H:AH)(wr:Ae)(r:AV)(o:List BO):KR:=match OM o.length r.ids,RJ o.length o with
 |true,true=>(match (nextB.bind λn=>(writeAll (GL L n) L o).bind λout=>(newAll (GL L n) out).bind λ_=>AM.ret (r.ren (GL L n))) H with
  |some (.tup (x::ys),H',f)=>(match T5 x with
   |some ax=>Nl n (.tup (Zr ax::ys)) H' ⟨[],wr++f.wr⟩
   |none=>none)
  |_=>none)
 |_,_=>none
def AmS(f i:Nat)(xs:Aa)(H:AH)(ft:Foot)(n:Nat):KR:=match trav 4096 (Ek xs) [] H with
 |some (L,_,f1)=>(match readAll L H with
  |some (bs,_,f2)=>AT D (.lp f i) (GX (λb=>idx b L) xs) (bs.map (ABlk.ren λb=>idx b L)) λr o=>AI n L H (AbE n (ft.wr++(f1.wr++f2.wr))) r o
  |none=>none)
 |none=>none
def C2(s:Sc)(f i:Nat)(h:LpH)(c:MC)(xs:Aa)(bs:List ABlk):KR:=Ze A D own Hn f c (B1 h.live h.n xs) ⟨C6 0 bs,bs.length,none⟩ s λr H ft s=>match r.1 with
 |.normal=>JB h.fz r.2 H s λT H g _=>AmS D f i (Cu h.live T) H ⟨ft.rd++g.rd,ft.wr++g.wr⟩ bs.length
 |.goto _=>none
 |ax=>((JB (h.fzo ax) r.2).bind λT=>(KM.gen (delT (h.dlo ax) T)).bind λ_=>(KM.gen (touchA (h.nt ax) (Cu (h.out ax) T))).bind λys=>KM.ret (.tup (Zr ax::ys))) H s λv H f _=>Nl bs.length v H ⟨ft.rd++f.rd,ft.wr++f.wr⟩
end
end
section
open Go.RowKit
def SK{α:Type}(m:AM α)(mK:KM α):Prop:=∀ H s k r,mK H s k=some r->∃ a H' f s',m H=some (a,H',f)/\k a H' f s'=some r
section
variable {α β:Type}
theorem SK.ret(a:α):SK (AM.ret a) (KM.ret a):=λH s k r h=>⟨a,H,⟨[],[]⟩,s,rfl,h⟩
theorem SK.fail(m:AM α):SK m (KM.fail):=λH s k r h=>by cases h
theorem SK.gen(m:AM α):SK m (KM.gen m):=λH s k r h=>by
 grind [KM.gen]
theorem SK.opt:∀ o:Option α,SK (AM.opt o) (KM.opt o)
 |some a=>SK.ret a
 |none=>SK.fail _
theorem SK.bind{m:AM α}{mK:KM α}{f:α->AM β}{fK:α->KM β}(hm:SK m mK)(hf:∀ a,SK (f a) (fK a)):SK (m.bind f) (mK.bind fK):=λH s k r h=>by
 obtain⟨a,H1,f1,s1,h1,h2⟩:=hm H s _ r h;obtain⟨b,H2,f2,s2,h3,h4⟩:=hf a H1 s1 _ r h2;refine⟨b,H2,_,s2,?_,h4⟩;unfold AM.bind;simp only[h1,h3]
theorem Jq{b:Bool}{x y:KR}{r:AV × List BO}(h:br b x y=some r):(b=true/\x=some r)\/(b=false/\y=some r):=by
 cases b
 .exact .inr ⟨rfl,h⟩
 .exact .inl ⟨rfl,h⟩
theorem RK{s:Sc}{c:Bool}{x y:Sc->KR}{r:AV × List BO}(h:brS s c x y=some r):∃ s',(c=true/\x s'=some r)\/(c=false/\y s'=some r):=by
 unfold brS at h;split at h
 .grind [Jq]
 .grind [Jq]
 .grind [Jq]
 .grind [Jq]
theorem SK.brk{b:Bool}{m:AM α}{x y:KM α}(hx:b=true->SK m x)(hy:b=false->SK m y):SK m (KM.brk b x y):=λH s k r h=>by
 obtain⟨s',⟨e,h⟩|⟨e,h⟩⟩:=RK h
 .exact hx e H s' k r h
 .exact hy e H s' k r h
theorem SK.test{b:Bool}{m:AM α}{x:KM α}(hx:b=true->SK m x):SK m (KM.test b x):=λH s k r h=>by
 rcases Jq h with⟨e,h⟩|⟨e,h⟩
 .exact hx e H s k r h
 .cases h
theorem SK.unI{n:Int}{m:AM α}{f:Nat->KM α}(hf:∀ i,n=.ofNat i->SK m (f i)):SK m (KM.unI n f):=λH s k r h=>by
 unfold KM.unI Go.Proofs.YtpncilciembjdaaGreatDoor.unI at h
 cases n with
 |ofNat i=>exact hf i rfl H s k r h
 |negSucc i=>cases h
theorem SK.idx{x:AV}{m:AM α}{f:Nat->KM α}(hf:∀ i,x.idx=some i->SK m (f i)):SK m (KM.idx x f):=by
 unfold KM.idx;split
 .exact SK.unI λi e=>hf i (by rw[e];rfl)
 .exact SK.fail _
theorem SK.idxO{n:Nat}{x:Option AV}{m:AM α}{f:Nat->KM α}(hf:∀ i,Mo n x=some i->SK m (f i)):SK m (KM.idxO n x f):=by
 unfold KM.idxO
 cases x with
 |none=>exact hf n rfl
 |some x=>exact SK.idx λi e=>hf i e
theorem SK.nth{xs:List Aa}{i:Nat}{m:AM α}{f:Aa->KM α}(hf:∀ cs,S1 xs i=some cs->SK m (f cs)):SK m (KM.nth xs i f):=λH s k r h=>by
 unfold KM.nth Bh at h;split at h
 .exact hf _ ‹_› H s k r h
 .cases h
theorem SK.rd{cells:Aa}{o n:Nat}{f:Aa->AM β}{fK:Aa->KM β}{m:AM β}(hm:o+n<=cells.length->m=f ((cells.drop o).take n))(hf:∀ cs,SK (f cs) (fK cs)):SK m ((KM.rd cells o n).bind fK):=λH s k r h=>by
 unfold KM.bind KM.rd EX at h;split at h
 .rename_i e
  rw[hm (by simpa using e)];exact hf _ H s _ r (by simpa using h)
 .cases h
end
mutual
theorem LK:∀(s:Sh) (x:AV) {K:AV->KR} {r:AV × List BO},Dc s x K=some r->K x=some r
 |.int kd,x,K,r,h=>by
  simp only[Dc,II]at h;split at h
  .split at h
   .rename_i e;rw[←e]at h;exact h
   .cases h
  .cases h
 |.bool,x,K,r,h=>by
  simp only[Dc,Lr]at h;split at h
  .exact h
  .cases h
 |.str,x,K,r,h=>by
  simp only[Dc,P3]at h;split at h
  .exact h
  .cases h
 |.ls,x,K,r,h=>by
  simp only[Dc,Lv]at h;split at h
  .exact h
  .cases h
 |.lp l,x,K,r,h=>by
  simp only[Dc,ApT]at h;split at h
  .exact h
  .exact Ca l _ h
  .cases h
 |.agg l,x,K,r,h=>by
  simp only[Dc,Me]at h;split at h
  .exact Ca l _ h
  .cases h
 |.tup l,x,K,r,h=>by
  simp only[Dc,Ky]at h;split at h
  .exact Ca l _ h
  .cases h
 |.slo b e,x,K,r,h=>by
  simp only[Dc,AkF]at h;split at h
  .split at h
   .rename_i e1 e2
    have e1:b=_:=Atz e1;have e2:e=_:=Atz e2;rw[←e1,←e2];exact h
   .cases h
  .cases h
 |.sl b e,x,K,r,h=>by
  simp only[Dc,VH]at h;split at h
  .split at h
   .rename_i e1 e2
    have e1:b=_:=Atz e1;have e2:e=_:=Atz e2;rw[←e1,←e2];exact h
   .cases h
  .cases h
 |.ptr b o,x,K,r,h=>by
  simp only[Dc,Kv]at h;split at h
  .split at h
   .rename_i e1 e2
    have e1:b=_:=Atz e1;have e2:o=_:=Atz e2;rw[←e1,←e2];exact h
   .cases h
  .cases h
 |.cst v,x,K,r,h=>by
  simp only[Dc,P1]at h;split at h
  .rename_i u
   split at h
   .rename_i e
    have:v=u:=by
     unfold AjT at e;split at e
     .rfl
     .rfl
     .cases e
    rw[←this];exact h
   .cases h
  .cases h
 |.fnc f,x,K,r,h=>by
  simp only[Dc,YY]at h;split at h
  .split at h
   .rename_i e
    have:=Atz e;subst this;exact h
   .cases h
  .cases h
 |.any,x,K,r,h=>by simpa only[Dc]using h
theorem Ca:∀(l:List Sh) (cs:Aa) {K:Aa->KR} {r:AV × List BO},Cw l cs K=some r->K cs=some r
 |[],cs,K,r,h=>by
  simp only[Cw,E0]at h;split at h
  .exact h
  .cases h
 |s::l,cs,K,r,h=>by
  have gen:(Ew cs λc r=>Dc s c λc=>Cw l r λr=>K (c::r))=some r->K cs=some r:=λh=>by
   simp only[Ew]at h;split at h
   .cases h
   .have:=Ca l _ (LK s _ h)
    exact this
  cases s with
  |int kd=>
   simp only[Cw,M5]at h;split at h
   .split at h
    .rename_i e
     have:=Ca l _ h;rw[←e]at this;exact this
    .cases h
   .cases h
  |bool=>
   simp only[Cw,O7]at h;split at h
   .have:=Ca l _ h
    exact this
   .cases h
  |str=>
   simp only[Cw,Xe]at h;split at h
   .have:=Ca l _ h
    exact this
   .cases h
  |ls=>
   simp only[Cw,cLs]at h;split at h
   .have:=Ca l _ h
    exact this
   .cases h
  |_=>
   simp only[Cw]at h;exact gen h
end
theorem DQ:∀(l:List Os) (o:List BO) {K:List BO->KR} {r:AV × List BO},Fb l o K=some r->K o=some r
 |[],cs,K,r,h=>by
  simp only[Fb,CW]at h;split at h
  .exact h
  .cases h
 |s::l,o,K,r,h=>by
  simp only[Fb,Ez]at h;split at h
  .cases h
  .cases s with
   |keep=>
    simp only[Lu]at h;split at h
    .have:=DQ l _ h
     exact this
    .cases h
   |del=>
    simp only[P2]at h;split at h
    .have:=DQ l _ h
     exact this
    .cases h
   |row st=>
    simp only[F7]at h;split at h
    .split at h
     .rename_i e
      obtain⟨rfl,rfl⟩:=e;have:=DQ l _ h;exact this
     .cases h
    .cases h
   |box m=>
    simp only[F7]at h;split at h
    .split at h
     .rename_i e
      obtain⟨rfl,rfl⟩:=e;have:=DQ l _ (Ca m _ h);exact this
     .cases h
    .cases h
theorem SK.exp(t:Sh)(x:AV):SK (AM.ret x) (KM.exp t x):=λH s k r h=>⟨x,H,⟨[],[]⟩,s,rfl,LK t x h⟩
theorem SK.expL(t:List Sh)(x:Aa):SK (AM.ret x) (KM.expL t x):=λH s k r h=>⟨x,H,⟨[],[]⟩,s,rfl,Ca t x h⟩
theorem SK.expO(t:List Os)(x:List BO):SK (AM.ret x) (KM.expO t x):=λH s k r h=>⟨x,H,⟨[],[]⟩,s,rfl,DQ t x h⟩
theorem SK.look{α β:Type}{x:α}{mK:KM α}(hm:SK (AM.ret x) mK){f:α->AM β}{fK:α->KM β}(hf:∀ a,SK (f a) (fK a)):SK (f x) (mK.bind fK):=λH s k r h=>by
 obtain⟨a,H1,f1,s1,h1,h2⟩:=hm H s _ r h;obtain⟨rfl,rfl⟩:=Ap h1;have e:f1=⟨[],[]⟩:=by
  grind [AM.ret]
 subst e;exact hf _ _ _ _ r (by simpa using h2)
section
variable {A:Ar} {D:Orc} {own:List (Nat × Nat)} {Hn:Hnt}
theorem SK.tm(d:Option Nat)(cs:Aa):SK (AM.ret cs) (tmK Hn d cs):=by
 unfold tmK;split
 .grind [SK.expL,SK.ret]
 .exact SK.ret _
theorem SK.rdAt(d:Option Nat)(a:AV)(n:Nat):SK (rdAt a n) (WJ Hn d a n):=by
 unfold WJ;split
 .unfold Go.Proofs.YtpncilciembjdaaGreatDoor.rdAt
  refine SK.bind (SK.gen _) λk=>SK.rd (f:=λcs=>AM.ret cs) (λh=>Ac h) λcs=>?_
  split
  .exact SK.tm _ _
  .exact SK.ret _
 .exact SK.gen _
theorem SK.load(d:Option Nat)(row:Bool)(n:Nat)(a:AV):SK (loadM row n a) (Abf Hn d row n a):=by
 cases row with
 |true=>exact SK.bind (SK.rdAt _ _ _) λ_=>SK.ret _
 |false=>exact SK.bind (SK.rdAt _ _ _) λ_=>SK.opt _
theorem SK.store(n:Nat)(a x:AV):SK (storeM n a x) (VA n a x):=by
 unfold storeM VA
 cases a with
 |ptr b o=>
  simp only;split
  .refine SK.bind (SK.gen _) λk=>?_
   by_cases h:k.st=true/\(!k.ex||AU x.cells)=true
   .simp_all [SK.bind,SK.gen,SK.ret,SK.test,Ac]
   .rw[Ad h]
    exact SK.fail _
  .exact SK.fail _
 |_=>exact SK.fail _
theorem SK.iaddr(d:Option Nat)(e:Nat)(x ix:AV):SK (AM.opt (NI e x ix)) (UM Hn d e x ix):=by
 unfold UM;refine SK.idx λi hi=>?_
 unfold NI;simp only[hi]
 cases x with
 |sl b o n e'=>
  simp only;refine SK.test λh=>?_
  rw[h];simp only;split
  .exact SK.ret _
  .exact SK.fail _
 |ls xs=>
  simp only;refine SK.nth λcs h=>?_
  rw[h];simp only;refine SK.look (f:=λ(cs:Aa)=>AM.opt (match AtK cs.length e with
   |true=>some (AV.lp cs)
   |false=>none)) (SK.tm d cs) λcs=>?_
  cases AtK cs.length e with
  |true=>exact SK.ret _
  |false=>exact SK.fail _
 |_=>exact SK.fail _
theorem SK.aaddr(n e:Nat)(x ix:AV):SK (AM.opt (Qd n e x ix)) (TW n e x ix):=by
 grind [TW,Qd,SK.idx,SK.opt,SK.test]
theorem AcS{cs:Aa}{o:Nat}(h:o+1<=cs.length):U2 ((cs.drop o).take 1)=cs[o]?:=by
 have h1:o<cs.length:=h;rw[List.getElem?_eq_getElem h1,List.drop_eq_getElem_cons h1];rfl
theorem SK.index(d:Option Nat)(n e:Nat)(row:Bool)(sz:Nat)(x ix:AV):SK (AM.opt (NK n e row sz x ix)) (UO d n e row sz x ix):=by
 unfold UO;refine SK.idx λi hi=>?_
 unfold NK
 cases x with
 |agg cs=>
  simp only[hi];refine SK.test λh=>?_
  rw[h];simp only;unfold S3
  cases row with
  |true=>exact SK.rd (f:=λxs=>AM.ret (.agg xs)) (λ_=>rfl) λ_=>SK.ret _
  |false=>exact SK.rd (f:=λxs=>AM.opt (U2 xs)) (λh=>by rw[AcS h]) λ_=>SK.opt _
 |_=>exact SK.fail _
theorem NJ{l h n:Nat}(e:I4 l h n=true):Atl l h=true/\Atl h n=true:=by
 grind [I4]
theorem IW{n b:Nat}(e:Bo n b=true):Atl (n*b) 140737488355328=true/\Atl n maxLen=true:=by
 grind [Bo]
theorem SK.slice(e:Nat)(x:AV)(lo hi:Option AV):SK (AM.opt (Ou e x lo hi)) (Vu e x lo hi):=by
 unfold Vu Ou
 cases x with
 |sl b o n e'=>
  simp only;refine SK.idxO λl hl=>SK.idxO λh hh=>SK.test λhb=>?_
  rw[hl,hh];obtain⟨h1,h2⟩:=NJ hb;simp only[h1,h2]
  cases AtK e' e with
  |true=>exact SK.ret _
  |false=>exact SK.fail _
 |ls xs=>
  simp only;refine SK.idxO λl hl=>SK.idxO λh hh=>SK.test λhb=>SK.test λhw=>?_
  rw[hl,hh];obtain⟨h1,h2⟩:=NJ hb;simp only[h1,h2,hw];exact SK.ret _
 |_=>exact SK.fail _
theorem SK.bin(b:BinOp)(x y:AV):SK (AM.opt (Jp A b x y)) (AkY A b x y):=by
 unfold AkY;split
 .rename_i k a k' c
  cases b with
  |shl=>
   simp only;refine SK.brk (λ_=>SK.fail _) λh=>?_
   simp only[Jp,h];exact SK.ret _
  |shr=>
   simp only;refine SK.brk (λ_=>SK.fail _) λh=>?_
   simp only[Jp,h];exact SK.ret _
  |quo=>
   simp only;split
   .rename_i e
    refine SK.brk (λ_=>SK.fail _) λh=>?_
    simp only[Jp,h,Ac e];exact SK.ret _
   .exact SK.fail _
  |rem=>
   simp only;split
   .rename_i e
    refine SK.brk (λ_=>SK.fail _) λh=>?_
    simp only[Jp,h,Ac e];exact SK.ret _
   .exact SK.fail _
  |neq=>
   simp only;split
   .rename_i e
    refine SK.brk (λh=>?_) λh=>?_<;>(simp only[Jp,h,Ac e];exact SK.ret _)
   .exact SK.fail _
  |_=>exact SK.opt _
 .cases b with
  |neq=>
   simp only;refine SK.brk (λh=>?_) λh=>?_<;>(simp only[Jp,h];exact SK.ret _)
  |add=>
   simp only;refine SK.test λh=>?_
   simp only[Jp,h];exact SK.ret _
  |_=>exact SK.opt _
 .exact SK.opt _
theorem SK.sidx(x i:AV):SK (AM.opt (Ts A x i)) (Aco A x i):=by
 unfold Aco;split
 .refine SK.idx λj hj=>SK.test λh=>?_
  simp only[Ts,hj,h];exact SK.ret _
 .exact SK.fail _
theorem SK.sslice(x:AV)(lo hi:Option AV):SK (AM.opt (Kg A x lo hi)) (Q5 A x lo hi):=by
 unfold Q5;split
 .refine SK.idxO λl hl=>SK.idxO λh hh=>SK.test λhb=>?_
  obtain⟨h1,h2⟩:=NJ hb;simp only[Kg,hl,hh,h1,h2];exact SK.ret _
 .exact SK.fail _
theorem SK.news(e:Nat)(x:AV):SK (newsM e x) (WB e x):=by
 unfold WB newsM
 cases x with
 |sl b o n e'=>
  simp only;split
  .grind [SK.bind,SK.fail,SK.gen,SK.ret,SK.test]
  .exact SK.fail _
 |ls xs=>
  simp only;refine SK.test λh=>?_
  rw[h];exact SK.ret _
 |v z=>
  cases z with
  |slice a n c=>
   cases a with
   |none=>
    cases n with
    |zero=>
     cases c with
     |zero=>exact SK.ret _
     |succ c=>exact SK.fail _
    |succ n=>exact SK.fail _
   |some a=>exact SK.fail _
  |_=>exact SK.fail _
 |_=>exact SK.fail _
theorem SK.appR(e bytes:Nat)(s:AV)(r:Nat × Aa):SK (appR e bytes s r) (VM e bytes s r):=by
 unfold VM Go.Proofs.YtpncilciembjdaaGreatDoor.appR;refine SK.brk (λh=>?_) λh=>SK.test λh2=>?_
 .grind [SK.fail,SK.ret]
 .rw[h,h2]
  simp only;unfold Ajk
  cases s with
  |sl b o n e'=>
   simp only
   cases he:AtK e' e with
   |false=>exact SK.fail _
   |true=>
    simp only;refine SK.test λh3=>?_
    obtain⟨h4,h5⟩:=IW h3;simp only[h4,h5];refine SK.bind (SK.gen _) λk=>?_
    cases k.ex with
    |false=>exact SK.fail _
    |true=>
     cases k.st with
     |true=>
      simp only;refine SK.test λh6=>?_
      cases AtK (o+n*e) k.cells.length with
      |true=>exact SK.bind (SK.gen _) λ_=>SK.bind (SK.gen _) λ_=>SK.ret _
      |false=>
       simp only[h6];exact SK.bind (SK.gen _) λ_=>SK.bind (SK.gen _) λ_=>SK.ret _
     |false=>
      simp only;refine SK.test λh6=>?_
      rw[h6];exact SK.bind (SK.gen _) λ_=>SK.bind (SK.gen _) λ_=>SK.ret _
  |v z=>
   cases z with
   |slice a n c=>
    cases a with
    |none=>
     cases n with
     |zero=>
      cases c with
      |zero=>
       refine SK.test λh3=>?_
       obtain⟨h4,h5⟩:=IW h3;simp only[h4,h5];exact SK.bind (SK.gen _) λ_=>SK.ret _
      |succ c=>exact SK.fail _
     |succ n=>exact SK.fail _
    |some a=>exact SK.fail _
   |_=>exact SK.fail _
  |_=>exact SK.fail _
theorem SK.app(e bytes:Nat)(s x:AV):SK (appM e bytes s x) (AnO e bytes s x):=SK.bind (SK.news e x) λr=>SK.appR e bytes s r
theorem SK.appz(z:AA)(e bytes:Nat)(s x:AV):SK (appzM z e bytes s x) (Zo z e bytes s x):=by
 unfold Zo appzM QM;refine SK.idx λm hm=>SK.test λh1=>?_
 rw[hm];dsimp only;rw[h1];exact SK.bind (mK:=KM.ret (m,B5 (z.map .v) (m*e))) (SK.ret _) λr=>SK.appR e bytes s r
theorem SK.mksl(z:AA)(e b:Nat)(l c:AV):SK (mkslM z e b l c) (Abt z e b l c):=by
 grind [Abt,mkslM,SK.bind,SK.gen,SK.idx,SK.ret,SK.test,IW]
theorem SK.cpy(e:Nat)(d x:AV):SK (cpyM e d x) (Ak6 e d x):=by
 unfold Ak6 cpyM
 cases d with
 |sl b o n e'=>
  simp only
  cases AtK e' e with
  |false=>exact SK.fail _
  |true=>
   simp only;refine SK.bind (SK.news e x) λr=>SK.test λh=>?_
   rw[h];simp only;refine SK.bind (SK.gen _) λk=>?_
   cases k.st with
   |false=>exact SK.fail _
   |true=>
    simp only;refine SK.test λh2=>?_
    rw[h2];exact SK.bind (SK.gen _) λ_=>SK.ret _
 |_=>exact SK.fail _
theorem SK.clr(z:AA)(e:Nat)(x:AV):SK (clrM z e x) (Ak4 z e x):=by
 unfold Ak4 clrM
 cases x with
 |sl b o n e'=>
  simp only
  cases AtK e' e with
  |false=>exact SK.fail _
  |true=>
   simp only;refine SK.bind (SK.gen _) λk=>?_
   cases k.st with
   |false=>exact SK.fail _
   |true=>
    simp only;refine SK.test λh2=>?_
    rw[h2];exact SK.bind (SK.gen _) λ_=>SK.ret _
 |_=>exact SK.fail _
mutual
theorem SK.frz:∀(n:Nat) (x:AV),SK (frz n x) (R8 n x)
 |0,x=>by
  unfold R8 Go.Proofs.YtpncilciembjdaaGreatDoor.frz;exact SK.gen _
 |n+1,x=>by
  unfold R8 Go.Proofs.YtpncilciembjdaaGreatDoor.frz
  cases x with
  |v z=>exact SK.ret _
  |sl b o m e=>
   simp only;refine SK.bind (SK.gen _) λk=>SK.test λh=>?_
   rw[h];simp only;refine SK.bind ?_ λ_=>?_
   .cases k.st with
    |true=>exact SK.gen _
    |false=>exact SK.ret _
   .cases (k.ex||AU ((k.cells.drop o).take (m*e))) with
    |true=>exact SK.ret _
    |false=>
     simp only;refine SK.bind (SK.frzL n _) λcs=>?_
     cases AU cs with
     |true=>exact SK.ret _
     |false=>exact SK.fail _
  |agg cs=>exact SK.bind (SK.frzL n _) λ_=>SK.ret _
  |tup cs=>exact SK.bind (SK.frzL n _) λ_=>SK.ret _
  |_=>exact SK.ret _
theorem SK.frzL:∀(n:Nat) (l:Aa),SK (frzL n l) (JA n l)
 |n,[]=>by
  unfold JA Go.Proofs.YtpncilciembjdaaGreatDoor.frzL;exact SK.ret _
 |0,_::_=>by
  unfold JA;exact SK.fail _
 |n+1,x::r=>by
  unfold JA Go.Proofs.YtpncilciembjdaaGreatDoor.frzL;exact SK.bind (SK.frz n x) λ_=>SK.bind (SK.frzL n r) λ_=>SK.ret _
end
theorem SK.frzB(b:Nat):SK (frzB b) (Aay b):=by
 grind [Go.Proofs.YtpncilciembjdaaGreatDoor.frzB,AtK,Aay,SK.bind,SK.fail,SK.frzL,SK.gen,SK.ret]
theorem SK.frzT:∀(l:Ae) (T:Aa),SK (frzT l T) (JB l T)
 |[],T=>SK.ret _
 |t::r,T=>by
  unfold JB Go.Proofs.YtpncilciembjdaaGreatDoor.frzT
  cases T[t]? with
  |none=>exact SK.frzT r T
  |some x=>
   cases x with
   |ptr b o=>exact SK.bind (SK.frzB b) λ_=>SK.frzT r T
   |_=>exact SK.bind (SK.frz _ _) λ_=>SK.frzT r _
theorem SK.frzA(f:Nat):∀(i:Nat) (l:Aa),SK (frzA own f i l) (Po own f i l)
 |i,[]=>by
  unfold Po Go.Proofs.YtpncilciembjdaaGreatDoor.frzA;exact SK.ret _
 |i,x::r=>by
  unfold Po Go.Proofs.YtpncilciembjdaaGreatDoor.frzA
  cases AbJ own f i with
  |true=>exact SK.bind (SK.frzA f (i+1) r) λ_=>SK.ret _
  |false=>exact SK.bind (SK.frz 1000 x) λ_=>SK.bind (SK.frzA f (i+1) r) λ_=>SK.ret _
theorem SK.ask(key:Key)(args:Aa)(bs:List ABlk):SK (AM.opt (D.ask key args bs)) (KM.ask D key args bs):=λH s k r h=>by
 unfold KM.ask AT at h;split at h
 .rename_i q e
  rw[e];exact⟨q,H,⟨[],[]⟩,s,rfl,h⟩
 .cases h
theorem SK.callD(key:Key){e:AV × List BO->KM (AV × List BO)}(he:∀ q,SK (AM.ret q) (e q))(args:Aa):SK (callD (D.ask key) args) (Ql D key e args):=by
 unfold Ql Go.Proofs.YtpncilciembjdaaGreatDoor.callD;refine SK.bind (SK.gen _) λL=>SK.bind (SK.gen _) λbs=>SK.bind ?_ λr=>?_
 .intro H s k r h
  obtain⟨a,H1,f1,s1,h1,h2⟩:=SK.ask key _ _ H s _ r h;obtain⟨b,H2,f2,s2,h3,h4⟩:=he a H1 s1 _ r h2;obtain⟨rfl,rfl⟩:=Ap h3;refine⟨_,_,_,s2,h1,?_⟩;simp only[AM.ret,θ,Prod.mk.injEq]at h3;rw[←h3.2.2]at h4;simpa using h4
 .grind [SK.bind,SK.fail,SK.gen,SK.ret]
theorem SK.ansF(f:Nat)(q:AV × List BO):SK (AM.ret q) (ansF Hn f q):=by
 unfold Go.Proofs.YtpncilciembjdaaGreatDoor.ansF;split
 .exact SK.look (f:=λx=>AM.ret (x,q.2)) (SK.exp _ _) λx=>SK.look (f:=λo=>AM.ret (x,o)) (SK.expO _ _) λ_=>SK.ret _
 .exact SK.ret _
theorem SK.calls(f:FuncId)(args:Aa):SK (callsM D own f args) (Qm D own Hn f args):=by
 grind [Qm,callsM,SK.ansF,SK.bind,SK.callD,SK.frzA]
theorem Adz{k:Nat}{x:AV}(h:Bg k x=true):x=Zt k:=by
 unfold Bg at h;split at h
 .rfl
 .rename_i i j
  have:i=j:=Atz h;rw[this];rfl
 .cases h
theorem SK.ansX:∀(l:List (Nat × (List Sh × List Os))) (x:AV) (ys:Aa) (o:List BO),SK (AM.ret (.tup (x::ys),o)) (ansX l x ys o)
 |[],_,_,_=>SK.fail _
 |(k,s,l)::r,x,ys,o=>by
  unfold Go.Proofs.YtpncilciembjdaaGreatDoor.ansX;refine SK.brk (λh=>?_) λ_=>SK.ansX r x ys o
  have hx:x=Zt k:=Adz h;rw[←hx];exact SK.look (f:=λys=>AM.ret (Ath (x::ys),o)) (SK.expL _ _) λys=>SK.look (f:=λo=>AM.ret (Ath (x::ys),o)) (SK.expO _ _) λ_=>SK.ret _
theorem SK.ansL(i:Nat)(q:AV × List BO):SK (AM.ret q) (ansL Hn i q):=by
 unfold Go.Proofs.YtpncilciembjdaaGreatDoor.ansL;split
 .rename_i l _
  intro H s k r h;obtain⟨v,o⟩:=q
  cases v with
  |tup cs=>
   cases cs with
   |nil=>cases h
   |cons x ys=>exact SK.ansX l x ys o H s k r h
  |_=>cases h
 .exact SK.ret _
theorem SK.loops(f i:Nat)(xs:Aa):SK (loopsM D f i xs) (UT D Hn f i xs):=by
 grind [T5,UT,loopsM,SK.ansL,SK.bind,SK.callD,SK.fail,SK.ret]
theorem SK.op(d:Option Nat)(o:MO)(T:Aa):SK (mop A (callsM D own) o T) (opK A D own Hn d o T):=by
 cases o with
 |pick c a b=>
  simp only[opK,mop]
  cases AW T c with
  |v u=>
   cases u with
   |bool t=>
    simp only;refine SK.brk (λh=>?_) λh=>?_<;>(subst h;exact SK.ret _)
   |_=>exact SK.fail _
  |_=>exact SK.fail _
 |ld row n a=>exact SK.load _ _ _ _
 |st n a x=>exact SK.store _ _ _
 |bin ek b x y=>
  cases ek with
  |zero=>exact SK.bin _ _ _
  |succ n=>exact SK.opt _
 |slice e x lo hi=>exact SK.slice _ _ _ _
 |iaddr e x i=>exact SK.iaddr _ _ _ _
 |aaddr n e x i=>exact SK.aaddr _ _ _ _
 |index n e row sz x i=>exact SK.index d _ _ _ _ _ _
 |mksl z e b l c=>exact SK.mksl _ _ _ _ _
 |app e b s x=>exact SK.app _ _ _ _
 |appz z e b s x=>exact SK.appz _ _ _ _ _
 |cpy e d x=>exact SK.cpy _ _ _
 |clr z e x=>exact SK.clr _ _ _
 |sidx x i=>exact SK.sidx _ _
 |sslice x lo hi=>exact SK.sslice _ _ _
 |callF f args=>exact SK.calls _ _
 |callV ents x args=>
  simp only[opK,mop]
  cases AW T x with
  |fn f a cs=>
   cases f with
   |func g=>
    simp only
    cases ents.testBit g with
    |true=>exact SK.calls _ _
    |false=>exact SK.fail _
   |_=>exact SK.fail _
  |_=>exact SK.fail _
 |_=>exact SK.gen _
theorem SK.core(o:MOp)(T:Aa):SK (coreM A (callsM D own) o T) (ZK A D own Hn o T):=by
 grind [bool,ZK,coreM,TK,SK.brk,SK.fail,SK.op,SK.ret]
theorem AdU{e:Bool}{x:AV}{s:Sc}{k:AV->Sc->KR}{r:AV × List BO}(h:gB e x s k=some r):∃ s',k x s'=some r:=by
 unfold gB at h;split at h
 .grind [RK]
 .exact⟨s,h⟩
theorem SK.run:∀(l:List MOp) (T:Aa) (H:AH) (s:Sc) (k:Aa->AH->List Foot->Sc->KR) (r:AV × List BO),Aih A D own Hn l T H s k=some r->∃ T' H' fs s',runM A (callsM D own) l T H=some (T',H',fs)/\k T' H' fs s'=some r
 |[],T,H,s,k,r,h=>⟨T,H,[],s,rfl,h⟩
 |o::l,T,H,s,k,r,h=>by
  simp only[Aih]at h;obtain⟨v,H1,f,s1,h1,h2⟩:=SK.core o T H s _ r h;simp only[AaA,UH,Alk,Aos]at h2;obtain⟨s2,h2⟩:=AdU h2;obtain⟨T',H',fs,s3,h3,h4⟩:=SK.run l _ _ _ _ r h2;refine⟨T',H',f::fs,s3,?_,h4⟩;simp only[runM,h1,h3]
theorem SK.reg(ops:List MOp)(bf:Option (Ae))(T:Aa):SK (regM A (callsM D own) ops bf T) (AmT A D own Hn ops bf T):=λH s k r h=>by
 unfold AmT at h;obtain⟨T',H',fs,s',h1,h2⟩:=SK.run ops T H s _ r h;unfold regM;rw[h1]
 cases bf with
 |none=>exact⟨_,_,_,s',rfl,h2⟩
 |some bf=>
  simp only at h2 ⊢;split at h2
  .grind
  .cases h2
theorem SK.ev(f:Nat):∀(c:MC) (T:Aa),SK (evC A (callsM D own) (loopsM D f) c T) (Ze A D own Hn f c T)
 |.skip,T=>SK.ret _
 |.reg ops bf,T=>SK.reg _ _ _
 |.seq a b,T=>by
  unfold Ze evC;refine SK.bind (SK.ev f a T) λr=>?_
  obtain⟨ax,T1⟩:=r
  cases ax with
  |normal=>exact SK.ev f b _
  |_=>exact SK.ret _
 |.cond c a b,T=>by
  unfold Ze evC
  cases AW T c with
  |v u=>
   cases u with
   |bool t=>
    simp only;refine SK.brk (λh=>?_) λh=>?_<;>subst h
    .exact SK.ev f a T
    .exact SK.ev f b T
   |_=>exact SK.fail _
  |_=>exact SK.fail _
 |.block id c,T=>by
  unfold Ze evC;refine SK.bind (SK.ev f c T) λr=>?_
  obtain⟨ax,T1⟩:=r
  cases ax with
  |exit i=>
   simp only
   by_cases e:i=id
   .simp_all [SK.ret,Ac]
   .simp_all [SK.ret,Ad]
  |_=>exact SK.ret _
 |.loop i h,T=>by
  grind [AtK,evC,Ze,SK.bind,SK.fail,SK.frzT,SK.gen,SK.loops,SK.ret]
 |.exit id,T=>SK.ret _
 |.ret,T=>SK.ret _
 |.bad,T=>SK.fail _
theorem SK.res(T:Aa):∀ l,SK (resM T l) (AbX Hn T l)
 |[]=>SK.ret _
 |.tmp _::r=>SK.bind (SK.res T r) λ_=>SK.ret _
 |.cell _ _ _::r=>SK.bind (SK.load _ _ _ _) λ_=>SK.bind (SK.res T r) λ_=>SK.ret _
theorem Alg{m:Aa->AM AV}{mK:KM AV}{args:Aa}{bs:List ABlk}{r:AV × List BO}(hm:SK (m args) mK)(s:Sc)(h:mK ⟨C6 0 bs,bs.length,none⟩ s (λv H ft _=>Nl bs.length v H ft)=some r):Nn (Eu m) args bs=some r:=by
 obtain⟨v,H',ft,s',h1,h2⟩:=hm _ _ _ _ h;unfold Nn Eu;rw[h1];exact h2
theorem Aax{f:Nat}{mf:MFn}{args:Aa}{bs:List ABlk}{r:AV × List BO}(s:Sc)(h:BZ A D own Hn s f mf args bs=some r):Nn (Eu (fnM A D own f mf)) args bs=some r:=by
 unfold BZ at h;refine Alg ?_ s h;unfold fnM;have fin:∀ T,SK ((resM T mf.res).bind λl=>(match mf.own with
   |true=>AM.ret (Iw l)
   |false=>frz 1000 (Iw l)).bind λv=>match mf.tch with
    |true=>(touchI (Ek args)).bind λ_=>AM.ret v
    |false=>AM.ret v) ((AbX Hn T mf.res).bind λl=>(match mf.own with
   |true=>KM.ret (Iw l)
   |false=>R8 1000 (Iw l)).bind λv=>match mf.tch with
    |true=>(KM.gen (touchI (Ek args))).bind λ_=>KM.ret v
    |false=>KM.ret v):=λT=>by
  grind [SK.bind,SK.frz,SK.gen,SK.res,SK.ret]
 refine SK.bind (SK.ev f _ _) λr=>?_
 obtain⟨ax,T1⟩:=r
 cases ax with
 |exit i=>exact SK.fail _
 |goto l=>exact SK.fail _
 |normal=>exact fin T1
 |ret=>exact fin T1
theorem Mv{α β:Type}{m:AM α}{f:α->AM β}{H H1 H2:AH}{a:α}{b:β}{f1 f2:Foot}(h1:m H=some (a,H1,f1))(h2:f a H1=some (b,H2,f2)):(m.bind f) H=some (b,H2,⟨f1.rd++f2.rd,f1.wr++f2.wr⟩):=by
 grind [AM.bind]
theorem Sg(n b:Nat)(hb:b<n):∀ l,E6 b (AbE n l)=E6 b l
 |[]=>rfl
 |x::r=>by
  have ih:=Sg n b hb r;unfold AbE;split
  .unfold E6
   rw[ih]
  .rename_i h
   rw[ih]
   conv=>rhs;unfold E6
   cases e:AtK b x with
   |false=>rfl
   |true=>
    have e:b=x:=Atz e;subst e;have h1:Aup b n=true:=by rw[Xc];simpa using hb
    cases h2:E6 b r with
    |true=>rfl
    |false=>exact absurd h2 (h h1)
theorem Sf(b:Nat)(l m:Ae):E6 b (l++m)=(E6 b l||E6 b m):=by
 simp only[Qw];simp
theorem UD{n:Nat}{r:AV}{H:AH}{f1 f2:Foot}(h:∀ b,b<n->E6 b f1.wr=E6 b f2.wr):Nl n r H f1=Nl n r H f2:=by
 have:(DV 0 n).map (U3 H f1.wr)=(DV 0 n).map (U3 H f2.wr):=by
  refine List.map_congr_left λb hb=>?_
  obtain⟨i,hi⟩:=List.getElem?_of_mem hb;rw[IY]at hi;split at hi
  .grind [U3]
  .cases hi
 unfold Nl;rw[this]
theorem Ah7{f i n:Nat}{xs:Aa}{H:AH}{ft:Foot}{r:AV × List BO}(h:AmS D f i xs H ft n=some r):∃ q H' f',loopsM D f i xs H=some (q,H',f')/\Nl n (.tup (Zr q.1::q.2)) H' ⟨ft.rd++f'.rd,ft.wr++f'.wr⟩=some r:=by
 unfold AmS at h;split at h
 .rename_i L H1 f1 e1
  split at h
  .rename_i bs H2 f2 e2
   unfold AT at h;split at h
   .rename_i q e3
    obtain⟨v,o⟩:=q;simp only at h;unfold AI at h
    cases c1:OM o.length v.ids<;>cases c2:RJ o.length o<;>rw[c1,c2]at h<;>try (cases h;done)
    simp only at h;split at h
    .rename_i x ys H' f' e4
     split at h
     .rename_i ax e5
      have t1:=(MP _ _ _ _ e1).1;have t2:=(Ja _ e2).1;rw[t1]at e1;rw[t2]at e2;refine⟨(ax,ys),H',_,Mv (Mv e1 (Mv e2 (Mv (a:=(v,o)) (H1:=H) (f1:=⟨[],[]⟩) (by rw[e3];rfl) (b:=.tup (x::ys)) (H2:=H') (f2:=f') ?_))) (b:=(ax,ys)) (H2:=H') (f2:=⟨[],[]⟩) ?_,?_⟩
      .simp only[c1,c2]
       exact e4
      .simp only[e5]
       rfl
      .rw[←h]
       refine UD λb hb=>?_
       simp only[Sf,Sg n b hb,AtY,Atw,Bool.or_assoc]
     .cases h
    .cases h
   .cases h
  .cases h
 .cases h
theorem AlE{f i:Nat}{q:LpH}{c:MC}{xs:Aa}{bs:List ABlk}{r:AV × List BO}(s:Sc)(h:C2 A D own Hn s f i q c xs bs=some r):Nn (Eu (lpM A D own f i q c)) xs bs=some r:=by
 have key:∀ v H' ft,lpM A D own f i q c xs ⟨C6 0 bs,bs.length,none⟩=some (v,H',ft)->Nl bs.length v H' ft=some r->Nn (Eu (lpM A D own f i q c)) xs bs=some r:=λv H' ft h1 h2=>by
  unfold Nn Eu;rw[h1];exact h2
 unfold C2 at h;obtain⟨⟨ax,T1⟩,H1,f1,s1,h1,h2⟩:=SK.ev f c _ _ s _ r h;have out:∀(ax:AX),((JB (q.fzo ax) T1).bind λT=>(KM.gen (delT (q.dlo ax) T)).bind λ_=>(KM.gen (touchA (q.nt ax) (Cu (q.out ax) T))).bind λys=>KM.ret (.tup (Zr ax::ys))) H1 s1 (λv H f _=>Nl bs.length v H ⟨f1.rd++f.rd,f1.wr++f.wr⟩)=some r->∃ v H' f,((frzT (q.fzo ax) T1).bind λT=>(delT (q.dlo ax) T).bind λ_=>(touchA (q.nt ax) (Cu (q.out ax) T)).bind λys=>AM.ret (.tup (Zr ax::ys))) H1=some (v,H',f)/\Nl bs.length v H' ⟨f1.rd++f.rd,f1.wr++f.wr⟩=some r:=λax h=>by
  obtain⟨v,H',f,s2,h3,h4⟩:=(SK.bind (SK.frzT (q.fzo ax) T1) λT=>SK.bind (SK.gen _) λ_=>SK.bind (SK.gen _) λys=>SK.ret (Ath (Zr ax::ys))) H1 s1 _ r h;exact⟨v,H',f,h3,h4⟩
 cases ax with
 |normal=>
  obtain⟨T2,H2,f2,s2,h5,h6⟩:=SK.frzT q.fz T1 H1 s1 _ r h2;obtain⟨p,H',f',h3,h4⟩:=Ah7 h6;refine key _ H' _ ?_ h4;unfold lpM;simp only[AM.bind,h1,h5,h3,AM.ret,AtY,List.append_assoc]
 |goto l=>cases h2
 |exit k=>
  obtain⟨v,H',f',h3,h4⟩:=out _ h2;refine key v H' _ ?_ h4;unfold lpM;rw[AM.bind,h1];simp only;rw[h3]
 |ret=>
  obtain⟨v,H',f',h3,h4⟩:=out _ h2;refine key v H' _ ?_ h4;unfold lpM;rw[AM.bind,h1];simp only;rw[h3]
end
section
variable {A:Ar} {M:Seat}
theorem AkV(Hn:Hnt)(s:Sc){f:Nat}{mf:MFn}(he:M.ext f=none)(hf:M.fns f=some mf){args:Aa}{bs:List ABlk}{r:AV × List BO}(h:BZ A (AB A M) M.own Hn s f mf args bs=some r):(AB A M).ask (.fn f) args bs=some r:=Aip he hf (Aax s h)
theorem Zp(Hn:Hnt)(s:Sc){f i:Nat}{mf:MFn}{q:LpH}{c:MC}(hf:M.fns f=some mf)(hl:mf.loops[i]? = some (q,c)){args:Aa}{bs:List ABlk}{r:AV × List BO}(h:C2 A (AB A M) M.own Hn s f i q c args bs=some r):(AB A M).ask (.lp f i) args bs=some r:=Aiq hf hl (AlE s h)
end
end
open Go.RowKit
def iv(n:Int):AV:=.v (.int .i64 n)
def bv(b:Bool):AV:=.v (.bool b)
def sv(s:ByteArray):AV:=.v (.string s)
def CP(l:List UInt8):ByteArray:=⟨l.toArray⟩
def AbF(P:Program)(f:Nat):Bool:=match P.funcs[f]? with
 |some fn=>(match fn.body with
  |some c=>KB c&&okR P fn.results.toList
  |none=>false)
 |none=>false
def JP(P:Program)(ents:Nat)(hs:Jm)(ownR tch:Bool)(f:Nat):MFn:=match P.funcs[f]? with
 |some fn=>(match fn.body with
  |some c=>⟨fn.ntmps,IA P fn.results.toList,(BC P ents hs c 0).1,(BC P ents hs c 0).2,ownR,tch⟩
  |none=>⟨0,[],.bad,[],false,false⟩)
 |none=>⟨0,[],.bad,[],false,false⟩
theorem AdT{P:Program}{ents:Nat}{hs:Jm}{ownR tch:Bool}{f:Nat}(h:AbF P f=true):FnOk P ents f (JP P ents hs ownR tch f):=by
 unfold AbF at h
 cases e1:P.funcs[f]? with
 |none=>rw[e1]at h;cases h
 |some fn=>
  rw[e1]at h;simp only at h
  cases e2:fn.body with
  |none=>rw[e2]at h;cases h
  |some c=>
   rw[e2]at h;simp only[Bool.and_eq_true]at h;refine⟨fn,c,hs,e1,e2,h.1,h.2,?_⟩;unfold JP;rw[e1];simp only[e2];exact⟨trivial,trivial,trivial,trivial⟩
structure Knows (own:List (Nat × Nat)) (L:List (Nat × MFn)) (D:Orc):Prop where
 fn:∀(Hn:Hnt) (s:Sc) (f:Nat) (mf:MFn) (args:Aa) (bs:List ABlk) (r:AV × List BO),BG f L=some mf->BZ Ah D own Hn s f mf args bs=some r->D.ask (.fn f) args bs=some r
 lp:∀(Hn:Hnt) (s:Sc) (f i:Nat) (mf:MFn) (q:LpH) (c:MC) (args:Aa) (bs:List ABlk) (r:AV × List BO),BG f L=some mf->mf.loops[i]? = some (q,c)->C2 Ah D own Hn s f i q c args bs=some r->D.ask (.lp f i) args bs=some r
def AN(mf:MFn)(i:Nat):LpH × MC:=(mf.loops[i]?).getD (⟨0,[],[],[],[]⟩,.bad)
theorem Knows.fn'{own:List (Nat × Nat)}{L:List (Nat × MFn)}{D:Orc}(K:Knows own L D)(Hn:Hnt)(s:Sc){f:Nat}{mf:MFn}{args:Aa}{bs:List ABlk}{r:AV × List BO}(h1:BG f L=some mf)(h:BZ Ah D own Hn s f mf args bs=some r):D.ask (.fn f) args bs=some r:=K.fn Hn s f mf args bs r h1 h
theorem Az{own:List (Nat×Nat)}{L:List (Nat×MFn)}{D:Orc}(K:Knows own L D)(Hn:Hnt){s:Sc}{f:Nat}{mf:MFn}{args:Aa}{bs:List ABlk}{r:AV×List BO}{x:KR}(e:BZ Ah D own Hn s f mf args bs=x)(g:x=some r)(h1:BG f L=some mf:=by rfl):D.ask (.fn f) args bs=some r:=K.fn' Hn s h1 (e.trans g)
theorem Knows.lp'{own:List (Nat × Nat)}{L:List (Nat × MFn)}{D:Orc}(K:Knows own L D)(Hn:Hnt)(s:Sc){f i:Nat}{mf:MFn}{args:Aa}{bs:List ABlk}{r:AV × List BO}(h1:BG f L=some mf)(h2:(mf.loops[i]?).isSome=true)(h:C2 Ah D own Hn s f i (AN mf i).1 (AN mf i).2 args bs=some r):D.ask (.lp f i) args bs=some r:=by
 obtain⟨⟨q,c⟩,e⟩:=Option.isSome_iff_exists.1 h2;refine K.lp Hn s f i mf q c args bs r h1 e ?_;unfold AN at h;rw[e]at h;exact h
theorem Ax{own:List (Nat×Nat)}{L:List (Nat×MFn)}{D:Orc}(K:Knows own L D)(Hn:Hnt){s:Sc}{f i:Nat}{mf:MFn}{args:Aa}{bs:List ABlk}{r:AV×List BO}{x:KR}(e:C2 Ah D own Hn s f i (AN mf i).1 (AN mf i).2 args bs=x)(g:x=some r)(h1:BG f L=some mf:=by rfl)(h2:(mf.loops[i]?).isSome=true:=by kernel_rfl):D.ask (.lp f i) args bs=some r:=K.lp' Hn s h1 h2 (e.trans g)
theorem D6{α:Type}{f:Nat}{a:α}:∀{L:List (Nat × α)},BG f L=some a->(f,a)∈L
 |[],h=>by cases h
 |(m,b)::r,h=>by
  unfold BG at h
  cases e:AtK f m with
  |true=>
   rw[e]at h;simp only[θ]at h;have:=Atz e;subst this;subst h;exact List.mem_cons_self
  |false=>
   rw[e]at h;exact List.mem_cons_of_mem _ (D6 h)
def CU(own:List (Nat × Nat))(L:List (Nat × MFn))(X:List (Nat × DF)):Seat:=⟨λf=>BG f L,own,λf=>BG f X⟩
def Fk(L:List (Nat × MFn))(X:List (Nat × DF)):Bool:=L.all λp=>(BG p.1 X).isNone
theorem Aa4{own:List (Nat × Nat)}{L L':List (Nat × MFn)}{X:List (Nat × DF)}(hs:∀ f mf,BG f L'=some mf->BG f L=some mf)(hx:Fk L' X=true):Knows own L' (AB Ah (CU own L X)) where
 fn Hn s f mf args bs r h1 h2:=AkV (M:=CU own L X) Hn s (by
  have:=List.all_eq_true.1 hx _ (D6 h1);exact Option.isNone_iff_eq_none.1 this) (hs f mf h1) h2
 lp Hn s f i mf q c args bs r h1 h2 h3:=Zp (M:=CU own L X) Hn s (hs f mf h1) h2 h3
section
variable {μ:Mu} {F:AP} {w w':World}
theorem Dz(F:AP)(h:Below w.heap.size w w'):WStep F w w':=
 ⟨h.os,h.tape,h.output,h.size,λg o ho=>⟨o,by
  have hg:g<w.heap.size:=by
   grind
  exact(h.block g hg).trans ho,ObjStep.refl _ o⟩⟩
def Aby(F:AP)(w w':World):AP:=λg o=>F g o\/(w.heap.size<=g/\g<w'.heap.size)
theorem LS{H:Nat->Option ABlk}(hH:HRep μ F w H)(h:Below w.heap.size w w'):Later μ μ F (Aby F w w') w w':=
 ⟨λ_ _ h=>h,λg o hg=>⟨.inl hg,(Dz F h).cell hg (hH.prot g o hg)⟩⟩
theorem UL{H:Nat->Option ABlk}(hH:HRep μ F w H)(h:Below w.heap.size w w'):HRep μ (Aby F w w') w' H:=by
 have hl:=LS hH h;have same:∀ g o,g<w.heap.size->w'.cell? ⟨g,o,none⟩=w.cell? ⟨g,o,none⟩:=λg o hg=>h.cell (p:=⟨g,o,none⟩) hg
 have st:=Dz (λ_ _=>False) h;refine⟨λb k hb=>?_,hH.apart,λg o hg=>?_⟩
 .obtain⟨p,hp,B⟩:=hH.blk b k hb
  refine⟨p,hp,?_,B.room,?_,λh0 i hi=>.inl (B.kept h0 i hi),?_,B.pure⟩
  .intro i x hx
   obtain⟨u,h1,h2⟩:=B.cell i x hx;exact⟨u,(same _ _ (C7 h1)).trans h1,h2.later hl⟩
  .intro i hi
   obtain⟨⟨u,h1⟩,h2⟩:=B.there i hi;exact⟨⟨u,(same _ _ (C7 h1)).trans h1⟩,(st.frozen (C7 h1)).trans h2⟩
  .rintro i hi (hf|⟨hf,_⟩)
   .exact B.free i hi hf
   .have hr:i<p.room:=by
     rcases hi with⟨h1,_⟩|⟨_,h1,_⟩
     .exact At4 h1 B.room
     .exact h1
    obtain⟨⟨u,h1⟩,_⟩:=B.there i hr;have:=C7 h1;omega
 .rcases hg with hg|hg
  .exact At4 (hH.prot g o hg) h.size
  .exact hg.2
end
theorem Sa{S:Mi}(hm:OW S)(res:Aa->Option AV)
  (h:∀ args r,res args=some r->∀(μ:Mu) (F:AP) (w:World) (us:AA),RepList μ F w args us->S us w λu w'=>Below w.heap.size w w'/\Rep μ (Aby F w w') w' r u) :
  A1 S λargs bs=>match bs with
   |[]=>(res args).map λr=>(r,[])
   |_=>none:=by
 intro args bs r out hd
 cases bs with
 |cons=>cases hd
 |nil=>
  obtain⟨r',hr,he⟩:=Option.map_eq_some_iff.1 hd;obtain⟨rfl,rfl⟩:r'=r/\[]=out:=by simpa using he
  refine⟨η _,0,η _,λt _ μ F w KL us hKL hus hH hμ=>?_⟩;refine hm _ _ _ _ (h args r' hr μ F w us hus) λu w' ⟨hb,hu⟩=>?_
  refine⟨μ,Aby F w w',hu,?_,LS hH hb,Dz F hb,λ_ _=>rfl⟩;have:=UL hH hb;have e:(λb=>if b<t then([]:List ABlk)[b]? else look b KL)=λb=>if b<t then C8 [] [] b else look b KL:=by
   funext b
   by_cases hbt:b<t
   .rw[Ac hbt,Ac hbt]
    rfl
   .grind
  rw[←e];exact this
inductive Ki
 |b
 |i
 |j (kd:IntKind)
 |s
 |l
 |q (bb ee:Nat)
 |t
 |a
 |p (bb oo:Nat)
 |f (g:Nat)
 |c (u:Value)
 |x
 |B
 |I
 |J (kd:IntKind)
 |S
 |L
 |C
 |N
 |X
 |O
 |E
 |Y
 |T
 |R
 |D
 |K
 |A
 |P (bb oo:Nat)
 |Z
 |w
inductive It
 |v (x:AV)
 |l (x:Aa)
 |o (x:List BO)
 |c (x:BO)
abbrev Ct:List Ki->Type
 |[]=>KR
 |.b::r=>Bool->Ct r
 |.i::r=>Int->Ct r
 |.j _::r=>Int->Ct r
 |.s::r=>ByteArray->Ct r
 |.l::r=>List Aa->Ct r
 |.q _ _::r=>Nat->Ct r
 |.t::r=>Ct r
 |.a::r=>Ct r
 |.p _ _::r=>Ct r
 |.f _::r=>Ct r
 |.c _::r=>Ct r
 |.x::r=>AV->Ct r
 |.B::r=>Bool->Ct r
 |.I::r=>Int->Ct r
 |.J _::r=>Int->Ct r
 |.S::r=>ByteArray->Ct r
 |.L::r=>List Aa->Ct r
 |.C::r=>Ct r
 |.N::r=>Ct r
 |.X::r=>Aa->Ct r
 |.O::r=>Ct r
 |.E::r=>Ct r
 |.Y::r=>List BO->Ct r
 |.T::r=>Ct r
 |.R::r=>Ct r
 |.D::r=>Ct r
 |.K::r=>Ct r
 |.A::r=>Ct r
 |.P _ _::r=>Ct r
 |.Z::r=>BO->Ct r
 |.w::r=>Unit->Ct r
def Zg(s:List It)(k:AV->List It->KR):KR:=match s with
 |.v x::r=>k x r
 |_=>none
def itL(s:List It)(k:Aa->List It->KR):KR:=match s with
 |.l x::r=>k x r
 |_=>none
def itO(s:List It)(k:List BO->List It->KR):KR:=match s with
 |.o x::r=>k x r
 |_=>none
def itC(s:List It)(k:BO->List It->KR):KR:=match s with
 |.c x::r=>k x r
 |_=>none
def dk:(p:List Ki)->List It->Ct p->KR
 |[],_,k=>k
 |.b::r,s,k=>Zg s λx s=>Lr x λn=>dk r s (k n)
 |.i::r,s,k=>Zg s λx s=>II .i64 x λn=>dk r s (k n)
 |.j kd::r,s,k=>Zg s λx s=>II kd x λn=>dk r s (k n)
 |.s::r,s,k=>Zg s λx s=>P3 x λn=>dk r s (k n)
 |.l::r,s,k=>Zg s λx s=>Lv x λn=>dk r s (k n)
 |.q bb ee::r,s,k=>Zg s λx s=>VH bb ee x λn=>dk r s (k n)
 |.t::r,s,k=>Zg s λx s=>Ky x λy=>dk r (.l y::s) k
 |.a::r,s,k=>Zg s λx s=>Me x λy=>dk r (.l y::s) k
 |.p bb oo::r,s,k=>Zg s λx s=>Kv bb oo x<|dk r s k
 |.f g::r,s,k=>Zg s λx s=>YY g x<|dk r s k
 |.c u::r,s,k=>Zg s λx s=>P1 u x<|dk r s k
 |.x::r,s,k=>Zg s λx s=>dk r s (k x)
 |.B::r,s,k=>itL s λx s=>O7 x λn y=>dk r (.l y::s) (k n)
 |.I::r,s,k=>itL s λx s=>M5 .i64 x λn y=>dk r (.l y::s) (k n)
 |.J kd::r,s,k=>itL s λx s=>M5 kd x λn y=>dk r (.l y::s) (k n)
 |.S::r,s,k=>itL s λx s=>Xe x λn y=>dk r (.l y::s) (k n)
 |.L::r,s,k=>itL s λx s=>cLs x λn y=>dk r (.l y::s) (k n)
 |.C::r,s,k=>itL s λx s=>Ew x λz y=>dk r (.v z::.l y::s) k
 |.N::r,s,k=>itL s λx s=>E0 x<|dk r s k
 |.X::r,s,k=>itL s λx s=>dk r s (k x)
 |.O::r,s,k=>itO s λx s=>Ez x λz y=>dk r (.c z::.o y::s) k
 |.E::r,s,k=>itO s λx s=>CW x<|dk r s k
 |.Y::r,s,k=>itO s λx s=>dk r s (k x)
 |.T::r,s,k=>itO s λx s=>Ez x λc y=>F7 true false c λz=>dk r (.l z::.o y::s) k
 |.R::r,s,k=>itO s λx s=>Ez x λc y=>F7 true true c λz=>dk r (.l z::.o y::s) k
 |.D::r,s,k=>itO s λx s=>Ez x λc y=>P2 c<|dk r (.o y::s) k
 |.K::r,s,k=>itO s λx s=>Ez x λc y=>Lu c<|dk r (.o y::s) k
 |.A::r,s,k=>itL s λx s=>Ew x λc y=>Me c λz=>dk r (.l z::.l y::s) k
 |.P bb oo::r,s,k=>itL s λx s=>Ew x λc y=>Kv bb oo c<|dk r (.l y::s) k
 |.Z::r,s,k=>itC s λx s=>dk r s (k x)
 |.w::r,s,k=>dk r s (k ())
abbrev bk(cs:Aa):ABlk:=⟨cs,true,false⟩
abbrev Rw:=List Aa
abbrev Ag(D:Orc)(key:Key)(args:Aa)(bs:List ABlk)(p:List Ki)(k:Ct p):KR:=AT D key args bs λr o=>dk p [.v r,.o o] k
theorem DK:(∀(s:List It) (k:Ct []),dk [] s k=k)/\(∀(r:List Ki) (x:AV) (s:List It) (k:Ct (.b::r)),dk (.b::r) (.v x::s) k=Lr x λn=>dk r s (k n))/\(∀(r:List Ki) (x:AV) (s:List It) (k:Ct (.i::r)),dk (.i::r) (.v x::s) k=II .i64 x λn=>dk r s (k n))/\(∀(kd:IntKind) (r:List Ki) (x:AV) (s:List It) (k:Ct (.j kd::r)),dk (.j kd::r) (.v x::s) k=II kd x λn=>dk r s (k n))/\(∀(r:List Ki) (x:AV) (s:List It) (k:Ct (.s::r)),dk (.s::r) (.v x::s) k=P3 x λn=>dk r s (k n))/\(∀(r:List Ki) (x:AV) (s:List It) (k:Ct (.l::r)),dk (.l::r) (.v x::s) k=Lv x λn=>dk r s (k n))/\(∀(bb ee:Nat) (r:List Ki) (x:AV) (s:List It) (k:Ct (.q bb ee::r)),dk (.q bb ee::r) (.v x::s) k=VH bb ee x λn=>dk r s (k n))/\(∀(r:List Ki) (x:AV) (s:List It) (k:Ct (.t::r)),dk (.t::r) (.v x::s) k=Ky x λy=>dk r (.l y::s) k)/\(∀(r:List Ki) (x:AV) (s:List It) (k:Ct (.a::r)),dk (.a::r) (.v x::s) k=Me x λy=>dk r (.l y::s) k)/\(∀(bb oo:Nat) (r:List Ki) (x:AV) (s:List It) (k:Ct (.p bb oo::r)),dk (.p bb oo::r) (.v x::s) k=Kv bb oo x (dk r s k))/\(∀(g:Nat) (r:List Ki) (x:AV) (s:List It) (k:Ct (.f g::r)),dk (.f g::r) (.v x::s) k=YY g x (dk r s k))/\(∀(u:Value) (r:List Ki) (x:AV) (s:List It) (k:Ct (.c u::r)),dk (.c u::r) (.v x::s) k=P1 u x (dk r s k))/\(∀(r:List Ki) (x:AV) (s:List It) (k:Ct (.x::r)),dk (.x::r) (.v x::s) k=dk r s (k x))/\(∀(r:List Ki) (x:Aa) (s:List It) (k:Ct (.B::r)),dk (.B::r) (.l x::s) k=O7 x λn y=>dk r (.l y::s) (k n))/\(∀(r:List Ki) (x:Aa) (s:List It) (k:Ct (.I::r)),dk (.I::r) (.l x::s) k=M5 .i64 x λn y=>dk r (.l y::s) (k n))/\(∀(kd:IntKind) (r:List Ki) (x:Aa) (s:List It) (k:Ct (.J kd::r)),dk (.J kd::r) (.l x::s) k=M5 kd x λn y=>dk r (.l y::s) (k n))/\(∀(r:List Ki) (x:Aa) (s:List It) (k:Ct (.S::r)),dk (.S::r) (.l x::s) k=Xe x λn y=>dk r (.l y::s) (k n))/\(∀(r:List Ki) (x:Aa) (s:List It) (k:Ct (.L::r)),dk (.L::r) (.l x::s) k=cLs x λn y=>dk r (.l y::s) (k n))/\(∀(r:List Ki) (x:Aa) (s:List It) (k:Ct (.C::r)),dk (.C::r) (.l x::s) k=Ew x λz y=>dk r (.v z::.l y::s) k)/\(∀(r:List Ki) (x:Aa) (s:List It) (k:Ct (.N::r)),dk (.N::r) (.l x::s) k=E0 x (dk r s k))/\(∀(r:List Ki) (x:Aa) (s:List It) (k:Ct (.X::r)),dk (.X::r) (.l x::s) k=dk r s (k x))/\(∀(r:List Ki) (x:List BO) (s:List It) (k:Ct (.O::r)),dk (.O::r) (.o x::s) k=Ez x λz y=>dk r (.c z::.o y::s) k)/\(∀(r:List Ki) (x:List BO) (s:List It) (k:Ct (.E::r)),dk (.E::r) (.o x::s) k=CW x (dk r s k))/\(∀(r:List Ki) (x:List BO) (s:List It) (k:Ct (.Y::r)),dk (.Y::r) (.o x::s) k=dk r s (k x))/\(∀(r:List Ki) (x:List BO) (s:List It) (k:Ct (.T::r)),dk (.T::r) (.o x::s) k=Ez x λc y=>F7 true false c λz=>dk r (.l z::.o y::s) k)/\(∀(r:List Ki) (x:List BO) (s:List It) (k:Ct (.R::r)),dk (.R::r) (.o x::s) k=Ez x λc y=>F7 true true c λz=>dk r (.l z::.o y::s) k)/\(∀(r:List Ki) (x:List BO) (s:List It) (k:Ct (.D::r)),dk (.D::r) (.o x::s) k=Ez x λc y=>P2 c<|dk r (.o y::s) k)/\(∀(r:List Ki) (x:List BO) (s:List It) (k:Ct (.K::r)),dk (.K::r) (.o x::s) k=Ez x λc y=>Lu c<|dk r (.o y::s) k)/\(∀(r:List Ki) (x:Aa) (s:List It) (k:Ct (.A::r)),dk (.A::r) (.l x::s) k=Ew x λc y=>Me c λz=>dk r (.l z::.l y::s) k)/\(∀(bb oo:Nat) (r:List Ki) (x:Aa) (s:List It) (k:Ct (.P bb oo::r)),dk (.P bb oo::r) (.l x::s) k=Ew x λc y=>Kv bb oo c<|dk r (.l y::s) k)/\(∀(r:List Ki) (x:BO) (s:List It) (k:Ct (.Z::r)),dk (.Z::r) (.c x::s) k=dk r s (k x))/\(∀(r:List Ki) (s:List It) (k:Ct (.w::r)),dk (.w::r) s k=dk r s (k ())):=by
 and_intros<;>intros<;>rfl
section
variable {D:Orc}
theorem AnZ(x y:KR):br true x y=x:=Eq.trans (b:=x) rfl (Eq.refl x)
theorem Af{x y z:KR}(g:x=z):br true x y=z:=(AnZ x y).trans g
theorem AnY(x y:KR):br false x y=y:=Eq.trans (b:=y) rfl (Eq.refl y)
theorem Fv{x y z:KR}(g:y=z):br false x y=z:=(AnY x y).trans g
theorem AC(n:Nat)(k:Nat->KR):unI (n:Int) k=k n:=rfl
theorem AbD{α:Type}(f:α->Aa)(xs:List α)(i:Nat)(k:Aa->KR):Bh (xs.map f) i k=match xs[i]? with
  |some x=>k (f x)
  |none=>none:=by
 unfold Bh;rw[QP,List.getElem?_map]
 cases xs[i]?<;>rfl
theorem AD{α:Type}{f:α->Aa}{xs:List α}{i:Nat}{x:α}(h:xs[i]? = some x)(k:Aa->KR):Bh (xs.map f) i k=k (f x):=by
 rw[AbD,h]
theorem Ao{α:Type}(f:α->Aa)(xs:List α):Bb (xs.map f)=xs.length:=by rw[Gr,List.length_map]
theorem CN{key:Key}{args:Aa}{bs:List ABlk}{r:AV}{o:List BO}(h:D.ask key args bs=some (r,o))(k:AV->List BO->KR):AT D key args bs k=k r o:=by
 unfold AT;rw[h]
theorem Ab{D:Orc}{key:Key}{args:Aa}{bs:List ABlk}{r:AV}{o:List BO}{z:KR}{k:AV->List BO->KR}(h:D.ask key args bs=some (r,o))(g:k r o=z):AT D key args bs k=z:=(CN h k).trans g
theorem Ac3(n:Int)(k:Int->KR):II .i64 (iv n) k=k n:=rfl
theorem YV(n:Bool)(k:Bool->KR):Lr (bv n) k=k n:=rfl
theorem Ac4(n:ByteArray)(k:ByteArray->KR):P3 (sv n) k=k n:=rfl
theorem Aiz(n:Rw)(k:Rw->KR):Lv (.ls n) k=k n:=rfl
theorem YU(n:Aa)(k:Aa->KR):Me (.agg n) k=k n:=rfl
theorem Y2(n:Aa)(k:Aa->KR):Ky (.tup n) k=k n:=rfl
theorem AdE(n:Int)(r:Aa)(k:Int->Aa->KR):M5 .i64 (iv n::r) k=k n r:=rfl
theorem ZB(n:Bool)(r:Aa)(k:Bool->Aa->KR):O7 (bv n::r) k=k n r:=rfl
theorem AdF(n:ByteArray)(r:Aa)(k:ByteArray->Aa->KR):Xe (sv n::r) k=k n r:=rfl
theorem Ak1(n:Rw)(r:Aa)(k:Rw->Aa->KR):cLs (.ls n::r) k=k n r:=rfl
theorem YZ(k:KR):E0 [] k=k:=rfl
theorem TG(c:AV)(r:Aa)(k:AV->Aa->KR):Ew (c::r) k=k c r:=rfl
theorem YX(k:KR):CW [] k=k:=rfl
theorem VG(c:BO)(r:List BO)(k:BO->List BO->KR):Ez (c::r) k=k c r:=rfl
theorem TH(k:KR):Lu .keep k=k:=rfl
theorem YW(k:KR):P2 .del k=k:=rfl
theorem Y1(st ex:Bool)(cs:Aa)(k:Aa->KR):F7 st ex (.set ⟨cs,st,ex⟩) k=k cs:=by
 unfold F7;exact Ac ⟨rfl,rfl⟩
theorem Aiy(f:Nat)(k:KR):YY f (.fn (.func f) [] []) k=k:=by simp[YY]
theorem Y0(b o:Nat)(k:KR):Kv b o (.ptr b o) k=k:=by simp[Kv]
theorem AiA(b e n:Nat)(k:Nat->KR):VH b e (.sl b 0 n e) k=k n:=by simp[VH]
theorem Aqc:Bg 0 (bv true)=true:=rfl
theorem Aqb(n:Int):Bg 0 (iv n)=false:=rfl
theorem Ap9:Bg 1 (iv 0)=true:=rfl
theorem Aqa:Bg 3 (iv 2)=true:=rfl
theorem ND:(∀(n:Int) (k:Int->KR),II .i64 (iv n) k=k n)/\(∀(n:Bool) (k:Bool->KR),Lr (bv n) k=k n)/\(∀(n:ByteArray) (k:ByteArray->KR),P3 (sv n) k=k n)/\(∀(n:Rw) (k:Rw->KR),Lv (.ls n) k=k n)/\(∀(n:Aa) (k:Aa->KR),Me (.agg n) k=k n)/\(∀(n:Aa) (k:Aa->KR),Ky (.tup n) k=k n)/\(∀(n:Int) (r:Aa) (k:Int->Aa->KR),M5 .i64 (iv n::r) k=k n r)/\(∀(n:Bool) (r:Aa) (k:Bool->Aa->KR),O7 (bv n::r) k=k n r)/\(∀(n:ByteArray) (r:Aa) (k:ByteArray->Aa->KR),Xe (sv n::r) k=k n r)/\(∀(n:Rw) (r:Aa) (k:Rw->Aa->KR),cLs (.ls n::r) k=k n r)/\(∀(k:KR),E0 [] k=k)/\(∀(c:AV) (r:Aa) (k:AV->Aa->KR),Ew (c::r) k=k c r)/\(∀(k:KR),CW [] k=k)/\(∀(c:BO) (r:List BO) (k:BO->List BO->KR),Ez (c::r) k=k c r)/\(∀(st ex:Bool) (cs:Aa) (k:Aa->KR),F7 st ex (.set ⟨cs,st,ex⟩) k=k cs)/\(∀(k:KR),P2 .del k=k)/\(∀(k:KR),Lu .keep k=k)/\(∀(b o:Nat) (k:KR),Kv b o (.ptr b o) k=k)/\(∀(b e n:Nat) (k:Nat->KR),VH b e (.sl b 0 n e) k=k n)/\(Bg 0 (bv true)=true)/\(∀(n:Int),Bg 0 (iv n)=false)/\(Bg 1 (iv 0)=true)/\(∀(x y:KR),br true x y=x)/\(∀(x y:KR),br false x y=y):=⟨Ac3,YV,Ac4,Aiz,YU,Y2,AdE,ZB,AdF,Ak1,YZ,TG,YX,VG,Y1,YW,TH,Y0,AiA,Aqc,Aqb,Ap9,AnZ,AnY⟩
def Ai:=And.intro ND (And.intro DK Aiy)
end
instance:LawfulBEq ByteArray where
 eq_of_beq {a b} h:=by
  obtain⟨a⟩:=a;obtain⟨b⟩:=b;rw[HQ]at h;simpa using h
 rfl {a}:=by
  rw[HQ];simp
section
theorem Apw(a b:Int):Ah.lt a b=decide (a<b):=rfl
theorem Apv(a b:Int):Ah.le a b=decide (a<=b):=rfl
theorem Apu(a b:Int):Ah.eq a b=decide (a=b):=by
 show (a == b)=decide (a=b)
 rfl
theorem Apy(a b:ByteArray):Ah.seq a b=decide (a=b):=by
 show (a.toList == b.toList)=_
 rw[RM,HQ];obtain⟨a⟩:=a;obtain⟨b⟩:=b
 by_cases h:a=b
 .subst h;simp
 .simp[h]
theorem AbP(b:Bool):Ah.not b = !b:=rfl
theorem PP(a b:Bool):Ah.beq a b=(a == b):=rfl
theorem Apx(a b:Int):Ah.max a b=max a b:=by
 show (if a<b then b else a)=_
 omega
theorem Aky(a b:Int):Ah.min a b=min a b:=by
 show (if b<a then b else a)=_
 omega
theorem Fo{a b:Int}(h1:-9223372036854775808<=a+b)(h2:a+b<9223372036854775808):Ah.add .i64 a b=a+b:=by
 show IntKind.i64.wrap (a+b)=a+b
 rw[IntKind.wrap_i64];omega
theorem DL{a b:Int}(h1:-9223372036854775808<=a-b)(h2:a-b<9223372036854775808):Ah.sub .i64 a b=a-b:=by
 show IntKind.i64.wrap (a-b)=a-b
 rw[IntKind.wrap_i64];omega
theorem BE{i:Nat}(h:i<4611686018427387904):Ah.add .i64 (i:Int) 1=((i+1:Nat):Int):=by
 grind [Fo]
end
section
variable {α:Type}
def Aj(e:α->Aa)(l:List α):Aa:=l.flatMap e
theorem Bl(e:α->Aa)(l:List α)(x:α):Aj e l++e x=Aj e (l++[x]):=by simp[Aj]
theorem AR{e:α->Aa}{w:Nat}(he:∀ x,(e x).length=w):∀ l:List α,(Aj e l).length=l.length*w
 |[]=>by simp[Aj]
 |x::r=>by
  have:=AR he r;unfold Aj at this ⊢;rw[List.flatMap_cons,List.length_append,this,he,Ate,Nat.add_mul,Nat.one_mul,Nat.add_comm]
theorem Br{e:α->Aa}{w:Nat}(he:∀ x,(e x).length=w)(l:List α){n:Nat}(hn:n=l.length*w):(Aj e l).take n=Aj e l:=by
 simp_all [Auv,η,AR]
theorem CX{e:α->Aa}{w:Nat}(he:∀ x,(e x).length=w):∀ l:List α,Bk l.length w (Aj e l)=l.map e
 |[]=>rfl
 |x::r=>by
  have ih:=CX he r;simp only[Ate,Bk,List.map_cons];have h1:Aj e (x::r)=e x++Aj e r:=by simp[Aj]
  have h2:(e x).length=w:=he x;rw[h1,List.take_append_of_le_length (by omega),Auv (by omega),List.drop_append_of_le_length (by omega),List.drop_of_length_le (by omega),Atw,ih]
theorem BF{e:α->Aa}{w:Nat}(he:∀ x,(e x).length=w)(l:List α){n:Nat}(hn:n=l.length):Bk n w ((Aj e l).take (n*w))=l.map e:=by
 grind [CX,Br]
theorem AQ{e:α->Aa}{w:Nat}(he:∀ x,(e x).length=w)(l:List α){n:Nat}(hn:n=l.length*w):Atl n (Aj e l).length=true:=by
 rw[AR he,hn];simp
theorem JU{e:α->Aa}(he:∀ x,I9 (e x)=true):∀ l:List α,I9 (Aj e l)=true
 |[]=>rfl
 |x::r=>by
  have ih:=JU he r;have h1:Aj e (x::r)=e x++Aj e r:=by simp[Aj]
  rw[h1];rw[Fl]at ih ⊢;rw[List.all_append,ih,Bool.and_true,←Fl];exact he x
theorem EM(e:α->Aa)(l:List α):Ip (l.map e)=Aj e l:=by
 rw[Jt];rfl
theorem EJ{e:α->Aa}{w:Nat}(he:∀ x,(e x).length=w)(l:List α):Fs w (l.map e)=true:=by
 rw[HE];simp[he]
theorem AZ{n b:Nat}(hn:n<=1099511627776)(hb:b<=128):Bo n b=true:=by
 unfold Bo;have:n*b<=1099511627776*128:=Nat.mul_le_mul hn hb;have h1:Atl (n*b) 140737488355328=true:=by simp;omega
 rw[h1];simp[maxLen];omega
end
end Go.Proofs.YtpncilciembjdaaGreatDoor
