/- The same run with what c -/
import Derived.Test.YtpncilciembjdaaGreatDoorHAJ
set_option linter.all false
open List renaming append_nil->AwF,length_cons->γ,nil_append->Awv,take_of_length_le->Aw5
open Nat renaming beq->AwM,ble->Awf,blt->Aw0,eq_of_beq_eq_true->AwA,le_refl->π,lt_of_lt_of_le->AwZ,min->Axd
namespace Go.Proofs.YtpncilciembjdaaGreatDoor
open AV renaming tup->Awe
open Option.some renaming injEq->ψ
section
open Go.RowKit
abbrev KR:=Option (AV × List BO)
inductive Sh where
 |int (k:IntKind)
 |bool
 |str
 |ls
 |lp (l:List Sh)
 |agg (l:List Sh)
 |tup (l:List Sh)
 |sl (b e:Nat)
 |slo (b e:Nat)
 |ptr (b o:Nat)
 |cst (v:Value)
 |fnc (f:Nat)
 |any
inductive Os where
 |keep
 |del
 |row (st:Bool)
 |box (l:List Sh)
def br(b:Bool)(x y:KR):KR:=match b with
 |true=>x
 |false=>y
def unI(n:Int)(k:Nat->KR):KR:=match n with
 |.ofNat i=>k i
 |.negSucc _=>none
def Bw(xs:List Ab)(i:Nat)(k:Ab->KR):KR:=match US xs i with
 |some cs=>k cs
 |none=>none
def Ia(cells:Ab)(o n:Nat)(k:Ab->KR):KR:=match Awf (o+n) cells.length with
 |true=>k ((cells.drop o).take n)
 |false=>none
def AW(D:Orc)(key:Key)(args:Ab)(bs:List ABlk)(k:AV->List BO->KR):KR:=match D.ask key args bs with
 |some r=>k r.1 r.2
 |none=>none
def JD(kd:IntKind)(x:AV)(k:Int->KR):KR:=match x with
 |.v (.int k' n)=>if k'=kd then k n else none
 |_=>none
def Mp(x:AV)(k:Bool->KR):KR:=match x with
 |.v (.bool b)=>k b
 |_=>none
def Rz(x:AV)(k:ByteArray->KR):KR:=match x with
 |.v (.string s)=>k s
 |_=>none
def Mr(x:AV)(k:List Ab->KR):KR:=match x with
 |.ls xs=>k xs
 |_=>none
def Asv(x:AV)(k0:KR)(k:Ab->KR):KR:=match x with
 |.v (.pointer none)=>k0
 |.lp cs=>k cs
 |_=>none
def M7(x:AV)(k:Ab->KR):KR:=match x with
 |.agg cs=>k cs
 |_=>none
def PL(x:AV)(k:Ab->KR):KR:=match x with
 |.tup cs=>k cs
 |_=>none
def Xo(b e:Nat)(x:AV)(k:Nat->KR):KR:=match x with
 |.sl b' 0 n e'=>(match AwM b b',AwM e e' with
  |true,true=>k n
  |_,_=>none)
 |_=>none
def Ry(b e:Nat)(x:AV)(k:Nat->Nat->KR):KR:=match x with
 |.sl b' o n e'=>(match AwM b b',AwM e e' with
  |true,true=>k o n
  |_,_=>none)
 |_=>none
def Lv(b o:Nat)(x:AV)(k:KR):KR:=match x with
 |.ptr b' o'=>(match AwM b b',AwM o o' with
  |true,true=>k
  |_,_=>none)
 |_=>none
def AaM(f:Nat)(x:AV)(k:KR):KR:=match x with
 |.fn (.func g) [] []=>(match AwM f g with
  |true=>k
  |false=>none)
 |_=>none
def AlV:Value->Value->Bool
 |.slice none 0 0,.slice none 0 0=>true
 |.pointer none,.pointer none=>true
 |_,_=>false
def Rv(v:Value)(x:AV)(k:KR):KR:=match x with
 |.v u=>(match AlV v u with
  |true=>k
  |false=>none)
 |_=>none
def FQ(cs:Ab)(k:KR):KR:=match cs with
 |[]=>k
 |_::_=>none
def EE(cs:Ab)(k:AV->Ab->KR):KR:=match cs with
 |[]=>none
 |c::r=>k c r
def Ng(kd:IntKind)(cs:Ab)(k:Int->Ab->KR):KR:=match cs with
 |.v (.int k' n)::r=>if k'=kd then k n r else none
 |_=>none
def Qn(cs:Ab)(k:Bool->Ab->KR):KR:=match cs with
 |.v (.bool b)::r=>k b r
 |_=>none
def Zm(cs:Ab)(k:ByteArray->Ab->KR):KR:=match cs with
 |.v (.string s)::r=>k s r
 |_=>none
def cLs(cs:Ab)(k:List Ab->Ab->KR):KR:=match cs with
 |.ls xs::r=>k xs r
 |_=>none
def Gj(o:List BO)(k:BO->List BO->KR):KR:=match o with
 |[]=>none
 |c::r=>k c r
def D2(o:List BO)(k:KR):KR:=match o with
 |[]=>k
 |_::_=>none
def Mq(o:BO)(k:KR):KR:=match o with
 |.keep=>k
 |_=>none
def Rx(o:BO)(k:KR):KR:=match o with
 |.del=>k
 |_=>none
def IR(st ex:Bool)(o:BO)(k:Ab->KR):KR:=match o with
 |.set ⟨cs,st',ex'⟩=>if st'=st/\ex'=ex then k cs else none
 |_=>none
def BA(k:Nat)(x:AV):Bool:=match k,x with
 |0,.v (.bool true)=>true
 |i+1,.v (.int .i64 (.ofNat j))=>AwM i j
 |_,_=>false
mutual
def Dy:Sh->AV->(AV->KR)->KR
 |.int kd,x,K=>JD kd x λn=>K (.v (.int kd n))
 |.bool,x,K=>Mp x λb=>K (.v (.bool b))
 |.str,x,K=>Rz x λs=>K (.v (.string s))
 |.ls,x,K=>Mr x λxs=>K (.ls xs)
 |.lp l,x,K=>Asv x (K (.v (.pointer none))) λcs=>CR l cs λcs=>K (.lp cs)
 |.agg l,x,K=>M7 x λcs=>CR l cs λcs=>K (.agg cs)
 |.tup l,x,K=>PL x λcs=>CR l cs λcs=>K (.tup cs)
 |.sl b e,x,K=>Xo b e x λn=>K (.sl b 0 n e)
 |.slo b e,x,K=>Ry b e x λo n=>K (.sl b o n e)
 |.ptr b o,x,K=>Lv b o x (K (.ptr b o))
 |.cst v,x,K=>Rv v x (K (.v v))
 |.fnc f,x,K=>AaM f x (K (.fn (.func f) [] []))
 |.any,x,K=>K x
def CR:List Sh->Ab->(Ab->KR)->KR
 |[],cs,K=>FQ cs (K [])
 |.int kd::l,cs,K=>Ng kd cs λn r=>CR l r λr=>K (.v (.int kd n)::r)
 |.bool::l,cs,K=>Qn cs λn r=>CR l r λr=>K (.v (.bool n)::r)
 |.str::l,cs,K=>Zm cs λn r=>CR l r λr=>K (.v (.string n)::r)
 |.ls::l,cs,K=>cLs cs λn r=>CR l r λr=>K (.ls n::r)
 |s::l,cs,K=>EE cs λc r=>Dy s c λc=>CR l r λr=>K (c::r)
end
def FW:List Os->List BO->(List BO->KR)->KR
 |[],o,K=>D2 o (K [])
 |s::l,o,K=>Gj o λc r=>(match s with
  |.keep=>Mq c (FW l r λr=>K (.keep::r))
  |.del=>Rx c (FW l r λr=>K (.del::r))
  |.row st=>IR st true c λcs=>FW l r λr=>K (.set ⟨cs,st,true⟩::r)
  |.box m=>IR true false c λcs=>CR m cs λcs=>FW l r λr=>K (.set ⟨cs,true,false⟩::r))
inductive Sc where
 |n
 |b (x y:Sc)
 |t (x:Sc)
 |f (x:Sc)
def brS(s:Sc)(c:Bool)(x y:Sc->KR):KR:=match s with
 |.n=>br c (x .n) (y .n)
 |.b p q=>br c (x p) (y q)
 |.t p=>br c (x p) none
 |.f p=>br c none (y p)
def KM(α:Type):=AH->Sc->(α->AH->Foot->Sc->KR)->KR
namespace KM
variable {α β:Type}
def ret(a:α):KM α:=λH s k=>k a H ⟨[],[]⟩ s
def fail:KM α:=λ_ _ _=>none
def bind(m:KM α)(f:α->KM β):KM β:=λH s k=>m H s λa H1 f1 s=>f a H1 s λb H2 f2 s=>k b H2 ⟨f1.rd++f2.rd,f1.wr++f2.wr⟩ s
def gen(m:AM α):KM α:=λH s k=>match m H with
 |some (a,H',f)=>k a H' f s
 |none=>none
def opt:Option α->KM α
 |some a=>ret a
 |none=>fail
def brk(b:Bool)(x y:KM α):KM α:=λH s k=>brS s b (λs=>x H s k) (λs=>y H s k)
def test(b:Bool)(x:KM α):KM α:=λH s k=>br b (x H s k) none
def unI(n:Int)(f:Nat->KM α):KM α:=λH s k=>Go.Proofs.YtpncilciembjdaaGreatDoor.unI n λi=>f i H s k
def nth(xs:List Ab)(i:Nat)(f:Ab->KM α):KM α:=λH s k=>Bw xs i λcs=>f cs H s k
def rd(cells:Ab)(o n:Nat):KM Ab:=λH s k=>Ia cells o n λcs=>k cs H ⟨[],[]⟩ s
def exp(t:Sh)(x:AV):KM AV:=λH s k=>Dy t x λy=>k y H ⟨[],[]⟩ s
def expL(l:List Sh)(x:Ab):KM Ab:=λH s k=>CR l x λy=>k y H ⟨[],[]⟩ s
def expO(l:List Os)(x:List BO):KM (List BO):=λH s k=>FW l x λy=>k y H ⟨[],[]⟩ s
def ask(D:Orc)(key:Key)(args:Ab)(bs:List ABlk):KM (AV × List BO):=λH s k=>AW D key args bs λr o=>k (r,o) H ⟨[],[]⟩ s
def idx(x:AV)(f:Nat->KM α):KM α:=match x with
 |.v (.int _ n)=>unI n f
 |_=>fail
def idxO(n:Nat)(x:Option AV)(f:Nat->KM α):KM α:=match x with
 |some x=>idx x f
 |none=>f n
end KM
def Ba(n bytes:Nat):Bool:=match Awf (n*bytes) 140737488355328 with
 |true=>Awf n maxLen
 |false=>false
def HY(l h n:Nat):Bool:=match Awf l h with
 |true=>Awf h n
 |false=>false
structure Hnt where
 fn:List (Nat × (Sh × List Os))
 lp:List (Nat × List (Nat × (List Sh × List Os)))
 tm:List (Nat × List Sh)
def Cv{α:Type}(n:Nat):List (Nat × α)->Option α
 |[]=>none
 |(m,a)::r=>match AwM n m with
  |true=>some a
  |false=>Cv n r
section
variable (A:Ar) (D:Orc) (own:List (Nat × Nat)) (Hn:Hnt)
def tmK(d:Option Nat)(cs:Ab):KM Ab:=match d with
 |some d=>(match Cv d Hn.tm with
  |some l=>KM.expL l cs
  |none=>KM.ret cs)
 |none=>KM.ret cs
def YO(d:Option Nat)(a:AV)(n:Nat):KM Ab:=match a with
 |.ptr b o=>(KM.gen (AM.getB b)).bind λk=>(KM.rd k.cells o n).bind λcs=>match k.ex with
  |true=>tmK Hn d cs
  |false=>KM.ret cs
 |a=>KM.gen (rdAt a n)
def Adh(d:Option Nat)(row:Bool)(n:Nat)(a:AV):KM AV:=match row with
 |true=>(YO Hn d a n).bind λcs=>KM.ret (.agg cs)
 |false=>(YO Hn d a 1).bind λcs=>KM.opt (WH cs)
def Xg(n:Nat)(a x:AV):KM AV:=match a with
 |.ptr b o=>
  if x.cells.length=n/\x.cells.all AV.one=true then
   (KM.gen (AM.getB b)).bind λk=>if k.st=true/\(!k.ex||Bj x.cells)=true then KM.test (Awf (o+n) k.cells.length) ((KM.gen (AM.setB b { k with cells:=Bp k.cells o x.cells })).bind λ_=>KM.ret AV.undef) else KM.fail
  else KM.fail
 |_=>KM.fail
def Wm(d:Option Nat)(e:Nat)(x ix:AV):KM AV:=KM.idx ix λi=>match x with
 |.sl b o n e'=>KM.test (Aw0 i n) (if e'=e then KM.ret (.ptr b (o+i*e)) else KM.fail)
 |.ls xs=>KM.nth xs i λcs=>(tmK Hn d cs).bind λcs=>(match AwM cs.length e with
  |true=>KM.ret (.lp cs)
  |false=>KM.fail)
 |_=>KM.fail
def VH(n e:Nat)(x ix:AV):KM AV:=KM.idx ix λi=>KM.test (Aw0 i n) (KM.opt (O3 x (i*e)))
def Wo(d:Option Nat)(n e:Nat)(row:Bool)(sz:Nat)(x ix:AV):KM AV:=KM.idx ix λi=>match x with
 |.agg cs=>KM.test (Aw0 i n) ((KM.rd cs (i*e) (match row with
  |true=>sz
  |false=>1)).bind λxs=>(match row with
  |true=>KM.ret (.agg xs)
  |false=>KM.opt (WH xs)))
 |_=>KM.fail
def Xa(e:Nat)(x:AV)(lo hi:Option AV):KM AV:=match x with
 |.sl b o n e'=>KM.idxO 0 lo λl=>KM.idxO n hi λh=>KM.test (HY l h n) (match AwM e' e with
  |true=>KM.ret (.sl b (o+l*e) (h-l) e)
  |false=>KM.fail)
 |.ls xs=>KM.idxO 0 lo λl=>KM.idxO (AT xs) hi λh=>KM.test (HY l h (AT xs)) (KM.test (EG e xs) (KM.ret (.ls (HL (HT xs h) l))))
 |_=>KM.fail
def Anl(b:BinOp)(x y:AV):KM AV:=match x,y with
 |.v (.int k a),.v (.int k' c)=>(match b with
  |.shl=>KM.brk (A.lt c 0) KM.fail (KM.ret (.v (.int k (A.shl k a c))))
  |.shr=>KM.brk (A.lt c 0) KM.fail (KM.ret (.v (.int k (A.shr k a c))))
  |.quo=>if k=k' then KM.brk (A.eq c 0) KM.fail (KM.ret (.v (.int k (A.quo k a c)))) else KM.fail
  |.rem=>if k=k' then KM.brk (A.eq c 0) KM.fail (KM.ret (.v (.int k (A.rem k a c)))) else KM.fail
  |.neq=>if k=k' then KM.brk (A.eq a c) (KM.ret (.v (.bool false))) (KM.ret (.v (.bool true))) else KM.fail
  |b=>KM.opt (KC A b (.v (.int k a)) (.v (.int k' c))))
 |.v (.string a),.v (.string c)=>(match b with
  |.add=>KM.test (Awf (A.slen a+A.slen c) 9223372036854775807) (KM.ret (.v (.string (A.cat a c))))
  |.neq=>KM.brk (A.seq a c) (KM.ret (.v (.bool false))) (KM.ret (.v (.bool true)))
  |b=>KM.opt (KC A b (.v (.string a)) (.v (.string c))))
 |x,y=>KM.opt (KC A b x y)
def Aem(x i:AV):KM AV:=match x with
 |.v (.string s)=>KM.idx i λi=>KM.test (Aw0 i (A.slen s)) (KM.ret (.v (.int .u8 (A.sat s i))))
 |_=>KM.fail
def S4(x:AV)(lo hi:Option AV):KM AV:=match x with
 |.v (.string s)=>KM.idxO 0 lo λl=>KM.idxO (A.slen s) hi λh=>KM.test (HY l h (A.slen s)) (KM.ret (.v (.string (A.ssub s l h))))
 |_=>KM.fail
def YD(e:Nat)(x:AV):KM (Nat × Ab):=match x with
 |.sl b o n e'=>if e'=e then(KM.gen (AM.getB b)).bind λk=>KM.test (Awf (o+n*e) k.cells.length) (match (k.ex||Bj ((k.cells.drop o).take (n*e))) with
   |true=>KM.ret (n,(k.cells.drop o).take (n*e))
   |false=>KM.fail)
   else KM.fail
 |.ls xs=>KM.test (EG e xs) (KM.ret (AT xs,E8 xs))
 |.v (.slice none 0 0)=>KM.ret (0,[])
 |_=>KM.fail
def Ali(e bytes:Nat)(s:AV)(m:Nat)(xs:Ab):KM AV:=match s with
 |.v (.slice none 0 0)=>KM.test (Ba m bytes) ((KM.gen (AM.newB ⟨xs,true,true⟩)).bind λb=>KM.ret (.sl b 0 m e))
 |.sl b o n e'=>(match AwM e' e with
  |true=>KM.test (Ba (n+m) bytes) ((KM.gen (AM.getB b)).bind λk=>match k.ex,k.st with
   |true,true=>KM.test (Awf (o+n*e) k.cells.length) ((KM.gen (AM.delB b)).bind λ_=>(KM.gen (AM.newB ⟨(k.cells.take (o+n*e)).drop o++xs,true,true⟩)).bind λb'=>KM.ret (.sl b' 0 (n+m) e))
   |true,false=>KM.test (AwM (o+n*e) k.cells.length) ((KM.gen (AM.setB b { k with ex:=false })).bind λ_=>(KM.gen (AM.newB ⟨(k.cells.take (o+n*e)).drop o++xs,false,true⟩)).bind λb'=>KM.ret (.sl b' 0 (n+m) e))
   |_,_=>KM.fail)
  |false=>KM.fail)
 |_=>KM.fail
def Xx(e bytes:Nat)(s:AV)(r:Nat × Ab):KM AV:=KM.brk (AwM r.1 0) (if P5 s=true then KM.ret s else KM.fail) (KM.test (Gv r.2) (Ali e bytes s r.1 r.2))
def ApS(e bytes:Nat)(s x:AV):KM AV:=(YD e x).bind λr=>Xx e bytes s r
def Abb(z:AO)(e bytes:Nat)(s x:AV):KM AV:=KM.idx x λm=>KM.test (Awf m 9223372036854775807) (Xx e bytes s (m,Ch (z.map .v) (m*e)))
def Ado(z:AO)(e bytes:Nat)(l c:AV):KM AV:=KM.idx l λn=>KM.idx c λm=>KM.test (Awf n m) (KM.test (Ba m bytes) ((KM.gen (AM.newB ⟨Ch (z.map .v) (n*e),true,true⟩)).bind λb=>KM.ret (.sl b 0 n e)))
def Anu(e:Nat)(d x:AV):KM AV:=match d with
 |.sl b o n e'=>(match AwM e' e with
  |true=>(YD e x).bind λr=>KM.test (Gv (r.2.take (Axd r.1 n*e))) ((KM.gen (AM.getB b)).bind λk=>match k.st with
    |true=>KM.test (Awf (o+n*e) k.cells.length) ((KM.gen (AM.setB b { k with cells:=Bp k.cells o (r.2.take (Axd r.1 n*e)) })).bind λ_=>KM.ret (.v (.int .i64 (Int.ofNat (Axd r.1 n)))))
    |false=>KM.fail)
  |false=>KM.fail)
 |_=>KM.fail
def Ans(z:AO)(e:Nat)(x:AV):KM AV:=match x with
 |.sl b o n e'=>(match AwM e' e with
  |true=>(KM.gen (AM.getB b)).bind λk=>match k.st with
   |true=>KM.test (Awf (o+n*e) k.cells.length) ((KM.gen (AM.setB b { k with cells:=Bp k.cells o (Ch (z.map .v) (n*e)) })).bind λ_=>KM.ret (.tup []))
   |false=>KM.fail
  |false=>KM.fail)
 |_=>KM.fail
mutual
def TV:Nat->AV->KM AV
 |0,x=>KM.gen (frz0 x)
 |n+1,x=>match x with
  |.v z=>KM.ret (Adt z)
  |.sl b o m e=>(KM.gen (AM.getB b)).bind λk=>KM.test (Awf (o+m*e) k.cells.length) ((match k.st with
    |true=>KM.gen (AM.setB b { k with st:=false })
    |false=>KM.ret ()).bind λ_=>match (k.ex||Bj ((k.cells.drop o).take (m*e))) with
     |true=>KM.ret (.ls (Bo m e ((k.cells.drop o).take (m*e))))
     |false=>(KP n ((k.cells.drop o).take (m*e))).bind λcs=>match Bj cs with
      |true=>KM.ret (.ls (Bo m e cs))
      |false=>KM.fail)
  |.agg cs=>(KP n cs).bind λcs=>KM.ret (.agg cs)
  |.tup cs=>(KP n cs).bind λcs=>KM.ret (.tup cs)
  |x=>KM.ret x
def KP:Nat->Ab->KM Ab
 |_,[]=>KM.ret []
 |0,_::_=>KM.fail
 |n+1,x::r=>(TV n x).bind λx=>(KP n r).bind λr=>KM.ret (x::r)
end
def Aco(b:Nat):KM Unit:=(KM.gen (AM.getB b)).bind λk=>match k.ex,k.st with
 |false,true=>(KP 1000 k.cells).bind λcs=>(KM.gen (AM.getB b)).bind λk2=>(match k2.ex,AwM cs.length k2.cells.length with
  |false,true=>KM.gen (AM.setB b { k2 with cells:=cs })
  |_,_=>KM.fail)
 |_,_=>KM.ret ()
def KQ:Af->Ab->KM Ab
 |[],T=>KM.ret T
 |t::r,T=>match T[t]? with
  |some (.ptr b _)=>(Aco b).bind λ_=>KQ r T
  |some x=>(TV 1000 x).bind λy=>KQ r (T.set t y)
  |none=>KQ r T
def QF(f:Nat):Nat->Ab->KM Ab
 |_,[]=>KM.ret []
 |i,x::r=>match AdD own f i with
  |true=>(QF f (i+1) r).bind λr=>KM.ret (x::r)
  |false=>(TV 1000 x).bind λx=>(QF f (i+1) r).bind λr=>KM.ret (x::r)
def RV(key:Key)(e:AV × List BO->KM (AV × List BO))(args:Ab):KM AV:=
 (KM.gen (trav 4096 (E0 args) [])).bind λL=>(KM.gen (readAll L)).bind λbs=>
  ((KM.ask D key (H8 (λb=>idx b L) args) (bs.map (ABlk.ren λb=>idx b L))).bind e).bind λr=>
    match PY r.2.length r.1.ids,Tv r.2.length r.2 with
    |true,true=>(KM.gen nextB).bind λn=>(KM.gen (writeAll (HK L n) L r.2)).bind λout=>(KM.gen (newAll (HK L n) out)).bind λ_=>KM.ret (r.1.ren (HK L n))
    |_,_=>KM.fail
def ansF(f:Nat)(r:AV × List BO):KM (AV × List BO):=match Cv f Hn.fn with
 |some (s,l)=>(KM.exp s r.1).bind λx=>(KM.expO l r.2).bind λo=>KM.ret (x,o)
 |none=>KM.ret r
def RW(f:FuncId)(args:Ab):KM AV:=(QF own f 0 args).bind λl=>RV D (.fn f) (ansF Hn f) l
def Abg:Nat->AV
 |0=>.v (.bool true)
 |i+1=>.v (.int .i64 (Int.ofNat i))
def ansX:List (Nat × (List Sh × List Os))->AV->Ab->List BO->KM (AV × List BO)
 |[],_,_,_=>KM.fail
 |(k,s,l)::r,x,ys,o=>KM.brk (BA k x) ((KM.expL s ys).bind λys=>(KM.expO l o).bind λo=>KM.ret (.tup (Abg k::ys),o)) (ansX r x ys o)
def ansL(i:Nat)(r:AV × List BO):KM (AV × List BO):=match Cv i Hn.lp with
 |some l=>λH s k=>PL r.1 λcs=>EE cs λx ys=>ansX l x ys r.2 H s k
 |none=>KM.ret r
def WB(f i:Nat)(xs:Ab):KM (AX × Ab):=(RV D (.lp f i) (ansL Hn i) xs).bind λr=>match r with
 |.tup (x::ys)=>(match VL x with
  |some ax=>KM.ret (ax,ys)
  |none=>KM.fail)
 |_=>KM.fail
def opK(d:Option Nat)(o:MO)(T:Ab):KM AV:=match o with
 |.pick c a b=>(match Bl T c with
  |.v (.bool t)=>KM.brk t (KM.ret (Bl T a)) (KM.ret (Bl T b))
  |_=>KM.fail)
 |.ld row n a=>Adh Hn d row n (Bl T a)
 |.st n a x=>Xg n (Bl T a) (Bl T x)
 |.bin ek b x y=>(match ek with
  |0=>Anl A b (Bl T x) (Bl T y)
  |ek=>KM.opt (AfC A ek b (Bl T x) (Bl T y)))
 |.slice e x lo hi=>Xa e (Bl T x) (lo.map (Bl T)) (hi.map (Bl T))
 |.iaddr e x i=>Wm Hn d e (Bl T x) (Bl T i)
 |.aaddr n e x i=>VH n e (Bl T x) (Bl T i)
 |.index n e row sz x i=>Wo d n e row sz (Bl T x) (Bl T i)
 |.mksl z e bytes l c=>Ado z e bytes (Bl T l) (Bl T c)
 |.app e bytes s x=>ApS e bytes (Bl T s) (Bl T x)
 |.appz z e bytes s x=>Abb z e bytes (Bl T s) (Bl T x)
 |.cpy e d x=>Anu e (Bl T d) (Bl T x)
 |.clr z e x=>Ans z e (Bl T x)
 |.sidx x i=>Aem A (Bl T x) (Bl T i)
 |.sslice x lo hi=>S4 A (Bl T x) (lo.map (Bl T)) (hi.map (Bl T))
 |.callF f args=>RW D own Hn f (P9 T args)
 |.callV ents x args=>(match Bl T x with
  |.fn (.func g) a cs=>(match ents.testBit g with
   |true=>RW D own Hn g (a++P9 T args++cs)
   |false=>KM.fail)
  |_=>KM.fail)
 |o=>KM.gen (mop A (λ_ _=>AM.fail) o T)
def Abw(o:MOp)(T:Ab):KM AV:=match o.g with
 |none=>opK A D own Hn o.dst o.op T
 |some (d,want)=>(match T[d]? with
  |some (.v (.bool b))=>KM.brk (match want with
   |true=>b
   |false=>A.not b) (opK A D own Hn o.dst o.op T) (KM.ret AV.undef)
  |some (.v (.tuple _))=>KM.ret AV.undef
  |_=>KM.fail)
def AnO(v:Value)(k:Value->KR):KR:=match v with
 |.int kd n=>k (.int kd n)
 |.bool b=>k (.bool b)
 |.string s=>k (.string s)
 |.tuple t=>k (.tuple t)
 |v=>k v
theorem AfZ(v:Value)(k:Value->KR):AnO v k=k v:=by
 unfold AnO;split<;>rfl
def gL(f:AV->(AV->KR)->KR)(l:Ab)(k:Ab->KR):KR:=match l with
 |[]=>k []
 |x::r=>f x λx=>gL f r λr=>k (x::r)
theorem Alh{f:AV->(AV->KR)->KR}(hf:∀ x k,f x k=k x):∀(l:Ab) (k:Ab->KR),gL f l k=k l
 |[],_=>rfl
 |x::r,k=>by simp only[gL,hf,Alh hf r]
def gAV(d:Nat)(x:AV)(k:AV->KR):KR:=match d with
 |0=>k x
 |d+1=>match x with
  |.v x=>AnO x λx=>k (.v x)
  |.ptr b o=>k (.ptr b o)
  |.sl b o n e=>k (.sl b o n e)
  |.ls xs=>k (.ls xs)
  |.lp cs=>gL (gAV d) cs λcs=>k (.lp cs)
  |.agg cs=>gL (gAV d) cs λcs=>k (.agg cs)
  |.tup cs=>gL (gAV d) cs λcs=>k (.tup cs)
  |.fn f a c=>gL (gAV d) a λa=>gL (gAV d) c λc=>k (.fn f a c)
  |.any=>k .any
theorem Acq:∀(d:Nat) (x:AV) (k:AV->KR),gAV d x k=k x
 |0,_,_=>rfl
 |d+1,x,k=>by cases x<;>simp only[gAV,AfZ,Alh (Acq d)]
def gB(e:Bool)(x:AV)(s:Sc)(k:AV->Sc->KR):KR:=match e,x with
 |true,.v (.bool b)=>brS s b (λs=>k (.v (.bool true)) s) (λs=>k (.v (.bool false)) s)
 |_,x=>k x s
def AnI:MO->Bool
 |.mv _=>false
 |.ld _ _ _=>false
 |.field _ _ _ _=>false
 |.ext _ _=>false
 |_=>true
def gSp{β:Type}(l:List β)(k:List β->KR):KR:=match l with
 |[]=>k []
 |x::r=>gSp r λr=>k (x::r)
theorem Wg{β:Type}:∀(l:List β) (k:List β->KR),gSp l k=k l
 |[],_=>rfl
 |x::r,k=>by simp only[gSp,Wg r]
def gBl(l:List (Nat × ABlk))(k:List (Nat × ABlk)->KR):KR:=match l with
 |[]=>k []
 |(b,⟨cs,st,ex⟩)::r=>gBl r λr=>k ((b,⟨cs,st,ex⟩)::r)
theorem Acr:∀(l:List (Nat × ABlk)) (k:List (Nat × ABlk)->KR),gBl l k=k l
 |[],_=>rfl
 |(b,⟨cs,st,ex⟩)::r,k=>by simp only[gBl,Acr r]
def gH(H:AH)(k:AH->KR):KR:=match H with
 |⟨l,n,t⟩=>gBl l λl=>k ⟨l,n,t⟩
theorem Aqr(H:AH)(k:AH->KR):gH H k=k H:=by
 simp_all [gH,Acr]
def gFt(f:Foot)(k:Foot->KR):KR:=match f with
 |⟨rd,wr⟩=>gSp rd λrd=>gSp wr λwr=>k ⟨rd,wr⟩
theorem AnJ(f:Foot)(k:Foot->KR):gFt f k=k f:=by
 simp_all [gFt,Wg]
def Akq:List MOp->Ab->AH->Sc->(Ab->AH->List Foot->Sc->KR)->KR
 |[],T,H,s,k=>k T H [] s
 |o::r,T,H,s,k=>Abw A D own Hn o T H s λv H f s=>gAV 3 v λv=>gB (AnI o.op) v s λv s=>gSp (CI T o.dst v) λT=>gFt f λf=>gH H λH=>Akq r T H s λT H fs s=>k T H (f::fs) s
def Apl(ops:List MOp)(bf:Option (Af))(T:Ab):KM (AX × Ab):=λH s k=>Akq A D own Hn ops T H s λT H fs s=>match bf with
 |none=>k (.normal,T) H ⟨fs.flatMap (·.rd),fs.flatMap (·.wr)⟩ s
 |some bf=>(match Fa bf fs with
  |true=>k (.normal,T) H ⟨fs.flatMap (·.rd),fs.flatMap (·.wr)⟩ s
  |false=>none)
def evK(f:Nat):MC->Ab->KM (AX × Ab)
 |.skip,T=>KM.ret (.normal,T)
 |.reg ops bf,T=>Apl A D own Hn ops bf T
 |.seq a b,T=>(evK f a T).bind λr=>match r.1 with
  |.normal=>evK f b r.2
  |ax=>KM.ret (ax,r.2)
 |.cond c a b,T=>(match Bl T c with
  |.v (.bool t)=>KM.brk t (evK f a T) (evK f b T)
  |_=>KM.fail)
 |.block id c,T=>(evK f c T).bind λr=>match r.1 with
  |.exit i=>if i=id then KM.ret (.normal,r.2) else KM.ret (.exit i,r.2)
  |ax=>KM.ret (ax,r.2)
 |.loop i h,T=>(KM.gen (adoptM h.ad T)).bind λT=>(KQ h.fz T).bind λT=>match AwM T.length h.n with
  |true=>(WB D Hn f i (CP h.live T)).bind λr=>KM.ret (r.1,Cq (h.out r.1) h.n r.2)
  |false=>KM.fail
 |.exit id,T=>KM.ret (.exit id,T)
 |.ret,T=>KM.ret (.ret,T)
 |.bad,_=>KM.fail
def Ad2(T:Ab):List MRes->KM Ab
 |[]=>KM.ret []
 |.tmp t::r=>(Ad2 T r).bind λl=>KM.ret ((T[t]?).getD AV.undef::l)
 |.cell x row n::r=>(Adh Hn none row n ((T[x]?).getD AV.undef)).bind λv=>(Ad2 T r).bind λl=>KM.ret (v::l)
def Oq(n:Nat)(r:AV)(H:AH)(ft:Foot):KR:=
 match (Ez 0 n).map (WK H ft.wr)++(Ez n (H.next-n)).map (Aj0 H) with
 |out=>(match Gr n out 4096 (r.ids++Wn (JB out n)) []with
  |none=>none
  |some acc=>some (r.ren (ZD n acc),AdY (ZD n acc) (JB out n)++UV (ZD n acc) out acc))
def B3(s:Sc)(f:Nat)(mf:MFn)(args:Ab)(bs:List ABlk):KR:=((evK A D own Hn f mf.body (Sb mf.nt args)).bind λr=>match r.1 with
 |.exit _=>KM.fail
 |.goto _=>KM.fail
 |_=>(Ad2 Hn r.2 mf.res).bind λl=>(match mf.own with
  |true=>KM.ret (Jn l)
  |false=>TV 1000 (Jn l)).bind λv=>match mf.tch with
   |true=>(KM.gen (touchI (E0 args))).bind λ_=>KM.ret v
   |false=>KM.ret v) ⟨Ds 0 bs,bs.length,none⟩ s λv H ft _=>Oq bs.length v H ft
def Ady(n:Nat):Af->Af
 |[]=>[]
 |x::r=>match Aw0 x n,FT x r with
  |true,false=>x::Ady n r
  |_,_=>Ady n r
def AS(n:Nat)(L:Af)(H:AH)(wr:Af)(r:AV)(o:List BO):KR:=match PY o.length r.ids,Tv o.length o with
 |true,true=>(match (nextB.bind λn=>(writeAll (HK L n) L o).bind λout=>(newAll (HK L n) out).bind λ_=>AM.ret (r.ren (HK L n))) H with
  |some (.tup (x::ys),H',f)=>(match VL x with
   |some ax=>Oq n (.tup (axA ax::ys)) H' ⟨[],wr++f.wr⟩
   |none=>none)
  |_=>none)
 |_,_=>none
def Apk(f i:Nat)(xs:Ab)(H:AH)(ft:Foot)(n:Nat):KR:=match trav 4096 (E0 xs) [] H with
 |some (L,_,f1)=>(match readAll L H with
  |some (bs,_,f2)=>AW D (.lp f i) (H8 (λb=>idx b L) xs) (bs.map (ABlk.ren λb=>idx b L)) λr o=>AS n L H (Ady n (ft.wr++(f1.wr++f2.wr))) r o
  |none=>none)
 |none=>none
def Dc(s:Sc)(f i:Nat)(h:LpH)(c:MC)(xs:Ab)(bs:List ABlk):KR:=evK A D own Hn f c (Cq h.live h.n xs) ⟨Ds 0 bs,bs.length,none⟩ s λr H ft s=>match r.1 with
 |.normal=>KQ h.fz r.2 H s λT H g _=>Apk D f i (CP h.live T) H ⟨ft.rd++g.rd,ft.wr++g.wr⟩ bs.length
 |.goto _=>none
 |ax=>((KQ (h.fzo ax) r.2).bind λT=>(KM.gen (delT (h.dlo ax) T)).bind λ_=>(KM.gen (touchA (h.nt ax) (CP (h.out ax) T))).bind λys=>KM.ret (.tup (axA ax::ys))) H s λv H f _=>Oq bs.length v H ⟨ft.rd++f.rd,ft.wr++f.wr⟩
end
end
section
open Go.RowKit
def SK{α:Type}(m:AM α)(mK:KM α):Prop:=∀ H s k r,mK H s k=some r->∃ a H' f s',m H=some (a,H',f)/\k a H' f s'=some r
section
variable {α β:Type}
theorem SK.ret(a:α):SK (AM.ret a) (KM.ret a):=λH s k r h=>⟨a,H,⟨[],[]⟩,s,rfl,h⟩
theorem SK.fail(m:AM α):SK m (KM.fail):=λH s k r h=>by cases h
theorem SK.gen(m:AM α):SK m (KM.gen m):=λH s k r h=>by
 grind [KM.gen]
theorem SK.opt:∀ o:Option α,SK (AM.opt o) (KM.opt o)
 |some a=>SK.ret a
 |none=>SK.fail _
theorem SK.bind{m:AM α}{mK:KM α}{f:α->AM β}{fK:α->KM β}(hm:SK m mK)(hf:∀ a,SK (f a) (fK a)):SK (m.bind f) (mK.bind fK):=λH s k r h=>by
 obtain⟨a,H1,f1,s1,h1,h2⟩:=hm H s _ r h;obtain⟨b,H2,f2,s2,h3,h4⟩:=hf a H1 s1 _ r h2;refine⟨b,H2,_,s2,?_,h4⟩;unfold AM.bind;simp only[h1,h3]
theorem KD{b:Bool}{x y:KR}{r:AV × List BO}(h:br b x y=some r):(b=true/\x=some r)\/(b=false/\y=some r):=by
 cases b
 .exact .inr ⟨rfl,h⟩
 .exact .inl ⟨rfl,h⟩
theorem Tw{s:Sc}{c:Bool}{x y:Sc->KR}{r:AV × List BO}(h:brS s c x y=some r):∃ s',(c=true/\x s'=some r)\/(c=false/\y s'=some r):=by
 unfold brS at h;split at h
 .grind [KD]
 .grind [KD]
 .grind [KD]
 .grind [KD]
theorem SK.brk{b:Bool}{m:AM α}{x y:KM α}(hx:b=true->SK m x)(hy:b=false->SK m y):SK m (KM.brk b x y):=λH s k r h=>by
 obtain⟨s',⟨e,h⟩|⟨e,h⟩⟩:=Tw h
 .exact hx e H s' k r h
 .exact hy e H s' k r h
theorem SK.test{b:Bool}{m:AM α}{x:KM α}(hx:b=true->SK m x):SK m (KM.test b x):=λH s k r h=>by
 rcases KD h with⟨e,h⟩|⟨e,h⟩
 .exact hx e H s k r h
 .cases h
theorem SK.unI{n:Int}{m:AM α}{f:Nat->KM α}(hf:∀ i,n=.ofNat i->SK m (f i)):SK m (KM.unI n f):=λH s k r h=>by
 unfold KM.unI Go.Proofs.YtpncilciembjdaaGreatDoor.unI at h
 cases n with
 |ofNat i=>exact hf i rfl H s k r h
 |negSucc i=>cases h
theorem SK.idx{x:AV}{m:AM α}{f:Nat->KM α}(hf:∀ i,x.idx=some i->SK m (f i)):SK m (KM.idx x f):=by
 unfold KM.idx;split
 .exact SK.unI λi e=>hf i (by rw[e];rfl)
 .exact SK.fail _
theorem SK.idxO{n:Nat}{x:Option AV}{m:AM α}{f:Nat->KM α}(hf:∀ i,Nl n x=some i->SK m (f i)):SK m (KM.idxO n x f):=by
 unfold KM.idxO
 cases x with
 |none=>exact hf n rfl
 |some x=>exact SK.idx λi e=>hf i e
theorem SK.nth{xs:List Ab}{i:Nat}{m:AM α}{f:Ab->KM α}(hf:∀ cs,US xs i=some cs->SK m (f cs)):SK m (KM.nth xs i f):=λH s k r h=>by
 unfold KM.nth Bw at h;split at h
 .exact hf _ ‹_› H s k r h
 .cases h
theorem SK.rd{cells:Ab}{o n:Nat}{f:Ab->AM β}{fK:Ab->KM β}{m:AM β}(hm:o+n<=cells.length->m=f ((cells.drop o).take n))(hf:∀ cs,SK (f cs) (fK cs)):SK m ((KM.rd cells o n).bind fK):=λH s k r h=>by
 unfold KM.bind KM.rd Ia at h;split at h
 .rename_i e
  rw[hm (by simpa using e)];exact hf _ H s _ r (by simpa using h)
 .cases h
end
mutual
theorem MH:∀(s:Sh) (x:AV) {K:AV->KR} {r:AV × List BO},Dy s x K=some r->K x=some r
 |.int kd,x,K,r,h=>by
  simp only[Dy,JD]at h;split at h
  .split at h
   .rename_i e;rw[←e]at h;exact h
   .cases h
  .cases h
 |.bool,x,K,r,h=>by
  simp only[Dy,Mp]at h;split at h
  .exact h
  .cases h
 |.str,x,K,r,h=>by
  simp only[Dy,Rz]at h;split at h
  .exact h
  .cases h
 |.ls,x,K,r,h=>by
  simp only[Dy,Mr]at h;split at h
  .exact h
  .cases h
 |.lp l,x,K,r,h=>by
  simp only[Dy,Asv]at h;split at h
  .exact h
  .exact Cw l _ h
  .cases h
 |.agg l,x,K,r,h=>by
  simp only[Dy,M7]at h;split at h
  .exact Cw l _ h
  .cases h
 |.tup l,x,K,r,h=>by
  simp only[Dy,PL]at h;split at h
  .exact Cw l _ h
  .cases h
 |.slo b e,x,K,r,h=>by
  simp only[Dy,Ry]at h;split at h
  .split at h
   .rename_i e1 e2
    have e1:b=_:=AwA e1;have e2:e=_:=AwA e2;rw[←e1,←e2];exact h
   .cases h
  .cases h
 |.sl b e,x,K,r,h=>by
  simp only[Dy,Xo]at h;split at h
  .split at h
   .rename_i e1 e2
    have e1:b=_:=AwA e1;have e2:e=_:=AwA e2;rw[←e1,←e2];exact h
   .cases h
  .cases h
 |.ptr b o,x,K,r,h=>by
  simp only[Dy,Lv]at h;split at h
  .split at h
   .rename_i e1 e2
    have e1:b=_:=AwA e1;have e2:o=_:=AwA e2;rw[←e1,←e2];exact h
   .cases h
  .cases h
 |.cst v,x,K,r,h=>by
  simp only[Dy,Rv]at h;split at h
  .rename_i u
   split at h
   .rename_i e
    have:v=u:=by
     unfold AlV at e;split at e
     .rfl
     .rfl
     .cases e
    rw[←this];exact h
   .cases h
  .cases h
 |.fnc f,x,K,r,h=>by
  simp only[Dy,AaM]at h;split at h
  .split at h
   .rename_i e
    have:=AwA e;subst this;exact h
   .cases h
  .cases h
 |.any,x,K,r,h=>by simpa only[Dy]using h
theorem Cw:∀(l:List Sh) (cs:Ab) {K:Ab->KR} {r:AV × List BO},CR l cs K=some r->K cs=some r
 |[],cs,K,r,h=>by
  simp only[CR,FQ]at h;split at h
  .exact h
  .cases h
 |s::l,cs,K,r,h=>by
  have gen:(EE cs λc r=>Dy s c λc=>CR l r λr=>K (c::r))=some r->K cs=some r:=λh=>by
   simp only[EE]at h;split at h
   .cases h
   .have:=Cw l _ (MH s _ h)
    exact this
  cases s with
  |int kd=>
   simp only[CR,Ng]at h;split at h
   .split at h
    .rename_i e
     have:=Cw l _ h;rw[←e]at this;exact this
    .cases h
   .cases h
  |bool=>
   simp only[CR,Qn]at h;split at h
   .have:=Cw l _ h
    exact this
   .cases h
  |str=>
   simp only[CR,Zm]at h;split at h
   .have:=Cw l _ h
    exact this
   .cases h
  |ls=>
   simp only[CR,cLs]at h;split at h
   .have:=Cw l _ h
    exact this
   .cases h
  |_=>
   simp only[CR]at h;exact gen h
end
theorem Er:∀(l:List Os) (o:List BO) {K:List BO->KR} {r:AV × List BO},FW l o K=some r->K o=some r
 |[],cs,K,r,h=>by
  simp only[FW,D2]at h;split at h
  .exact h
  .cases h
 |s::l,o,K,r,h=>by
  simp only[FW,Gj]at h;split at h
  .cases h
  .cases s with
   |keep=>
    simp only[Mq]at h;split at h
    .have:=Er l _ h
     exact this
    .cases h
   |del=>
    simp only[Rx]at h;split at h
    .have:=Er l _ h
     exact this
    .cases h
   |row st=>
    simp only[IR]at h;split at h
    .split at h
     .rename_i e
      obtain⟨rfl,rfl⟩:=e;have:=Er l _ h;exact this
     .cases h
    .cases h
   |box m=>
    simp only[IR]at h;split at h
    .split at h
     .rename_i e
      obtain⟨rfl,rfl⟩:=e;have:=Er l _ (Cw m _ h);exact this
     .cases h
    .cases h
theorem SK.exp(t:Sh)(x:AV):SK (AM.ret x) (KM.exp t x):=λH s k r h=>⟨x,H,⟨[],[]⟩,s,rfl,MH t x h⟩
theorem SK.expL(t:List Sh)(x:Ab):SK (AM.ret x) (KM.expL t x):=λH s k r h=>⟨x,H,⟨[],[]⟩,s,rfl,Cw t x h⟩
theorem SK.expO(t:List Os)(x:List BO):SK (AM.ret x) (KM.expO t x):=λH s k r h=>⟨x,H,⟨[],[]⟩,s,rfl,Er t x h⟩
theorem SK.look{α β:Type}{x:α}{mK:KM α}(hm:SK (AM.ret x) mK){f:α->AM β}{fK:α->KM β}(hf:∀ a,SK (f a) (fK a)):SK (f x) (mK.bind fK):=λH s k r h=>by
 obtain⟨a,H1,f1,s1,h1,h2⟩:=hm H s _ r h;obtain⟨rfl,rfl⟩:=Ax h1;have e:f1=⟨[],[]⟩:=by
  grind [AM.ret]
 subst e;exact hf _ _ _ _ r (by simpa using h2)
section
variable {A:Ar} {D:Orc} {own:List (Nat × Nat)} {Hn:Hnt}
theorem SK.tm(d:Option Nat)(cs:Ab):SK (AM.ret cs) (tmK Hn d cs):=by
 unfold tmK;split
 .grind [SK.expL,SK.ret]
 .exact SK.ret _
theorem SK.rdAt(d:Option Nat)(a:AV)(n:Nat):SK (rdAt a n) (YO Hn d a n):=by
 unfold YO;split
 .unfold Go.Proofs.YtpncilciembjdaaGreatDoor.rdAt
  refine SK.bind (SK.gen _) λk=>SK.rd (f:=λcs=>AM.ret cs) (λh=>Ac h) λcs=>?_
  split
  .exact SK.tm _ _
  .exact SK.ret _
 .exact SK.gen _
theorem SK.load(d:Option Nat)(row:Bool)(n:Nat)(a:AV):SK (loadM row n a) (Adh Hn d row n a):=by
 cases row with
 |true=>exact SK.bind (SK.rdAt _ _ _) λ_=>SK.ret _
 |false=>exact SK.bind (SK.rdAt _ _ _) λ_=>SK.opt _
theorem SK.store(n:Nat)(a x:AV):SK (storeM n a x) (Xg n a x):=by
 unfold storeM Xg
 cases a with
 |ptr b o=>
  simp only;split
  .refine SK.bind (SK.gen _) λk=>?_
   by_cases h:k.st=true/\(!k.ex||Bj x.cells)=true
   .simp_all [SK.bind,SK.gen,SK.ret,SK.test,Ac]
   .rw[Ad h]
    exact SK.fail _
  .exact SK.fail _
 |_=>exact SK.fail _
theorem SK.iaddr(d:Option Nat)(e:Nat)(x ix:AV):SK (AM.opt (OT e x ix)) (Wm Hn d e x ix):=by
 unfold Wm;refine SK.idx λi hi=>?_
 unfold OT;simp only[hi]
 cases x with
 |sl b o n e'=>
  simp only;refine SK.test λh=>?_
  rw[h];simp only;split
  .exact SK.ret _
  .exact SK.fail _
 |ls xs=>
  simp only;refine SK.nth λcs h=>?_
  rw[h];simp only;refine SK.look (f:=λ(cs:Ab)=>AM.opt (match AwM cs.length e with
   |true=>some (AV.lp cs)
   |false=>none)) (SK.tm d cs) λcs=>?_
  cases AwM cs.length e with
  |true=>exact SK.ret _
  |false=>exact SK.fail _
 |_=>exact SK.fail _
theorem SK.aaddr(n e:Nat)(x ix:AV):SK (AM.opt (RL n e x ix)) (VH n e x ix):=by
 grind [VH,RL,SK.idx,SK.opt,SK.test]
theorem AeG{cs:Ab}{o:Nat}(h:o+1<=cs.length):WH ((cs.drop o).take 1)=cs[o]?:=by
 have h1:o<cs.length:=h;rw[List.getElem?_eq_getElem h1,List.drop_eq_getElem_cons h1];rfl
theorem SK.index(d:Option Nat)(n e:Nat)(row:Bool)(sz:Nat)(x ix:AV):SK (AM.opt (OV n e row sz x ix)) (Wo d n e row sz x ix):=by
 unfold Wo;refine SK.idx λi hi=>?_
 unfold OV
 cases x with
 |agg cs=>
  simp only[hi];refine SK.test λh=>?_
  rw[h];simp only;unfold UU
  cases row with
  |true=>exact SK.rd (f:=λxs=>AM.ret (.agg xs)) (λ_=>rfl) λ_=>SK.ret _
  |false=>exact SK.rd (f:=λxs=>AM.opt (WH xs)) (λh=>by rw[AeG h]) λ_=>SK.opt _
 |_=>exact SK.fail _
theorem OU{l h n:Nat}(e:HY l h n=true):Awf l h=true/\Awf h n=true:=by
 grind [HY]
theorem JS{n b:Nat}(e:Ba n b=true):Awf (n*b) 140737488355328=true/\Awf n maxLen=true:=by
 grind [Ba]
theorem SK.slice(e:Nat)(x:AV)(lo hi:Option AV):SK (AM.opt (PB e x lo hi)) (Xa e x lo hi):=by
 unfold Xa PB
 cases x with
 |sl b o n e'=>
  simp only;refine SK.idxO λl hl=>SK.idxO λh hh=>SK.test λhb=>?_
  rw[hl,hh];obtain⟨h1,h2⟩:=OU hb;simp only[h1,h2]
  cases AwM e' e with
  |true=>exact SK.ret _
  |false=>exact SK.fail _
 |ls xs=>
  simp only;refine SK.idxO λl hl=>SK.idxO λh hh=>SK.test λhb=>SK.test λhw=>?_
  rw[hl,hh];obtain⟨h1,h2⟩:=OU hb;simp only[h1,h2,hw];exact SK.ret _
 |_=>exact SK.fail _
theorem SK.bin(b:BinOp)(x y:AV):SK (AM.opt (KC A b x y)) (Anl A b x y):=by
 unfold Anl;split
 .rename_i k a k' c
  cases b with
  |shl=>
   simp only;refine SK.brk (λ_=>SK.fail _) λh=>?_
   simp only[KC,h];exact SK.ret _
  |shr=>
   simp only;refine SK.brk (λ_=>SK.fail _) λh=>?_
   simp only[KC,h];exact SK.ret _
  |quo=>
   simp only;split
   .rename_i e
    refine SK.brk (λ_=>SK.fail _) λh=>?_
    simp only[KC,h,Ac e];exact SK.ret _
   .exact SK.fail _
  |rem=>
   simp only;split
   .rename_i e
    refine SK.brk (λ_=>SK.fail _) λh=>?_
    simp only[KC,h,Ac e];exact SK.ret _
   .exact SK.fail _
  |neq=>
   simp only;split
   .rename_i e
    refine SK.brk (λh=>?_) λh=>?_<;>(simp only[KC,h,Ac e];exact SK.ret _)
   .exact SK.fail _
  |_=>exact SK.opt _
 .cases b with
  |neq=>
   simp only;refine SK.brk (λh=>?_) λh=>?_<;>(simp only[KC,h];exact SK.ret _)
  |add=>
   simp only;refine SK.test λh=>?_
   simp only[KC,h];exact SK.ret _
  |_=>exact SK.opt _
 .exact SK.opt _
theorem SK.sidx(x i:AV):SK (AM.opt (Va A x i)) (Aem A x i):=by
 unfold Aem;split
 .refine SK.idx λj hj=>SK.test λh=>?_
  simp only[Va,hj,h];exact SK.ret _
 .exact SK.fail _
theorem SK.sslice(x:AV)(lo hi:Option AV):SK (AM.opt (Lp A x lo hi)) (S4 A x lo hi):=by
 unfold S4;split
 .refine SK.idxO λl hl=>SK.idxO λh hh=>SK.test λhb=>?_
  obtain⟨h1,h2⟩:=OU hb;simp only[Lp,hl,hh,h1,h2];exact SK.ret _
 .exact SK.fail _
theorem SK.news(e:Nat)(x:AV):SK (newsM e x) (YD e x):=by
 unfold YD newsM
 cases x with
 |sl b o n e'=>
  simp only;split
  .grind [SK.bind,SK.fail,SK.gen,SK.ret,SK.test]
  .exact SK.fail _
 |ls xs=>
  simp only;refine SK.test λh=>?_
  rw[h];exact SK.ret _
 |v z=>
  cases z with
  |slice a n c=>
   cases a with
   |none=>
    cases n with
    |zero=>
     cases c with
     |zero=>exact SK.ret _
     |succ c=>exact SK.fail _
    |succ n=>exact SK.fail _
   |some a=>exact SK.fail _
  |_=>exact SK.fail _
 |_=>exact SK.fail _
theorem SK.appR(e bytes:Nat)(s:AV)(r:Nat × Ab):SK (appR e bytes s r) (Xx e bytes s r):=by
 unfold Xx Go.Proofs.YtpncilciembjdaaGreatDoor.appR;refine SK.brk (λh=>?_) λh=>SK.test λh2=>?_
 .grind [SK.fail,SK.ret]
 .rw[h,h2]
  simp only;unfold Ali
  cases s with
  |sl b o n e'=>
   simp only
   cases he:AwM e' e with
   |false=>exact SK.fail _
   |true=>
    simp only;refine SK.test λh3=>?_
    obtain⟨h4,h5⟩:=JS h3;simp only[h4,h5];refine SK.bind (SK.gen _) λk=>?_
    cases k.ex with
    |false=>exact SK.fail _
    |true=>
     cases k.st with
     |true=>
      simp only;refine SK.test λh6=>?_
      cases AwM (o+n*e) k.cells.length with
      |true=>exact SK.bind (SK.gen _) λ_=>SK.bind (SK.gen _) λ_=>SK.ret _
      |false=>
       simp only[h6];exact SK.bind (SK.gen _) λ_=>SK.bind (SK.gen _) λ_=>SK.ret _
     |false=>
      simp only;refine SK.test λh6=>?_
      rw[h6];exact SK.bind (SK.gen _) λ_=>SK.bind (SK.gen _) λ_=>SK.ret _
  |v z=>
   cases z with
   |slice a n c=>
    cases a with
    |none=>
     cases n with
     |zero=>
      cases c with
      |zero=>
       refine SK.test λh3=>?_
       obtain⟨h4,h5⟩:=JS h3;simp only[h4,h5];exact SK.bind (SK.gen _) λ_=>SK.ret _
      |succ c=>exact SK.fail _
     |succ n=>exact SK.fail _
    |some a=>exact SK.fail _
   |_=>exact SK.fail _
  |_=>exact SK.fail _
theorem SK.app(e bytes:Nat)(s x:AV):SK (appM e bytes s x) (ApS e bytes s x):=SK.bind (SK.news e x) λr=>SK.appR e bytes s r
theorem SK.appz(z:AO)(e bytes:Nat)(s x:AV):SK (appzM z e bytes s x) (Abb z e bytes s x):=by
 unfold Abb appzM SH;refine SK.idx λm hm=>SK.test λh1=>?_
 rw[hm];dsimp only;rw[h1];exact SK.bind (mK:=KM.ret (m,Ch (z.map .v) (m*e))) (SK.ret _) λr=>SK.appR e bytes s r
theorem SK.mksl(z:AO)(e b:Nat)(l c:AV):SK (mkslM z e b l c) (Ado z e b l c):=by
 grind [Ado,mkslM,SK.bind,SK.gen,SK.idx,SK.ret,SK.test,JS]
theorem SK.cpy(e:Nat)(d x:AV):SK (cpyM e d x) (Anu e d x):=by
 unfold Anu cpyM
 cases d with
 |sl b o n e'=>
  simp only
  cases AwM e' e with
  |false=>exact SK.fail _
  |true=>
   simp only;refine SK.bind (SK.news e x) λr=>SK.test λh=>?_
   rw[h];simp only;refine SK.bind (SK.gen _) λk=>?_
   cases k.st with
   |false=>exact SK.fail _
   |true=>
    simp only;refine SK.test λh2=>?_
    rw[h2];exact SK.bind (SK.gen _) λ_=>SK.ret _
 |_=>exact SK.fail _
theorem SK.clr(z:AO)(e:Nat)(x:AV):SK (clrM z e x) (Ans z e x):=by
 unfold Ans clrM
 cases x with
 |sl b o n e'=>
  simp only
  cases AwM e' e with
  |false=>exact SK.fail _
  |true=>
   simp only;refine SK.bind (SK.gen _) λk=>?_
   cases k.st with
   |false=>exact SK.fail _
   |true=>
    simp only;refine SK.test λh2=>?_
    rw[h2];exact SK.bind (SK.gen _) λ_=>SK.ret _
 |_=>exact SK.fail _
mutual
theorem SK.frz:∀(n:Nat) (x:AV),SK (frz n x) (TV n x)
 |0,x=>by
  unfold TV Go.Proofs.YtpncilciembjdaaGreatDoor.frz;exact SK.gen _
 |n+1,x=>by
  unfold TV Go.Proofs.YtpncilciembjdaaGreatDoor.frz
  cases x with
  |v z=>exact SK.ret _
  |sl b o m e=>
   simp only;refine SK.bind (SK.gen _) λk=>SK.test λh=>?_
   rw[h];simp only;refine SK.bind ?_ λ_=>?_
   .cases k.st with
    |true=>exact SK.gen _
    |false=>exact SK.ret _
   .cases (k.ex||Bj ((k.cells.drop o).take (m*e))) with
    |true=>exact SK.ret _
    |false=>
     simp only;refine SK.bind (SK.frzL n _) λcs=>?_
     cases Bj cs with
     |true=>exact SK.ret _
     |false=>exact SK.fail _
  |agg cs=>exact SK.bind (SK.frzL n _) λ_=>SK.ret _
  |tup cs=>exact SK.bind (SK.frzL n _) λ_=>SK.ret _
  |_=>exact SK.ret _
theorem SK.frzL:∀(n:Nat) (l:Ab),SK (frzL n l) (KP n l)
 |n,[]=>by
  unfold KP Go.Proofs.YtpncilciembjdaaGreatDoor.frzL;exact SK.ret _
 |0,_::_=>by
  unfold KP;exact SK.fail _
 |n+1,x::r=>by
  unfold KP Go.Proofs.YtpncilciembjdaaGreatDoor.frzL;exact SK.bind (SK.frz n x) λ_=>SK.bind (SK.frzL n r) λ_=>SK.ret _
end
theorem SK.frzB(b:Nat):SK (frzB b) (Aco b):=by
 grind [Go.Proofs.YtpncilciembjdaaGreatDoor.frzB,AwM,Aco,SK.bind,SK.fail,SK.frzL,SK.gen,SK.ret]
theorem SK.frzT:∀(l:Af) (T:Ab),SK (frzT l T) (KQ l T)
 |[],T=>SK.ret _
 |t::r,T=>by
  unfold KQ Go.Proofs.YtpncilciembjdaaGreatDoor.frzT
  cases T[t]? with
  |none=>exact SK.frzT r T
  |some x=>
   cases x with
   |ptr b o=>exact SK.bind (SK.frzB b) λ_=>SK.frzT r T
   |_=>exact SK.bind (SK.frz _ _) λ_=>SK.frzT r _
theorem SK.frzA(f:Nat):∀(i:Nat) (l:Ab),SK (frzA own f i l) (QF own f i l)
 |i,[]=>by
  unfold QF Go.Proofs.YtpncilciembjdaaGreatDoor.frzA;exact SK.ret _
 |i,x::r=>by
  unfold QF Go.Proofs.YtpncilciembjdaaGreatDoor.frzA
  cases AdD own f i with
  |true=>exact SK.bind (SK.frzA f (i+1) r) λ_=>SK.ret _
  |false=>exact SK.bind (SK.frz 1000 x) λ_=>SK.bind (SK.frzA f (i+1) r) λ_=>SK.ret _
theorem SK.ask(key:Key)(args:Ab)(bs:List ABlk):SK (AM.opt (D.ask key args bs)) (KM.ask D key args bs):=λH s k r h=>by
 unfold KM.ask AW at h;split at h
 .rename_i q e
  rw[e];exact⟨q,H,⟨[],[]⟩,s,rfl,h⟩
 .cases h
theorem SK.callD(key:Key){e:AV × List BO->KM (AV × List BO)}(he:∀ q,SK (AM.ret q) (e q))(args:Ab):SK (callD (D.ask key) args) (RV D key e args):=by
 unfold RV Go.Proofs.YtpncilciembjdaaGreatDoor.callD;refine SK.bind (SK.gen _) λL=>SK.bind (SK.gen _) λbs=>SK.bind ?_ λr=>?_
 .intro H s k r h
  obtain⟨a,H1,f1,s1,h1,h2⟩:=SK.ask key _ _ H s _ r h;obtain⟨b,H2,f2,s2,h3,h4⟩:=he a H1 s1 _ r h2;obtain⟨rfl,rfl⟩:=Ax h3;refine⟨_,_,_,s2,h1,?_⟩;simp only[AM.ret,ψ,Prod.mk.injEq]at h3;rw[←h3.2.2]at h4;simpa using h4
 .grind [SK.bind,SK.fail,SK.gen,SK.ret]
theorem SK.ansF(f:Nat)(q:AV × List BO):SK (AM.ret q) (ansF Hn f q):=by
 unfold Go.Proofs.YtpncilciembjdaaGreatDoor.ansF;split
 .exact SK.look (f:=λx=>AM.ret (x,q.2)) (SK.exp _ _) λx=>SK.look (f:=λo=>AM.ret (x,o)) (SK.expO _ _) λ_=>SK.ret _
 .exact SK.ret _
theorem SK.calls(f:FuncId)(args:Ab):SK (callsM D own f args) (RW D own Hn f args):=by
 grind [RW,callsM,SK.ansF,SK.bind,SK.callD,SK.frzA]
theorem Afq{k:Nat}{x:AV}(h:BA k x=true):x=Abg k:=by
 unfold BA at h;split at h
 .rfl
 .rename_i i j
  have:i=j:=AwA h;rw[this];rfl
 .cases h
theorem SK.ansX:∀(l:List (Nat × (List Sh × List Os))) (x:AV) (ys:Ab) (o:List BO),SK (AM.ret (.tup (x::ys),o)) (ansX l x ys o)
 |[],_,_,_=>SK.fail _
 |(k,s,l)::r,x,ys,o=>by
  unfold Go.Proofs.YtpncilciembjdaaGreatDoor.ansX;refine SK.brk (λh=>?_) λ_=>SK.ansX r x ys o
  have hx:x=Abg k:=Afq h;rw[←hx];exact SK.look (f:=λys=>AM.ret (Awe (x::ys),o)) (SK.expL _ _) λys=>SK.look (f:=λo=>AM.ret (Awe (x::ys),o)) (SK.expO _ _) λ_=>SK.ret _
theorem SK.ansL(i:Nat)(q:AV × List BO):SK (AM.ret q) (ansL Hn i q):=by
 unfold Go.Proofs.YtpncilciembjdaaGreatDoor.ansL;split
 .rename_i l _
  intro H s k r h;obtain⟨v,o⟩:=q
  cases v with
  |tup cs=>
   cases cs with
   |nil=>cases h
   |cons x ys=>exact SK.ansX l x ys o H s k r h
  |_=>cases h
 .exact SK.ret _
theorem SK.loops(f i:Nat)(xs:Ab):SK (loopsM D f i xs) (WB D Hn f i xs):=by
 grind [VL,WB,loopsM,SK.ansL,SK.bind,SK.callD,SK.fail,SK.ret]
theorem SK.op(d:Option Nat)(o:MO)(T:Ab):SK (mop A (callsM D own) o T) (opK A D own Hn d o T):=by
 cases o with
 |pick c a b=>
  simp only[opK,mop]
  cases Bl T c with
  |v u=>
   cases u with
   |bool t=>
    simp only;refine SK.brk (λh=>?_) λh=>?_<;>(subst h;exact SK.ret _)
   |_=>exact SK.fail _
  |_=>exact SK.fail _
 |ld row n a=>exact SK.load _ _ _ _
 |st n a x=>exact SK.store _ _ _
 |bin ek b x y=>
  cases ek with
  |zero=>exact SK.bin _ _ _
  |succ n=>exact SK.opt _
 |slice e x lo hi=>exact SK.slice _ _ _ _
 |iaddr e x i=>exact SK.iaddr _ _ _ _
 |aaddr n e x i=>exact SK.aaddr _ _ _ _
 |index n e row sz x i=>exact SK.index d _ _ _ _ _ _
 |mksl z e b l c=>exact SK.mksl _ _ _ _ _
 |app e b s x=>exact SK.app _ _ _ _
 |appz z e b s x=>exact SK.appz _ _ _ _ _
 |cpy e d x=>exact SK.cpy _ _ _
 |clr z e x=>exact SK.clr _ _ _
 |sidx x i=>exact SK.sidx _ _
 |sslice x lo hi=>exact SK.sslice _ _ _
 |callF f args=>exact SK.calls _ _
 |callV ents x args=>
  simp only[opK,mop]
  cases Bl T x with
  |fn f a cs=>
   cases f with
   |func g=>
    simp only
    cases ents.testBit g with
    |true=>exact SK.calls _ _
    |false=>exact SK.fail _
   |_=>exact SK.fail _
  |_=>exact SK.fail _
 |_=>exact SK.gen _
theorem SK.core(o:MOp)(T:Ab):SK (coreM A (callsM D own) o T) (Abw A D own Hn o T):=by
 grind [bool,Abw,coreM,VC,SK.brk,SK.fail,SK.op,SK.ret]
theorem AfX{e:Bool}{x:AV}{s:Sc}{k:AV->Sc->KR}{r:AV × List BO}(h:gB e x s k=some r):∃ s',k x s'=some r:=by
 unfold gB at h;split at h
 .grind [Tw]
 .exact⟨s,h⟩
theorem SK.run:∀(l:List MOp) (T:Ab) (H:AH) (s:Sc) (k:Ab->AH->List Foot->Sc->KR) (r:AV × List BO),Akq A D own Hn l T H s k=some r->∃ T' H' fs s',runM A (callsM D own) l T H=some (T',H',fs)/\k T' H' fs s'=some r
 |[],T,H,s,k,r,h=>⟨T,H,[],s,rfl,h⟩
 |o::l,T,H,s,k,r,h=>by
  simp only[Akq]at h;obtain⟨v,H1,f,s1,h1,h2⟩:=SK.core o T H s _ r h;simp only[Acq,Wg,AnJ,Aqr]at h2;obtain⟨s2,h2⟩:=AfX h2;obtain⟨T',H',fs,s3,h3,h4⟩:=SK.run l _ _ _ _ r h2;refine⟨T',H',f::fs,s3,?_,h4⟩;simp only[runM,h1,h3]
theorem SK.reg(ops:List MOp)(bf:Option (Af))(T:Ab):SK (regM A (callsM D own) ops bf T) (Apl A D own Hn ops bf T):=λH s k r h=>by
 unfold Apl at h;obtain⟨T',H',fs,s',h1,h2⟩:=SK.run ops T H s _ r h;unfold regM;rw[h1]
 cases bf with
 |none=>exact⟨_,_,_,s',rfl,h2⟩
 |some bf=>
  simp only at h2 ⊢;split at h2
  .grind
  .cases h2
theorem SK.ev(f:Nat):∀(c:MC) (T:Ab),SK (evC A (callsM D own) (loopsM D f) c T) (evK A D own Hn f c T)
 |.skip,T=>SK.ret _
 |.reg ops bf,T=>SK.reg _ _ _
 |.seq a b,T=>by
  unfold evK evC;refine SK.bind (SK.ev f a T) λr=>?_
  obtain⟨ax,T1⟩:=r
  cases ax with
  |normal=>exact SK.ev f b _
  |_=>exact SK.ret _
 |.cond c a b,T=>by
  unfold evK evC
  cases Bl T c with
  |v u=>
   cases u with
   |bool t=>
    simp only;refine SK.brk (λh=>?_) λh=>?_<;>subst h
    .exact SK.ev f a T
    .exact SK.ev f b T
   |_=>exact SK.fail _
  |_=>exact SK.fail _
 |.block id c,T=>by
  unfold evK evC;refine SK.bind (SK.ev f c T) λr=>?_
  obtain⟨ax,T1⟩:=r
  cases ax with
  |exit i=>
   simp only
   by_cases e:i=id
   .simp_all [SK.ret,Ac]
   .simp_all [SK.ret,Ad]
  |_=>exact SK.ret _
 |.loop i h,T=>by
  grind [AwM,evC,evK,SK.bind,SK.fail,SK.frzT,SK.gen,SK.loops,SK.ret]
 |.exit id,T=>SK.ret _
 |.ret,T=>SK.ret _
 |.bad,T=>SK.fail _
theorem SK.res(T:Ab):∀ l,SK (resM T l) (Ad2 Hn T l)
 |[]=>SK.ret _
 |.tmp _::r=>SK.bind (SK.res T r) λ_=>SK.ret _
 |.cell _ _ _::r=>SK.bind (SK.load _ _ _ _) λ_=>SK.bind (SK.res T r) λ_=>SK.ret _
theorem AnF{m:Ab->AM AV}{mK:KM AV}{args:Ab}{bs:List ABlk}{r:AV × List BO}(hm:SK (m args) mK)(s:Sc)(h:mK ⟨Ds 0 bs,bs.length,none⟩ s (λv H ft _=>Oq bs.length v H ft)=some r):PT (Ff m) args bs=some r:=by
 obtain⟨v,H',ft,s',h1,h2⟩:=hm _ _ _ _ h;unfold PT Ff;rw[h1];exact h2
theorem AnH{f:Nat}{mf:MFn}{args:Ab}{bs:List ABlk}{r:AV × List BO}(s:Sc)(h:B3 A D own Hn s f mf args bs=some r):PT (Ff (fnM A D own f mf)) args bs=some r:=by
 unfold B3 at h;refine AnF ?_ s h;unfold fnM;have fin:∀ T,SK ((resM T mf.res).bind λl=>(match mf.own with
   |true=>AM.ret (Jn l)
   |false=>frz 1000 (Jn l)).bind λv=>match mf.tch with
    |true=>(touchI (E0 args)).bind λ_=>AM.ret v
    |false=>AM.ret v) ((Ad2 Hn T mf.res).bind λl=>(match mf.own with
   |true=>KM.ret (Jn l)
   |false=>TV 1000 (Jn l)).bind λv=>match mf.tch with
    |true=>(KM.gen (touchI (E0 args))).bind λ_=>KM.ret v
    |false=>KM.ret v):=λT=>by
  grind [SK.bind,SK.frz,SK.gen,SK.res,SK.ret]
 refine SK.bind (SK.ev f _ _) λr=>?_
 obtain⟨ax,T1⟩:=r
 cases ax with
 |exit i=>exact SK.fail _
 |goto l=>exact SK.fail _
 |normal=>exact fin T1
 |ret=>exact fin T1
theorem Nr{α β:Type}{m:AM α}{f:α->AM β}{H H1 H2:AH}{a:α}{b:β}{f1 f2:Foot}(h1:m H=some (a,H1,f1))(h2:f a H1=some (b,H2,f2)):(m.bind f) H=some (b,H2,⟨f1.rd++f2.rd,f1.wr++f2.wr⟩):=by
 grind [AM.bind]
theorem T7(n b:Nat)(hb:b<n):∀ l,FT b (Ady n l)=FT b l
 |[]=>rfl
 |x::r=>by
  have ih:=T7 n b hb r;unfold Ady;split
  .unfold FT
   rw[ih]
  .rename_i h
   rw[ih]
   conv=>rhs;unfold FT
   cases e:AwM b x with
   |false=>rfl
   |true=>
    have e:b=x:=AwA e;subst e;have h1:Aw0 b n=true:=by rw[Zj];simpa using hb
    cases h2:FT b r with
    |true=>rfl
    |false=>exact absurd h2 (h h1)
theorem T6(b:Nat)(l m:Af):FT b (l++m)=(FT b l||FT b m):=by
 simp only[Sf];simp
theorem Wd{n:Nat}{r:AV}{H:AH}{f1 f2:Foot}(h:∀ b,b<n->FT b f1.wr=FT b f2.wr):Oq n r H f1=Oq n r H f2:=by
 have:(Ez 0 n).map (WK H f1.wr)=(Ez 0 n).map (WK H f2.wr):=by
  refine List.map_congr_left λb hb=>?_
  obtain⟨i,hi⟩:=List.getElem?_of_mem hb;rw[JU]at hi;split at hi
  .grind [WK]
  .cases hi
 unfold Oq;rw[this]
theorem Akf{f i n:Nat}{xs:Ab}{H:AH}{ft:Foot}{r:AV × List BO}(h:Apk D f i xs H ft n=some r):∃ q H' f',loopsM D f i xs H=some (q,H',f')/\Oq n (.tup (axA q.1::q.2)) H' ⟨ft.rd++f'.rd,ft.wr++f'.wr⟩=some r:=by
 unfold Apk at h;split at h
 .rename_i L H1 f1 e1
  split at h
  .rename_i bs H2 f2 e2
   unfold AW at h;split at h
   .rename_i q e3
    obtain⟨v,o⟩:=q;simp only at h;unfold AS at h
    cases c1:PY o.length v.ids<;>cases c2:Tv o.length o<;>rw[c1,c2]at h<;>try (cases h;done)
    simp only at h;split at h
    .rename_i x ys H' f' e4
     split at h
     .rename_i ax e5
      have t1:=(NP _ _ _ _ e1).1;have t2:=(J5 _ e2).1;rw[t1]at e1;rw[t2]at e2;refine⟨(ax,ys),H',_,Nr (Nr e1 (Nr e2 (Nr (a:=(v,o)) (H1:=H) (f1:=⟨[],[]⟩) (by rw[e3];rfl) (b:=.tup (x::ys)) (H2:=H') (f2:=f') ?_))) (b:=(ax,ys)) (H2:=H') (f2:=⟨[],[]⟩) ?_,?_⟩
      .simp only[c1,c2]
       exact e4
      .simp only[e5]
       rfl
      .rw[←h]
       refine Wd λb hb=>?_
       simp only[T6,T7 n b hb,AwF,Awv,Bool.or_assoc]
     .cases h
    .cases h
   .cases h
  .cases h
 .cases h
theorem An6{f i:Nat}{q:LpH}{c:MC}{xs:Ab}{bs:List ABlk}{r:AV × List BO}(s:Sc)(h:Dc A D own Hn s f i q c xs bs=some r):PT (Ff (lpM A D own f i q c)) xs bs=some r:=by
 have key:∀ v H' ft,lpM A D own f i q c xs ⟨Ds 0 bs,bs.length,none⟩=some (v,H',ft)->Oq bs.length v H' ft=some r->PT (Ff (lpM A D own f i q c)) xs bs=some r:=λv H' ft h1 h2=>by
  unfold PT Ff;rw[h1];exact h2
 unfold Dc at h;obtain⟨⟨ax,T1⟩,H1,f1,s1,h1,h2⟩:=SK.ev f c _ _ s _ r h;have out:∀(ax:AX),((KQ (q.fzo ax) T1).bind λT=>(KM.gen (delT (q.dlo ax) T)).bind λ_=>(KM.gen (touchA (q.nt ax) (CP (q.out ax) T))).bind λys=>KM.ret (.tup (axA ax::ys))) H1 s1 (λv H f _=>Oq bs.length v H ⟨f1.rd++f.rd,f1.wr++f.wr⟩)=some r->∃ v H' f,((frzT (q.fzo ax) T1).bind λT=>(delT (q.dlo ax) T).bind λ_=>(touchA (q.nt ax) (CP (q.out ax) T)).bind λys=>AM.ret (.tup (axA ax::ys))) H1=some (v,H',f)/\Oq bs.length v H' ⟨f1.rd++f.rd,f1.wr++f.wr⟩=some r:=λax h=>by
  obtain⟨v,H',f,s2,h3,h4⟩:=(SK.bind (SK.frzT (q.fzo ax) T1) λT=>SK.bind (SK.gen _) λ_=>SK.bind (SK.gen _) λys=>SK.ret (Awe (axA ax::ys))) H1 s1 _ r h;exact⟨v,H',f,h3,h4⟩
 cases ax with
 |normal=>
  obtain⟨T2,H2,f2,s2,h5,h6⟩:=SK.frzT q.fz T1 H1 s1 _ r h2;obtain⟨p,H',f',h3,h4⟩:=Akf h6;refine key _ H' _ ?_ h4;unfold lpM;simp only[AM.bind,h1,h5,h3,AM.ret,AwF,List.append_assoc]
 |goto l=>cases h2
 |exit k=>
  obtain⟨v,H',f',h3,h4⟩:=out _ h2;refine key v H' _ ?_ h4;unfold lpM;rw[AM.bind,h1];simp only;rw[h3]
 |ret=>
  obtain⟨v,H',f',h3,h4⟩:=out _ h2;refine key v H' _ ?_ h4;unfold lpM;rw[AM.bind,h1];simp only;rw[h3]
end
section
variable {A:Ar} {M:Seat}
theorem Anf(Hn:Hnt)(s:Sc){f:Nat}{mf:MFn}(he:M.ext f=none)(hf:M.fns f=some mf){args:Ab}{bs:List ABlk}{r:AV × List BO}(h:B3 A (By A M) M.own Hn s f mf args bs=some r):(By A M).ask (.fn f) args bs=some r:=Akx he hf (AnH s h)
theorem Ang(Hn:Hnt)(s:Sc){f i:Nat}{mf:MFn}{q:LpH}{c:MC}(hf:M.fns f=some mf)(hl:mf.loops[i]? = some (q,c)){args:Ab}{bs:List ABlk}{r:AV × List BO}(h:Dc A (By A M) M.own Hn s f i q c args bs=some r):(By A M).ask (.lp f i) args bs=some r:=Aky hf hl (An6 s h)
end
end
open Go.RowKit
def iv(n:Int):AV:=.v (.int .i64 n)
def bv(b:Bool):AV:=.v (.bool b)
def sv(s:ByteArray):AV:=.v (.string s)
def CH(l:List UInt8):ByteArray:=⟨l.toArray⟩
abbrev P1:List UInt8:=[0,1,2,2,3,3,3,3,4,4,4,4,4,4,4,4,5,5,5,5,5,5,5,5,5,5,5,5,5,5,5,5,6,6,6,6,6,6,6,6,6,6,6,6,6,6,6,6,6,6,6,6,6,6,6,6,6,6,6,6,6,6,6,6,7,7,7,7,7,7,7,7,7,7,7,7,7,7,7,7,7,7,7,7,7,7,7,7,7,7,7,7,7,7,7,7,7,7,7,7,7,7,7,7,7,7,7,7,7,7,7,7,7,7,7,7,7,7,7,7,7,7,7,7,7,7,7,7,8,8,8,8,8,8,8,8,8,8,8,8,8,8,8,8,8,8,8,8,8,8,8,8,8,8,8,8,8,8,8,8,8,8,8,8,8,8,8,8,8,8,8,8,8,8,8,8,8,8,8,8,8,8,8,8,8,8,8,8,8,8,8,8,8,8,8,8,8,8,8,8,8,8,8,8,8,8,8,8,8,8,8,8,8,8,8,8,8,8,8,8,8,8,8,8,8,8,8,8,8,8,8,8,8,8,8,8,8,8,8,8,8,8,8,8,8,8,8,8,8,8,8,8,8,8,8,8]
def Adz(P:Program)(f:Nat):Bool:=match P.funcs[f]? with
 |some fn=>(match fn.body with
  |some c=>LA c&&okR P fn.results.toList
  |none=>false)
 |none=>false
def NB(P:Program)(ents:Nat)(hs:KA)(ownR tch:Bool)(f:Nat):MFn:=match P.funcs[f]? with
 |some fn=>(match fn.body with
  |some c=>⟨fn.ntmps,Jr P fn.results.toList,(BS P ents hs c 0).1,(BS P ents hs c 0).2,ownR,tch⟩
  |none=>⟨0,[],.bad,[],false,false⟩)
 |none=>⟨0,[],.bad,[],false,false⟩
theorem AfW{P:Program}{ents:Nat}{hs:KA}{ownR tch:Bool}{f:Nat}(h:Adz P f=true):FnOk P ents f (NB P ents hs ownR tch f):=by
 unfold Adz at h
 cases e1:P.funcs[f]? with
 |none=>rw[e1]at h;cases h
 |some fn=>
  rw[e1]at h;simp only at h
  cases e2:fn.body with
  |none=>rw[e2]at h;cases h
  |some c=>
   rw[e2]at h;simp only[Bool.and_eq_true]at h;refine⟨fn,c,hs,e1,e2,h.1,h.2,?_⟩;unfold NB;rw[e1];simp only[e2];exact⟨trivial,trivial,trivial,trivial⟩
structure Knows (own:List (Nat × Nat)) (L:List (Nat × MFn)) (D:Orc):Prop where
 fn:∀(Hn:Hnt) (s:Sc) (f:Nat) (mf:MFn) (args:Ab) (bs:List ABlk) (r:AV × List BO),Cv f L=some mf->B3 Ap D own Hn s f mf args bs=some r->D.ask (.fn f) args bs=some r
 lp:∀(Hn:Hnt) (s:Sc) (f i:Nat) (mf:MFn) (q:LpH) (c:MC) (args:Ab) (bs:List ABlk) (r:AV × List BO),Cv f L=some mf->mf.loops[i]? = some (q,c)->Dc Ap D own Hn s f i q c args bs=some r->D.ask (.lp f i) args bs=some r
def A1(mf:MFn)(i:Nat):LpH × MC:=(mf.loops[i]?).getD (⟨0,[],[],[],[]⟩,.bad)
theorem Knows.fn'{own:List (Nat × Nat)}{L:List (Nat × MFn)}{D:Orc}(K:Knows own L D)(Hn:Hnt)(s:Sc){f:Nat}{mf:MFn}{args:Ab}{bs:List ABlk}{r:AV × List BO}(h1:Cv f L=some mf)(h:B3 Ap D own Hn s f mf args bs=some r):D.ask (.fn f) args bs=some r:=K.fn Hn s f mf args bs r h1 h
theorem AC{own:List (Nat×Nat)}{L:List (Nat×MFn)}{D:Orc}(K:Knows own L D)(Hn:Hnt){s:Sc}{f:Nat}{mf:MFn}{args:Ab}{bs:List ABlk}{r:AV×List BO}{x:KR}(e:B3 Ap D own Hn s f mf args bs=x)(g:x=some r)(h1:Cv f L=some mf:=by rfl):D.ask (.fn f) args bs=some r:=K.fn' Hn s h1 (e.trans g)
theorem Knows.lp'{own:List (Nat × Nat)}{L:List (Nat × MFn)}{D:Orc}(K:Knows own L D)(Hn:Hnt)(s:Sc){f i:Nat}{mf:MFn}{args:Ab}{bs:List ABlk}{r:AV × List BO}(h1:Cv f L=some mf)(h2:(mf.loops[i]?).isSome=true)(h:Dc Ap D own Hn s f i (A1 mf i).1 (A1 mf i).2 args bs=some r):D.ask (.lp f i) args bs=some r:=by
 obtain⟨⟨q,c⟩,e⟩:=Option.isSome_iff_exists.1 h2;refine K.lp Hn s f i mf q c args bs r h1 e ?_;unfold A1 at h;rw[e]at h;exact h
theorem AE{own:List (Nat×Nat)}{L:List (Nat×MFn)}{D:Orc}(K:Knows own L D)(Hn:Hnt){s:Sc}{f i:Nat}{mf:MFn}{args:Ab}{bs:List ABlk}{r:AV×List BO}{x:KR}(e:Dc Ap D own Hn s f i (A1 mf i).1 (A1 mf i).2 args bs=x)(g:x=some r)(h1:Cv f L=some mf:=by rfl)(h2:(mf.loops[i]?).isSome=true:=by kernel_rfl):D.ask (.lp f i) args bs=some r:=K.lp' Hn s h1 h2 (e.trans g)
theorem Fl{α:Type}{f:Nat}{a:α}:∀{L:List (Nat × α)},Cv f L=some a->(f,a)∈L
 |[],h=>by cases h
 |(m,b)::r,h=>by
  unfold Cv at h
  cases e:AwM f m with
  |true=>
   rw[e]at h;simp only[ψ]at h;have:=AwA e;subst this;subst h;exact List.mem_cons_self
  |false=>
   rw[e]at h;exact List.mem_cons_of_mem _ (Fl h)
def FK(own:List (Nat × Nat))(L:List (Nat × MFn))(X:List (Nat × DF)):Seat:=⟨λf=>Cv f L,own,λf=>Cv f X⟩
def O8(L:List (Nat × MFn))(X:List (Nat × DF)):Bool:=L.all λp=>(Cv p.1 X).isNone
theorem Ac1{own:List (Nat × Nat)}{L L':List (Nat × MFn)}{X:List (Nat × DF)}(hs:∀ f mf,Cv f L'=some mf->Cv f L=some mf)(hx:O8 L' X=true):Knows own L' (By Ap (FK own L X)) where
 fn Hn s f mf args bs r h1 h2:=Anf (M:=FK own L X) Hn s (by
  have:=List.all_eq_true.1 hx _ (Fl h1);exact Option.isNone_iff_eq_none.1 this) (hs f mf h1) h2
 lp Hn s f i mf q c args bs r h1 h2 h3:=Ang (M:=FK own L X) Hn s (hs f mf h1) h2 h3
section
variable {μ:Mu} {F:Bf} {w w':World}
theorem D5(F:Bf)(h:Below w.heap.size w w'):WStep F w w':=
 ⟨h.os,h.tape,h.output,h.size,λg o ho=>⟨o,by
  have hg:g<w.heap.size:=by
   grind
  exact(h.block g hg).trans ho,ObjStep.refl _ o⟩⟩
def Ads(F:Bf)(w w':World):Bf:=λg o=>F g o\/(w.heap.size<=g/\g<w'.heap.size)
theorem MR{H:Nat->Option ABlk}(hH:HRep μ F w H)(h:Below w.heap.size w w'):Later μ μ F (Ads F w w') w w':=
 ⟨λ_ _ h=>h,λg o hg=>⟨.inl hg,(D5 F h).cell hg (hH.prot g o hg)⟩⟩
theorem Wl{H:Nat->Option ABlk}(hH:HRep μ F w H)(h:Below w.heap.size w w'):HRep μ (Ads F w w') w' H:=by
 have hl:=MR hH h;have same:∀ g o,g<w.heap.size->w'.cell? ⟨g,o,none⟩=w.cell? ⟨g,o,none⟩:=λg o hg=>h.cell (p:=⟨g,o,none⟩) hg
 have st:=D5 (λ_ _=>False) h;refine⟨λb k hb=>?_,hH.apart,λg o hg=>?_⟩
 .obtain⟨p,hp,B⟩:=hH.blk b k hb
  refine⟨p,hp,?_,B.room,?_,λh0 i hi=>.inl (B.kept h0 i hi),?_,B.pure⟩
  .intro i x hx
   obtain⟨u,h1,h2⟩:=B.cell i x hx;exact⟨u,(same _ _ (Dt h1)).trans h1,h2.later hl⟩
  .intro i hi
   obtain⟨⟨u,h1⟩,h2⟩:=B.there i hi;exact⟨⟨u,(same _ _ (Dt h1)).trans h1⟩,(st.frozen (Dt h1)).trans h2⟩
  .rintro i hi (hf|⟨hf,_⟩)
   .exact B.free i hi hf
   .have hr:i<p.room:=by
     rcases hi with⟨h1,_⟩|⟨_,h1,_⟩
     .exact AwZ h1 B.room
     .exact h1
    obtain⟨⟨u,h1⟩,_⟩:=B.there i hr;have:=Dt h1;omega
 .rcases hg with hg|hg
  .exact AwZ (hH.prot g o hg) h.size
  .exact hg.2
end
theorem TZ{S:Nd}(hm:Qc S)(res:Ab->Option AV)
  (h:∀ args r,res args=some r->∀(μ:Mu) (F:Bf) (w:World) (us:AO),RepList μ F w args us->S us w λu w'=>Below w.heap.size w w'/\Rep μ (Ads F w w') w' r u) :
  BD S λargs bs=>match bs with
   |[]=>(res args).map λr=>(r,[])
   |_=>none:=by
 intro args bs r out hd
 cases bs with
 |cons=>cases hd
 |nil=>
  obtain⟨r',hr,he⟩:=Option.map_eq_some_iff.1 hd;obtain⟨rfl,rfl⟩:r'=r/\[]=out:=by simpa using he
  refine⟨π _,0,π _,λt _ μ F w KL us hKL hus hH hμ=>?_⟩;refine hm _ _ _ _ (h args r' hr μ F w us hus) λu w' ⟨hb,hu⟩=>?_
  refine⟨μ,Ads F w w',hu,?_,MR hH hb,D5 F hb,λ_ _=>rfl⟩;have:=Wl hH hb;have e:(λb=>if b<t then([]:List ABlk)[b]? else look b KL)=λb=>if b<t then Du [] [] b else look b KL:=by
   funext b
   by_cases hbt:b<t
   .rw[Ac hbt,Ac hbt]
    rfl
   .grind
  rw[←e];exact this
inductive Ki
 |b
 |i
 |j (kd:IntKind)
 |s
 |l
 |q (bb ee:Nat)
 |t
 |a
 |p (bb oo:Nat)
 |f (g:Nat)
 |c (u:Value)
 |x
 |B
 |I
 |J (kd:IntKind)
 |S
 |L
 |C
 |N
 |X
 |O
 |E
 |Y
 |T
 |R
 |D
 |K
 |A
 |P (bb oo:Nat)
 |Z
 |w
inductive It
 |v (x:AV)
 |l (x:Ab)
 |o (x:List BO)
 |c (x:BO)
abbrev Ct:List Ki->Type
 |[]=>KR
 |.b::r=>Bool->Ct r
 |.i::r=>Int->Ct r
 |.j _::r=>Int->Ct r
 |.s::r=>ByteArray->Ct r
 |.l::r=>List Ab->Ct r
 |.q _ _::r=>Nat->Ct r
 |.t::r=>Ct r
 |.a::r=>Ct r
 |.p _ _::r=>Ct r
 |.f _::r=>Ct r
 |.c _::r=>Ct r
 |.x::r=>AV->Ct r
 |.B::r=>Bool->Ct r
 |.I::r=>Int->Ct r
 |.J _::r=>Int->Ct r
 |.S::r=>ByteArray->Ct r
 |.L::r=>List Ab->Ct r
 |.C::r=>Ct r
 |.N::r=>Ct r
 |.X::r=>Ab->Ct r
 |.O::r=>Ct r
 |.E::r=>Ct r
 |.Y::r=>List BO->Ct r
 |.T::r=>Ct r
 |.R::r=>Ct r
 |.D::r=>Ct r
 |.K::r=>Ct r
 |.A::r=>Ct r
 |.P _ _::r=>Ct r
 |.Z::r=>BO->Ct r
 |.w::r=>Unit->Ct r
def itV(s:List It)(k:AV->List It->KR):KR:=match s with
 |.v x::r=>k x r
 |_=>none
def itL(s:List It)(k:Ab->List It->KR):KR:=match s with
 |.l x::r=>k x r
 |_=>none
def itO(s:List It)(k:List BO->List It->KR):KR:=match s with
 |.o x::r=>k x r
 |_=>none
def itC(s:List It)(k:BO->List It->KR):KR:=match s with
 |.c x::r=>k x r
 |_=>none
def dk:(p:List Ki)->List It->Ct p->KR
 |[],_,k=>k
 |.b::r,s,k=>itV s λx s=>Mp x λn=>dk r s (k n)
 |.i::r,s,k=>itV s λx s=>JD .i64 x λn=>dk r s (k n)
 |.j kd::r,s,k=>itV s λx s=>JD kd x λn=>dk r s (k n)
 |.s::r,s,k=>itV s λx s=>Rz x λn=>dk r s (k n)
 |.l::r,s,k=>itV s λx s=>Mr x λn=>dk r s (k n)
 |.q bb ee::r,s,k=>itV s λx s=>Xo bb ee x λn=>dk r s (k n)
 |.t::r,s,k=>itV s λx s=>PL x λy=>dk r (.l y::s) k
 |.a::r,s,k=>itV s λx s=>M7 x λy=>dk r (.l y::s) k
 |.p bb oo::r,s,k=>itV s λx s=>Lv bb oo x<|dk r s k
 |.f g::r,s,k=>itV s λx s=>AaM g x<|dk r s k
 |.c u::r,s,k=>itV s λx s=>Rv u x<|dk r s k
 |.x::r,s,k=>itV s λx s=>dk r s (k x)
 |.B::r,s,k=>itL s λx s=>Qn x λn y=>dk r (.l y::s) (k n)
 |.I::r,s,k=>itL s λx s=>Ng .i64 x λn y=>dk r (.l y::s) (k n)
 |.J kd::r,s,k=>itL s λx s=>Ng kd x λn y=>dk r (.l y::s) (k n)
 |.S::r,s,k=>itL s λx s=>Zm x λn y=>dk r (.l y::s) (k n)
 |.L::r,s,k=>itL s λx s=>cLs x λn y=>dk r (.l y::s) (k n)
 |.C::r,s,k=>itL s λx s=>EE x λz y=>dk r (.v z::.l y::s) k
 |.N::r,s,k=>itL s λx s=>FQ x<|dk r s k
 |.X::r,s,k=>itL s λx s=>dk r s (k x)
 |.O::r,s,k=>itO s λx s=>Gj x λz y=>dk r (.c z::.o y::s) k
 |.E::r,s,k=>itO s λx s=>D2 x<|dk r s k
 |.Y::r,s,k=>itO s λx s=>dk r s (k x)
 |.T::r,s,k=>itO s λx s=>Gj x λc y=>IR true false c λz=>dk r (.l z::.o y::s) k
 |.R::r,s,k=>itO s λx s=>Gj x λc y=>IR true true c λz=>dk r (.l z::.o y::s) k
 |.D::r,s,k=>itO s λx s=>Gj x λc y=>Rx c<|dk r (.o y::s) k
 |.K::r,s,k=>itO s λx s=>Gj x λc y=>Mq c<|dk r (.o y::s) k
 |.A::r,s,k=>itL s λx s=>EE x λc y=>M7 c λz=>dk r (.l z::.l y::s) k
 |.P bb oo::r,s,k=>itL s λx s=>EE x λc y=>Lv bb oo c<|dk r (.l y::s) k
 |.Z::r,s,k=>itC s λx s=>dk r s (k x)
 |.w::r,s,k=>dk r s (k ())
abbrev bk(cs:Ab):ABlk:=⟨cs,true,false⟩
abbrev Rw:=List Ab
abbrev Ai(D:Orc)(key:Key)(args:Ab)(bs:List ABlk)(p:List Ki)(k:Ct p):KR:=AW D key args bs λr o=>dk p [.v r,.o o] k
theorem DK:(∀(s:List It) (k:Ct []),dk [] s k=k)/\(∀(r:List Ki) (x:AV) (s:List It) (k:Ct (.b::r)),dk (.b::r) (.v x::s) k=Mp x λn=>dk r s (k n))/\(∀(r:List Ki) (x:AV) (s:List It) (k:Ct (.i::r)),dk (.i::r) (.v x::s) k=JD .i64 x λn=>dk r s (k n))/\(∀(kd:IntKind) (r:List Ki) (x:AV) (s:List It) (k:Ct (.j kd::r)),dk (.j kd::r) (.v x::s) k=JD kd x λn=>dk r s (k n))/\(∀(r:List Ki) (x:AV) (s:List It) (k:Ct (.s::r)),dk (.s::r) (.v x::s) k=Rz x λn=>dk r s (k n))/\(∀(r:List Ki) (x:AV) (s:List It) (k:Ct (.l::r)),dk (.l::r) (.v x::s) k=Mr x λn=>dk r s (k n))/\(∀(bb ee:Nat) (r:List Ki) (x:AV) (s:List It) (k:Ct (.q bb ee::r)),dk (.q bb ee::r) (.v x::s) k=Xo bb ee x λn=>dk r s (k n))/\(∀(r:List Ki) (x:AV) (s:List It) (k:Ct (.t::r)),dk (.t::r) (.v x::s) k=PL x λy=>dk r (.l y::s) k)/\(∀(r:List Ki) (x:AV) (s:List It) (k:Ct (.a::r)),dk (.a::r) (.v x::s) k=M7 x λy=>dk r (.l y::s) k)/\(∀(bb oo:Nat) (r:List Ki) (x:AV) (s:List It) (k:Ct (.p bb oo::r)),dk (.p bb oo::r) (.v x::s) k=Lv bb oo x (dk r s k))/\(∀(g:Nat) (r:List Ki) (x:AV) (s:List It) (k:Ct (.f g::r)),dk (.f g::r) (.v x::s) k=AaM g x (dk r s k))/\(∀(u:Value) (r:List Ki) (x:AV) (s:List It) (k:Ct (.c u::r)),dk (.c u::r) (.v x::s) k=Rv u x (dk r s k))/\(∀(r:List Ki) (x:AV) (s:List It) (k:Ct (.x::r)),dk (.x::r) (.v x::s) k=dk r s (k x))/\(∀(r:List Ki) (x:Ab) (s:List It) (k:Ct (.B::r)),dk (.B::r) (.l x::s) k=Qn x λn y=>dk r (.l y::s) (k n))/\(∀(r:List Ki) (x:Ab) (s:List It) (k:Ct (.I::r)),dk (.I::r) (.l x::s) k=Ng .i64 x λn y=>dk r (.l y::s) (k n))/\(∀(kd:IntKind) (r:List Ki) (x:Ab) (s:List It) (k:Ct (.J kd::r)),dk (.J kd::r) (.l x::s) k=Ng kd x λn y=>dk r (.l y::s) (k n))/\(∀(r:List Ki) (x:Ab) (s:List It) (k:Ct (.S::r)),dk (.S::r) (.l x::s) k=Zm x λn y=>dk r (.l y::s) (k n))/\(∀(r:List Ki) (x:Ab) (s:List It) (k:Ct (.L::r)),dk (.L::r) (.l x::s) k=cLs x λn y=>dk r (.l y::s) (k n))/\(∀(r:List Ki) (x:Ab) (s:List It) (k:Ct (.C::r)),dk (.C::r) (.l x::s) k=EE x λz y=>dk r (.v z::.l y::s) k)/\(∀(r:List Ki) (x:Ab) (s:List It) (k:Ct (.N::r)),dk (.N::r) (.l x::s) k=FQ x (dk r s k))/\(∀(r:List Ki) (x:Ab) (s:List It) (k:Ct (.X::r)),dk (.X::r) (.l x::s) k=dk r s (k x))/\(∀(r:List Ki) (x:List BO) (s:List It) (k:Ct (.O::r)),dk (.O::r) (.o x::s) k=Gj x λz y=>dk r (.c z::.o y::s) k)/\(∀(r:List Ki) (x:List BO) (s:List It) (k:Ct (.E::r)),dk (.E::r) (.o x::s) k=D2 x (dk r s k))/\(∀(r:List Ki) (x:List BO) (s:List It) (k:Ct (.Y::r)),dk (.Y::r) (.o x::s) k=dk r s (k x))/\(∀(r:List Ki) (x:List BO) (s:List It) (k:Ct (.T::r)),dk (.T::r) (.o x::s) k=Gj x λc y=>IR true false c λz=>dk r (.l z::.o y::s) k)/\(∀(r:List Ki) (x:List BO) (s:List It) (k:Ct (.R::r)),dk (.R::r) (.o x::s) k=Gj x λc y=>IR true true c λz=>dk r (.l z::.o y::s) k)/\(∀(r:List Ki) (x:List BO) (s:List It) (k:Ct (.D::r)),dk (.D::r) (.o x::s) k=Gj x λc y=>Rx c<|dk r (.o y::s) k)/\(∀(r:List Ki) (x:List BO) (s:List It) (k:Ct (.K::r)),dk (.K::r) (.o x::s) k=Gj x λc y=>Mq c<|dk r (.o y::s) k)/\(∀(r:List Ki) (x:Ab) (s:List It) (k:Ct (.A::r)),dk (.A::r) (.l x::s) k=EE x λc y=>M7 c λz=>dk r (.l z::.l y::s) k)/\(∀(bb oo:Nat) (r:List Ki) (x:Ab) (s:List It) (k:Ct (.P bb oo::r)),dk (.P bb oo::r) (.l x::s) k=EE x λc y=>Lv bb oo c<|dk r (.l y::s) k)/\(∀(r:List Ki) (x:BO) (s:List It) (k:Ct (.Z::r)),dk (.Z::r) (.c x::s) k=dk r s (k x))/\(∀(r:List Ki) (s:List It) (k:Ct (.w::r)),dk (.w::r) s k=dk r s (k ())):=by
 and_intros<;>intros<;>rfl
section
variable {D:Orc}
theorem Afy(x y:KR):br true x y=x:=Eq.trans (b:=x) rfl (Eq.refl x)
theorem Ah{x y z:KR}(g:x=z):br true x y=z:=(Afy x y).trans g
theorem ApV(x y:KR):br false x y=y:=Eq.trans (b:=y) rfl (Eq.refl y)
theorem BR{x y z:KR}(g:y=z):br false x y=z:=(ApV x y).trans g
theorem AI(n:Nat)(k:Nat->KR):unI (n:Int) k=k n:=rfl
theorem Adx{α:Type}(f:α->Ab)(xs:List α)(i:Nat)(k:Ab->KR):Bw (xs.map f) i k=match xs[i]? with
  |some x=>k (f x)
  |none=>none:=by
 unfold Bw;rw[SL,List.getElem?_map]
 cases xs[i]?<;>rfl
theorem Az{α:Type}{f:α->Ab}{xs:List α}{i:Nat}{x:α}(h:xs[i]? = some x)(k:Ab->KR):Bw (xs.map f) i k=k (f x):=by
 rw[Adx,h]
theorem Al{α:Type}(f:α->Ab)(xs:List α):AT (xs.map f)=xs.length:=by rw[Hk,List.length_map]
theorem Afn{key:Key}{args:Ab}{bs:List ABlk}{r:AV}{o:List BO}(h:D.ask key args bs=some (r,o))(k:AV->List BO->KR):AW D key args bs k=k r o:=by
 unfold AW;rw[h]
theorem Aa{D:Orc}{key:Key}{args:Ab}{bs:List ABlk}{r:AV}{o:List BO}{z:KR}{k:AV->List BO->KR}(h:D.ask key args bs=some (r,o))(g:k r o=z):AW D key args bs k=z:=(Afn h k).trans g
theorem Dj(n:Int)(k:Int->KR):JD .i64 (iv n) k=k n:=rfl
theorem AaK(n:Bool)(k:Bool->KR):Mp (bv n) k=k n:=rfl
theorem AeP(n:ByteArray)(k:ByteArray->KR):Rz (sv n) k=k n:=rfl
theorem AkF(n:Rw)(k:Rw->KR):Mr (.ls n) k=k n:=rfl
theorem Bz(n:Ab)(k:Ab->KR):M7 (.agg n) k=k n:=rfl
theorem CC(n:Ab)(k:Ab->KR):PL (.tup n) k=k n:=rfl
theorem DD(n:Int)(r:Ab)(k:Int->Ab->KR):Ng .i64 (iv n::r) k=k n r:=rfl
theorem BG(n:Bool)(r:Ab)(k:Bool->Ab->KR):Qn (bv n::r) k=k n r:=rfl
theorem Afz(n:ByteArray)(r:Ab)(k:ByteArray->Ab->KR):Zm (sv n::r) k=k n r:=rfl
theorem B6(n:Rw)(r:Ab)(k:Rw->Ab->KR):cLs (.ls n::r) k=k n r:=rfl
theorem Br(k:KR):FQ [] k=k:=rfl
theorem Cn(c:AV)(r:Ab)(k:AV->Ab->KR):EE (c::r) k=k c r:=rfl
theorem AZ(k:KR):D2 [] k=k:=rfl
theorem PK(c:BO)(r:List BO)(k:BO->List BO->KR):Gj (c::r) k=k c r:=rfl
theorem M8(k:KR):Mq .keep k=k:=rfl
theorem AaL(k:KR):Rx .del k=k:=rfl
theorem AaO(st ex:Bool)(cs:Ab)(k:Ab->KR):IR st ex (.set ⟨cs,st,ex⟩) k=k cs:=by
 unfold IR;exact Ac ⟨rfl,rfl⟩
theorem AkE(f:Nat)(k:KR):AaM f (.fn (.func f) [] []) k=k:=by simp[AaM]
theorem AaN(b o:Nat)(k:KR):Lv b o (.ptr b o) k=k:=by simp[Lv]
theorem Vy(b e o n:Nat)(k:Nat->Nat->KR):Ry b e (.sl b o n e) k=k o n:=by simp[Ry]
theorem AkG(b e n:Nat)(k:Nat->KR):Xo b e (.sl b 0 n e) k=k n:=by simp[Xo]
theorem AsR:BA 0 (bv true)=true:=rfl
theorem AsQ(n:Int):BA 0 (iv n)=false:=rfl
theorem AsO:BA 1 (iv 0)=true:=rfl
theorem AsP:BA 3 (iv 2)=true:=rfl
theorem ND:(∀(n:Int) (k:Int->KR),JD .i64 (iv n) k=k n)/\(∀(n:Bool) (k:Bool->KR),Mp (bv n) k=k n)/\(∀(n:ByteArray) (k:ByteArray->KR),Rz (sv n) k=k n)/\(∀(n:Rw) (k:Rw->KR),Mr (.ls n) k=k n)/\(∀(n:Ab) (k:Ab->KR),M7 (.agg n) k=k n)/\(∀(n:Ab) (k:Ab->KR),PL (.tup n) k=k n)/\(∀(n:Int) (r:Ab) (k:Int->Ab->KR),Ng .i64 (iv n::r) k=k n r)/\(∀(n:Bool) (r:Ab) (k:Bool->Ab->KR),Qn (bv n::r) k=k n r)/\(∀(n:ByteArray) (r:Ab) (k:ByteArray->Ab->KR),Zm (sv n::r) k=k n r)/\(∀(n:Rw) (r:Ab) (k:Rw->Ab->KR),cLs (.ls n::r) k=k n r)/\(∀(k:KR),FQ [] k=k)/\(∀(c:AV) (r:Ab) (k:AV->Ab->KR),EE (c::r) k=k c r)/\(∀(k:KR),D2 [] k=k)/\(∀(c:BO) (r:List BO) (k:BO->List BO->KR),Gj (c::r) k=k c r)/\(∀(st ex:Bool) (cs:Ab) (k:Ab->KR),IR st ex (.set ⟨cs,st,ex⟩) k=k cs)/\(∀(k:KR),Rx .del k=k)/\(∀(k:KR),Mq .keep k=k)/\(∀(b o:Nat) (k:KR),Lv b o (.ptr b o) k=k)/\(∀(b e n:Nat) (k:Nat->KR),Xo b e (.sl b 0 n e) k=k n)/\(BA 0 (bv true)=true)/\(∀(n:Int),BA 0 (iv n)=false)/\(BA 1 (iv 0)=true)/\(∀(x y:KR),br true x y=x)/\(∀(x y:KR),br false x y=y):=⟨Dj,AaK,AeP,AkF,Bz,CC,DD,BG,Afz,B6,Br,Cn,AZ,PK,AaO,AaL,M8,AaN,AkG,AsR,AsQ,AsO,Afy,ApV⟩
def Aj:=And.intro ND (And.intro DK AkE)
end
instance:LawfulBEq ByteArray where
 eq_of_beq {a b} h:=by
  obtain⟨a⟩:=a;obtain⟨b⟩:=b;rw[IZ]at h;simpa using h
 rfl {a}:=by
  rw[IZ];simp
section
theorem Ar7(a b:Int):Ap.lt a b=decide (a<b):=rfl
theorem Ar6(a b:Int):Ap.le a b=decide (a<=b):=rfl
theorem Ar5(a b:Int):Ap.eq a b=decide (a=b):=by
 show (a == b)=decide (a=b)
 rfl
theorem Ar9(a b:ByteArray):Ap.seq a b=decide (a=b):=by
 show (a.toList == b.toList)=_
 rw[Ty,IZ];obtain⟨a⟩:=a;obtain⟨b⟩:=b
 by_cases h:a=b
 .subst h;simp
 .simp[h]
theorem AdN(b:Bool):Ap.not b = !b:=rfl
theorem Ra(a b:Bool):Ap.beq a b=(a == b):=rfl
theorem Ar8(a b:Int):Ap.min a b=min a b:=by
 show (if b<a then b else a)=_
 omega
theorem GU{a b:Int}(h1:-9223372036854775808<=a+b)(h2:a+b<9223372036854775808):Ap.add .i64 a b=a+b:=by
 show IntKind.i64.wrap (a+b)=a+b
 rw[IntKind.wrap_i64];omega
theorem DZ{a b:Int}(h1:-9223372036854775808<=a-b)(h2:a-b<9223372036854775808):Ap.sub .i64 a b=a-b:=by
 show IntKind.i64.wrap (a-b)=a-b
 rw[IntKind.wrap_i64];omega
theorem BU{i:Nat}(h:i<4611686018427387904):Ap.add .i64 (i:Int) 1=((i+1:Nat):Int):=by
 grind [GU]
end
section
variable {α:Type}
def Ao(e:α->Ab)(l:List α):Ab:=l.flatMap e
theorem Bc(e:α->Ab)(l:List α)(x:α):Ao e l++e x=Ao e (l++[x]):=by simp[Ao]
theorem BC{e:α->Ab}{w:Nat}(he:∀ x,(e x).length=w):∀ l:List α,(Ao e l).length=l.length*w
 |[]=>by simp[Ao]
 |x::r=>by
  have:=BC he r;unfold Ao at this ⊢;rw[List.flatMap_cons,List.length_append,this,he,γ,Nat.add_mul,Nat.one_mul,Nat.add_comm]
theorem Bb{e:α->Ab}{w:Nat}(he:∀ x,(e x).length=w)(l:List α){n:Nat}(hn:n=l.length*w):(Ao e l).take n=Ao e l:=by
 simp_all [Aw5,π,BC]
theorem CZ{e:α->Ab}{w:Nat}(he:∀ x,(e x).length=w):∀ l:List α,Bo l.length w (Ao e l)=l.map e
 |[]=>rfl
 |x::r=>by
  have ih:=CZ he r;simp only[γ,Bo,List.map_cons];have h1:Ao e (x::r)=e x++Ao e r:=by simp[Ao]
  have h2:(e x).length=w:=he x;rw[h1,List.take_append_of_le_length (by omega),Aw5 (by omega),List.drop_append_of_le_length (by omega),List.drop_of_length_le (by omega),Awv,ih]
theorem Bi{e:α->Ab}{w:Nat}(he:∀ x,(e x).length=w)(l:List α){n:Nat}(hn:n=l.length):Bo n w ((Ao e l).take (n*w))=l.map e:=by
 grind [CZ,Bb]
theorem AK{e:α->Ab}{w:Nat}(he:∀ x,(e x).length=w)(l:List α){n:Nat}(hn:n=l.length*w):Awf n (Ao e l).length=true:=by
 rw[BC he,hn];simp
theorem FG{e:α->Ab}(he:∀ x,Gv (e x)=true):∀ l:List α,Gv (Ao e l)=true
 |[]=>rfl
 |x::r=>by
  have ih:=FG he r;have h1:Ao e (x::r)=e x++Ao e r:=by simp[Ao]
  rw[h1];rw[Ga]at ih ⊢;rw[List.all_append,ih,Bool.and_true,←Ga];exact he x
theorem Eo(e:α->Ab)(l:List α):E8 (l.map e)=Ao e l:=by
 rw[KF];rfl
theorem El{e:α->Ab}{w:Nat}(he:∀ x,(e x).length=w)(l:List α):EG w (l.map e)=true:=by
 rw[IT];simp[he]
theorem AP{n b:Nat}(hn:n<=1099511627776)(hb:b<=128):Ba n b=true:=by
 unfold Ba;have:n*b<=1099511627776*128:=Nat.mul_le_mul hn hb;have h1:Awf (n*b) 140737488355328=true:=by simp;omega
 rw[h1];simp[maxLen];omega
end
end Go.Proofs.YtpncilciembjdaaGreatDoor
