/- The same run with what c -/
import Derived.Test.YtlmhajfbpplpoaaGreatMAL
import Derived.ProofKit
import Derived.Test.YtlmhajfbpplpoaaGreatChecked
set_option linter.all false
open Bool renaming and_eq_true->AvF,and_true->Axa,false_and->Awb,or_eq_true->AxU
open List renaming all_cons->Axc,all_eq_true->AvJ,append_assoc->AvO,append_nil->Awc,drop_eq_getElem_cons->ω,flatten_cons->Aww,getElem?_eq_getElem->Ω,getElem_mem->AvN,length_append->ζ,length_cons->ε,length_map->Av8,map_cons->AvT,mem_cons->AvK,nil_append->AvV,take_of_length_le->AwJ
open Nat renaming beq->Av5,ble->AvL,blt->Awv,eq_of_beq_eq_true->AvY,le_refl->η,lt_of_lt_of_le->Awp,min->AwA,zero_add->AvW,zero_le->Awh
open Option renaming isNone_iff_eq_none->Ax9
namespace Go.Proofs.YtlmhajfbpplpoaaGreat
noncomputable section
open AV renaming agg->Φ,fn->Av2,ls->Ξ,ptr->ψ,tup->γ
open IntKind renaming i64->φ
open Key renaming fn->δ,lp->ι
open Option.some renaming injEq->ξ
open Tryz renaming prog->π
section
open Go.RowKit
abbrev KR:=Option (AV × List BO)
inductive Sh where
 |int (k:IntKind)
 |bool
 |str
 |ls
 |lp (l:List Sh)
 |agg (l:List Sh)
 |tup (l:List Sh)
 |sl (b e:Nat)
 |slo (b e:Nat)
 |ptr (b o:Nat)
 |cst (v:Value)
 |fnc (f:Nat)
 |any
inductive Os where
 |keep
 |del
 |row (st:Bool)
 |box (l:List Sh)
def br(b:Bool)(x y:KR):KR:=match b with
 |true=>x
 |false=>y
def unI(n:Int)(k:Nat->KR):KR:=match n with
 |.ofNat i=>k i
 |.negSucc _=>none
def A4(xs:List Ab)(i:Nat)(k:Ab->KR):KR:=match VN xs i with
 |some cs=>k cs
 |none=>none
def Gf(cells:Ab)(o n:Nat)(k:Ab->KR):KR:=match AvL (o+n) cells.length with
 |true=>k ((cells.drop o).take n)
 |false=>none
def AJ(D:Orc)(key:Key)(args:Ab)(bs:List ABlk)(k:AV->List BO->KR):KR:=match D.ask key args bs with
 |some r=>k r.1 r.2
 |none=>none
def Kb(kd:IntKind)(x:AV)(k:Int->KR):KR:=match x with
 |.v (.int k' n)=>if k'=kd then k n else none
 |_=>none
def GU(x:AV)(k:Bool->KR):KR:=match x with
 |.v (.bool b)=>k b
 |_=>none
def N1(x:AV)(k:ByteArray->KR):KR:=match x with
 |.v (.string s)=>k s
 |_=>none
def Mr(x:AV)(k:List Ab->KR):KR:=match x with
 |.ls xs=>k xs
 |_=>none
def Asa(x:AV)(k0:KR)(k:Ab->KR):KR:=match x with
 |.v (.pointer none)=>k0
 |.lp cs=>k cs
 |_=>none
def N0(x:AV)(k:Ab->KR):KR:=match x with
 |.agg cs=>k cs
 |_=>none
def Mt(x:AV)(k:Ab->KR):KR:=match x with
 |.tup cs=>k cs
 |_=>none
def YJ(b e:Nat)(x:AV)(k:Nat->KR):KR:=match x with
 |.sl b' 0 n e'=>(match Av5 b b',Av5 e e' with
  |true,true=>k n
  |_,_=>none)
 |_=>none
def Anp(b e:Nat)(x:AV)(k:Nat->Nat->KR):KR:=match x with
 |.sl b' o n e'=>(match Av5 b b',Av5 e e' with
  |true,true=>k o n
  |_,_=>none)
 |_=>none
def Ms(b o:Nat)(x:AV)(k:KR):KR:=match x with
 |.ptr b' o'=>(match Av5 b b',Av5 o o' with
  |true,true=>k
  |_,_=>none)
 |_=>none
def Acz(f:Nat)(x:AV)(k:KR):KR:=match x with
 |.fn (.func g) [] []=>(match Av5 f g with
  |true=>k
  |false=>none)
 |_=>none
def AlZ:Value->Value->Bool
 |.slice none 0 0,.slice none 0 0=>true
 |.pointer none,.pointer none=>true
 |_,_=>false
def Wy(v:Value)(x:AV)(k:KR):KR:=match x with
 |.v u=>(match AlZ v u with
  |true=>k
  |false=>none)
 |_=>none
def EB(cs:Ab)(k:KR):KR:=match cs with
 |[]=>k
 |_::_=>none
def Ff(cs:Ab)(k:AV->Ab->KR):KR:=match cs with
 |[]=>none
 |c::r=>k c r
def OX(kd:IntKind)(cs:Ab)(k:Int->Ab->KR):KR:=match cs with
 |.v (.int k' n)::r=>if k'=kd then k n r else none
 |_=>none
def Rb(cs:Ab)(k:Bool->Ab->KR):KR:=match cs with
 |.v (.bool b)::r=>k b r
 |_=>none
def AaL(cs:Ab)(k:ByteArray->Ab->KR):KR:=match cs with
 |.v (.string s)::r=>k s r
 |_=>none
def cLs(cs:Ab)(k:List Ab->Ab->KR):KR:=match cs with
 |.ls xs::r=>k xs r
 |_=>none
def Fj(o:List BO)(k:BO->List BO->KR):KR:=match o with
 |[]=>none
 |c::r=>k c r
def CB(o:List BO)(k:KR):KR:=match o with
 |[]=>k
 |_::_=>none
def Nl(o:BO)(k:KR):KR:=match o with
 |.keep=>k
 |_=>none
def Sp(o:BO)(k:KR):KR:=match o with
 |.del=>k
 |_=>none
def GD(st ex:Bool)(o:BO)(k:Ab->KR):KR:=match o with
 |.set ⟨cs,st',ex'⟩=>if st'=st/\ex'=ex then k cs else none
 |_=>none
def AT(k:Nat)(x:AV):Bool:=match k,x with
 |0,.v (.bool true)=>true
 |i+1,.v (.int .i64 (.ofNat j))=>Av5 i j
 |_,_=>false
mutual
def DB:Sh->AV->(AV->KR)->KR
 |.int kd,x,K=>Kb kd x λn=>K (.v (.int kd n))
 |.bool,x,K=>GU x λb=>K (.v (.bool b))
 |.str,x,K=>N1 x λs=>K (.v (.string s))
 |.ls,x,K=>Mr x λxs=>K (.ls xs)
 |.lp l,x,K=>Asa x (K (.v (.pointer none))) λcs=>CG l cs λcs=>K (.lp cs)
 |.agg l,x,K=>N0 x λcs=>CG l cs λcs=>K (.agg cs)
 |.tup l,x,K=>Mt x λcs=>CG l cs λcs=>K (.tup cs)
 |.sl b e,x,K=>YJ b e x λn=>K (.sl b 0 n e)
 |.slo b e,x,K=>Anp b e x λo n=>K (.sl b o n e)
 |.ptr b o,x,K=>Ms b o x (K (.ptr b o))
 |.cst v,x,K=>Wy v x (K (.v v))
 |.fnc f,x,K=>Acz f x (K (.fn (.func f) [] []))
 |.any,x,K=>K x
def CG:List Sh->Ab->(Ab->KR)->KR
 |[],cs,K=>EB cs (K [])
 |.int kd::l,cs,K=>OX kd cs λn r=>CG l r λr=>K (.v (.int kd n)::r)
 |.bool::l,cs,K=>Rb cs λn r=>CG l r λr=>K (.v (.bool n)::r)
 |.str::l,cs,K=>AaL cs λn r=>CG l r λr=>K (.v (.string n)::r)
 |.ls::l,cs,K=>cLs cs λn r=>CG l r λr=>K (.ls n::r)
 |s::l,cs,K=>Ff cs λc r=>DB s c λc=>CG l r λr=>K (c::r)
end
def Gr:List Os->List BO->(List BO->KR)->KR
 |[],o,K=>CB o (K [])
 |s::l,o,K=>Fj o λc r=>(match s with
  |.keep=>Nl c (Gr l r λr=>K (.keep::r))
  |.del=>Sp c (Gr l r λr=>K (.del::r))
  |.row st=>GD st true c λcs=>Gr l r λr=>K (.set ⟨cs,st,true⟩::r)
  |.box m=>GD true false c λcs=>CG m cs λcs=>Gr l r λr=>K (.set ⟨cs,true,false⟩::r))
inductive Sc where
 |n
 |b (x y:Sc)
 |t (x:Sc)
 |f (x:Sc)
def brS(s:Sc)(c:Bool)(x y:Sc->KR):KR:=match s with
 |.n=>br c (x .n) (y .n)
 |.b p q=>br c (x p) (y q)
 |.t p=>br c (x p) none
 |.f p=>br c none (y p)
def KM(α:Type):=AH->Sc->(α->AH->Foot->Sc->KR)->KR
namespace KM
variable {α β:Type}
def ret(a:α):KM α:=λH s k=>k a H ⟨[],[]⟩ s
def fail:KM α:=λ_ _ _=>none
def bind(m:KM α)(f:α->KM β):KM β:=λH s k=>m H s λa H1 f1 s=>f a H1 s λb H2 f2 s=>k b H2 ⟨f1.rd++f2.rd,f1.wr++f2.wr⟩ s
def gen(m:AM α):KM α:=λH s k=>match m H with
 |some (a,H',f)=>k a H' f s
 |none=>none
def opt:Option α->KM α
 |some a=>ret a
 |none=>fail
def brk(b:Bool)(x y:KM α):KM α:=λH s k=>brS s b (λs=>x H s k) (λs=>y H s k)
def test(b:Bool)(x:KM α):KM α:=λH s k=>br b (x H s k) none
def unI(n:Int)(f:Nat->KM α):KM α:=λH s k=>Go.Proofs.YtlmhajfbpplpoaaGreat.unI n λi=>f i H s k
def nth(xs:List Ab)(i:Nat)(f:Ab->KM α):KM α:=λH s k=>A4 xs i λcs=>f cs H s k
def rd(cells:Ab)(o n:Nat):KM Ab:=λH s k=>Gf cells o n λcs=>k cs H ⟨[],[]⟩ s
def exp(t:Sh)(x:AV):KM AV:=λH s k=>DB t x λy=>k y H ⟨[],[]⟩ s
def expL(l:List Sh)(x:Ab):KM Ab:=λH s k=>CG l x λy=>k y H ⟨[],[]⟩ s
def expO(l:List Os)(x:List BO):KM (List BO):=λH s k=>Gr l x λy=>k y H ⟨[],[]⟩ s
def ask(D:Orc)(key:Key)(args:Ab)(bs:List ABlk):KM (AV × List BO):=λH s k=>AJ D key args bs λr o=>k (r,o) H ⟨[],[]⟩ s
def idx(x:AV)(f:Nat->KM α):KM α:=match x with
 |.v (.int _ n)=>unI n f
 |_=>fail
def idxO(n:Nat)(x:Option AV)(f:Nat->KM α):KM α:=match x with
 |some x=>idx x f
 |none=>f n
end KM
def AU(n bytes:Nat):Bool:=match AvL (n*bytes) 140737488355328 with
 |true=>AvL n maxLen
 |false=>false
def J1(l h n:Nat):Bool:=match AvL l h with
 |true=>AvL h n
 |false=>false
structure Hnt where
 fn:List (Nat × (Sh × List Os))
 lp:List (Nat × List (Nat × (List Sh × List Os)))
 tm:List (Nat × List Sh)
def BX{α:Type}(n:Nat):List (Nat × α)->Option α
 |[]=>none
 |(m,a)::r=>match Av5 n m with
  |true=>some a
  |false=>BX n r
section
variable (A:Ar) (D:Orc) (own:List (Nat × Nat)) (Hn:Hnt)
def tmK(d:Option Nat)(cs:Ab):KM Ab:=match d with
 |some d=>(match BX d Hn.tm with
  |some l=>KM.expL l cs
  |none=>KM.ret cs)
 |none=>KM.ret cs
def Aaa(d:Option Nat)(a:AV)(n:Nat):KM Ab:=match a with
 |.ptr b o=>(KM.gen (AM.getB b)).bind λk=>(KM.rd k.cells o n).bind λcs=>match k.ex with
  |true=>tmK Hn d cs
  |false=>KM.ret cs
 |a=>KM.gen (rdAt a n)
def Afv(d:Option Nat)(row:Bool)(n:Nat)(a:AV):KM AV:=match row with
 |true=>(Aaa Hn d a n).bind λcs=>KM.ret (.agg cs)
 |false=>(Aaa Hn d a 1).bind λcs=>KM.opt (Ye cs)
def YA(n:Nat)(a x:AV):KM AV:=match a with
 |.ptr b o=>
  if x.cells.length=n/\x.cells.all AV.one=true then
   (KM.gen (AM.getB b)).bind λk=>if k.st=true/\(!k.ex||A6 x.cells)=true then KM.test (AvL (o+n) k.cells.length) ((KM.gen (AM.setB b { k with cells:=Bv k.cells o x.cells })).bind λ_=>KM.ret AV.undef) else KM.fail
  else KM.fail
 |_=>KM.fail
def XO(d:Option Nat)(e:Nat)(x ix:AV):KM AV:=KM.idx ix λi=>match x with
 |.sl b o n e'=>KM.test (Awv i n) (if e'=e then KM.ret (.ptr b (o+i*e)) else KM.fail)
 |.ls xs=>KM.nth xs i λcs=>(tmK Hn d cs).bind λcs=>(match Av5 cs.length e with
  |true=>KM.ret (.lp cs)
  |false=>KM.fail)
 |_=>KM.fail
def WS(n e:Nat)(x ix:AV):KM AV:=KM.idx ix λi=>KM.test (Awv i n) (KM.opt (PF x (i*e)))
def XQ(d:Option Nat)(n e:Nat)(row:Bool)(sz:Nat)(x ix:AV):KM AV:=KM.idx ix λi=>match x with
 |.agg cs=>KM.test (Awv i n) ((KM.rd cs (i*e) (match row with
  |true=>sz
  |false=>1)).bind λxs=>(match row with
  |true=>KM.ret (.agg xs)
  |false=>KM.opt (Ye xs)))
 |_=>KM.fail
def Yw(e:Nat)(x:AV)(lo hi:Option AV):KM AV:=match x with
 |.sl b o n e'=>KM.idxO 0 lo λl=>KM.idxO n hi λh=>KM.test (J1 l h n) (match Av5 e' e with
  |true=>KM.ret (.sl b (o+l*e) (h-l) e)
  |false=>KM.fail)
 |.ls xs=>KM.idxO 0 lo λl=>KM.idxO (AP xs) hi λh=>KM.test (J1 l h (AP xs)) (KM.test (GH e xs) (KM.ret (.ls (IS (Jo xs h) l))))
 |_=>KM.fail
def AnM(b:BinOp)(x y:AV):KM AV:=match x,y with
 |.v (.int k a),.v (.int k' c)=>(match b with
  |.shl=>KM.brk (A.lt c 0) KM.fail (KM.ret (.v (.int k (A.shl k a c))))
  |.shr=>KM.brk (A.lt c 0) KM.fail (KM.ret (.v (.int k (A.shr k a c))))
  |.quo=>if k=k' then KM.brk (A.eq c 0) KM.fail (KM.ret (.v (.int k (A.quo k a c)))) else KM.fail
  |.rem=>if k=k' then KM.brk (A.eq c 0) KM.fail (KM.ret (.v (.int k (A.rem k a c)))) else KM.fail
  |.neq=>if k=k' then KM.brk (A.eq a c) (KM.ret (.v (.bool false))) (KM.ret (.v (.bool true))) else KM.fail
  |b=>KM.opt (Lh A b (.v (.int k a)) (.v (.int k' c))))
 |.v (.string a),.v (.string c)=>(match b with
  |.add=>KM.test (AvL (A.slen a+A.slen c) 9223372036854775807) (KM.ret (.v (.string (A.cat a c))))
  |.neq=>KM.brk (A.seq a c) (KM.ret (.v (.bool false))) (KM.ret (.v (.bool true)))
  |b=>KM.opt (Lh A b (.v (.string a)) (.v (.string c))))
 |x,y=>KM.opt (Lh A b x y)
def AgT(x i:AV):KM AV:=match x with
 |.v (.string s)=>KM.idx i λi=>KM.test (Awv i (A.slen s)) (KM.ret (.v (.int .u8 (A.sat s i))))
 |_=>KM.fail
def TS(x:AV)(lo hi:Option AV):KM AV:=match x with
 |.v (.string s)=>KM.idxO 0 lo λl=>KM.idxO (A.slen s) hi λh=>KM.test (J1 l h (A.slen s)) (KM.ret (.v (.string (A.ssub s l h))))
 |_=>KM.fail
def ZW(e:Nat)(x:AV):KM (Nat × Ab):=match x with
 |.sl b o n e'=>if e'=e then(KM.gen (AM.getB b)).bind λk=>KM.test (AvL (o+n*e) k.cells.length) (match (k.ex||A6 ((k.cells.drop o).take (n*e))) with
   |true=>KM.ret (n,(k.cells.drop o).take (n*e))
   |false=>KM.fail)
   else KM.fail
 |.ls xs=>KM.test (GH e xs) (KM.ret (AP xs,Kz xs))
 |.v (.slice none 0 0)=>KM.ret (0,[])
 |_=>KM.fail
def AkO(e bytes:Nat)(s:AV)(m:Nat)(xs:Ab):KM AV:=match s with
 |.v (.slice none 0 0)=>KM.test (AU m bytes) ((KM.gen (AM.newB ⟨xs,true,true⟩)).bind λb=>KM.ret (.sl b 0 m e))
 |.sl b o n e'=>(match Av5 e' e with
  |true=>KM.test (AU (n+m) bytes) ((KM.gen (AM.getB b)).bind λk=>match k.ex,k.st with
   |true,true=>KM.test (AvL (o+n*e) k.cells.length) ((KM.gen (AM.delB b)).bind λ_=>(KM.gen (AM.newB ⟨(k.cells.take (o+n*e)).drop o++xs,true,true⟩)).bind λb'=>KM.ret (.sl b' 0 (n+m) e))
   |true,false=>KM.test (Av5 (o+n*e) k.cells.length) ((KM.gen (AM.setB b { k with ex:=false })).bind λ_=>(KM.gen (AM.newB ⟨(k.cells.take (o+n*e)).drop o++xs,false,true⟩)).bind λb'=>KM.ret (.sl b' 0 (n+m) e))
   |_,_=>KM.fail)
  |false=>KM.fail)
 |_=>KM.fail
def YR(e bytes:Nat)(s:AV)(r:Nat × Ab):KM AV:=KM.brk (Av5 r.1 0) (if QU s=true then KM.ret s else KM.fail) (KM.test (LQ r.2) (AkO e bytes s r.1 r.2))
def ApV(e bytes:Nat)(s x:AV):KM AV:=(ZW e x).bind λr=>YR e bytes s r
def Ac7(z:AN)(e bytes:Nat)(s x:AV):KM AV:=KM.idx x λm=>KM.test (AvL m 9223372036854775807) (YR e bytes s (m,Cr (z.map .v) (m*e)))
def AfK(z:AN)(e bytes:Nat)(l c:AV):KM AV:=KM.idx l λn=>KM.idx c λm=>KM.test (AvL n m) (KM.test (AU m bytes) ((KM.gen (AM.newB ⟨Cr (z.map .v) (n*e),true,true⟩)).bind λb=>KM.ret (.sl b 0 n e)))
def AnU(e:Nat)(d x:AV):KM AV:=match d with
 |.sl b o n e'=>(match Av5 e' e with
  |true=>(ZW e x).bind λr=>KM.test (LQ (r.2.take (AwA r.1 n*e))) ((KM.gen (AM.getB b)).bind λk=>match k.st with
    |true=>KM.test (AvL (o+n*e) k.cells.length) ((KM.gen (AM.setB b { k with cells:=Bv k.cells o (r.2.take (AwA r.1 n*e)) })).bind λ_=>KM.ret (.v (.int .i64 (Int.ofNat (AwA r.1 n)))))
    |false=>KM.fail)
  |false=>KM.fail)
 |_=>KM.fail
def AnS(z:AN)(e:Nat)(x:AV):KM AV:=match x with
 |.sl b o n e'=>(match Av5 e' e with
  |true=>(KM.gen (AM.getB b)).bind λk=>match k.st with
   |true=>KM.test (AvL (o+n*e) k.cells.length) ((KM.gen (AM.setB b { k with cells:=Bv k.cells o (Cr (z.map .v) (n*e)) })).bind λ_=>KM.ret (.tup []))
   |false=>KM.fail
  |false=>KM.fail)
 |_=>KM.fail
mutual
def UG:Nat->AV->KM AV
 |0,x=>KM.gen (frz0 x)
 |n+1,x=>match x with
  |.v z=>KM.ret (PJ z)
  |.sl b o m e=>(KM.gen (AM.getB b)).bind λk=>KM.test (AvL (o+m*e) k.cells.length) ((match k.st with
    |true=>KM.gen (AM.setB b { k with st:=false })
    |false=>KM.ret ()).bind λ_=>match (k.ex||A6 ((k.cells.drop o).take (m*e))) with
     |true=>KM.ret (.ls (Bo m e ((k.cells.drop o).take (m*e))))
     |false=>(Lv n ((k.cells.drop o).take (m*e))).bind λcs=>match A6 cs with
      |true=>KM.ret (.ls (Bo m e cs))
      |false=>KM.fail)
  |.agg cs=>(Lv n cs).bind λcs=>KM.ret (.agg cs)
  |.tup cs=>(Lv n cs).bind λcs=>KM.ret (.tup cs)
  |x=>KM.ret x
def Lv:Nat->Ab->KM Ab
 |_,[]=>KM.ret []
 |0,_::_=>KM.fail
 |n+1,x::r=>(UG n x).bind λx=>(Lv n r).bind λr=>KM.ret (x::r)
end
def Aev(b:Nat):KM Unit:=(KM.gen (AM.getB b)).bind λk=>match k.ex,k.st with
 |false,true=>(Lv 1000 k.cells).bind λcs=>(KM.gen (AM.getB b)).bind λk2=>(match k2.ex,Av5 cs.length k2.cells.length with
  |false,true=>KM.gen (AM.setB b { k2 with cells:=cs })
  |_,_=>KM.fail)
 |_,_=>KM.ret ()
def Lw:Al->Ab->KM Ab
 |[],T=>KM.ret T
 |t::r,T=>match T[t]? with
  |some (.ptr b _)=>(Aev b).bind λ_=>Lw r T
  |some x=>(UG 1000 x).bind λy=>Lw r (T.set t y)
  |none=>Lw r T
def Rq(f:Nat):Nat->Ab->KM Ab
 |_,[]=>KM.ret []
 |i,x::r=>match Af3 own f i with
  |true=>(Rq f (i+1) r).bind λr=>KM.ret (x::r)
  |false=>(UG 1000 x).bind λx=>(Rq f (i+1) r).bind λr=>KM.ret (x::r)
def SO(key:Key)(e:AV × List BO->KM (AV × List BO))(args:Ab):KM AV:=
 (KM.gen (trav 4096 (EY args) [])).bind λL=>(KM.gen (readAll L)).bind λbs=>
  ((KM.ask D key (IH (λb=>idx b L) args) (bs.map (ABlk.ren λb=>idx b L))).bind e).bind λr=>
    match QN r.2.length r.1.ids,Un r.2.length r.2 with
    |true,true=>(KM.gen nextB).bind λn=>(KM.gen (writeAll (Iw L n) L r.2)).bind λout=>(KM.gen (newAll (Iw L n) out)).bind λ_=>KM.ret (r.1.ren (Iw L n))
    |_,_=>KM.fail
def ansF(f:Nat)(r:AV × List BO):KM (AV × List BO):=match BX f Hn.fn with
 |some (s,l)=>(KM.exp s r.1).bind λx=>(KM.expO l r.2).bind λo=>KM.ret (x,o)
 |none=>KM.ret r
def SP(f:FuncId)(args:Ab):KM AV:=(Rq own f 0 args).bind λl=>SO D (.fn f) (ansF Hn f) l
def Adb:Nat->AV
 |0=>.v (.bool true)
 |i+1=>.v (.int .i64 (Int.ofNat i))
def ansX:List (Nat × (List Sh × List Os))->AV->Ab->List BO->KM (AV × List BO)
 |[],_,_,_=>KM.fail
 |(k,s,l)::r,x,ys,o=>KM.brk (AT k x) ((KM.expL s ys).bind λys=>(KM.expO l o).bind λo=>KM.ret (.tup (Adb k::ys),o)) (ansX r x ys o)
def ansL(i:Nat)(r:AV × List BO):KM (AV × List BO):=match BX i Hn.lp with
 |some l=>λH s k=>Mt r.1 λcs=>Ff cs λx ys=>ansX l x ys r.2 H s k
 |none=>KM.ret r
def XZ(f i:Nat)(xs:Ab):KM (AX × Ab):=(SO D (.lp f i) (ansL Hn i) xs).bind λr=>match r with
 |.tup (x::ys)=>(match WW x with
  |some ax=>KM.ret (ax,ys)
  |none=>KM.fail)
 |_=>KM.fail
def opK(d:Option Nat)(o:MO)(T:Ab):KM AV:=match o with
 |.pick c a b=>(match AS T c with
  |.v (.bool t)=>KM.brk t (KM.ret (AS T a)) (KM.ret (AS T b))
  |_=>KM.fail)
 |.ld row n a=>Afv Hn d row n (AS T a)
 |.st n a x=>YA n (AS T a) (AS T x)
 |.bin ek b x y=>(match ek with
  |0=>AnM A b (AS T x) (AS T y)
  |ek=>KM.opt (Ah0 A ek b (AS T x) (AS T y)))
 |.slice e x lo hi=>Yw e (AS T x) (lo.map (AS T)) (hi.map (AS T))
 |.iaddr e x i=>XO Hn d e (AS T x) (AS T i)
 |.aaddr n e x i=>WS n e (AS T x) (AS T i)
 |.index n e row sz x i=>XQ d n e row sz (AS T x) (AS T i)
 |.mksl z e bytes l c=>AfK z e bytes (AS T l) (AS T c)
 |.app e bytes s x=>ApV e bytes (AS T s) (AS T x)
 |.appz z e bytes s x=>Ac7 z e bytes (AS T s) (AS T x)
 |.cpy e d x=>AnU e (AS T d) (AS T x)
 |.clr z e x=>AnS z e (AS T x)
 |.sidx x i=>AgT A (AS T x) (AS T i)
 |.sslice x lo hi=>TS A (AS T x) (lo.map (AS T)) (hi.map (AS T))
 |.callF f args=>SP D own Hn f (QW T args)
 |.callV ents x args=>(match AS T x with
  |.fn (.func g) a cs=>(match ents.testBit g with
   |true=>SP D own Hn g (a++QW T args++cs)
   |false=>KM.fail)
  |_=>KM.fail)
 |o=>KM.gen (mop A (λ_ _=>AM.fail) o T)
def Ady(o:MOp)(T:Ab):KM AV:=match o.g with
 |none=>opK A D own Hn o.dst o.op T
 |some (d,want)=>(match T[d]? with
  |some (.v (.bool b))=>KM.brk (match want with
   |true=>b
   |false=>A.not b) (opK A D own Hn o.dst o.op T) (KM.ret AV.undef)
  |some (.v (.tuple _))=>KM.ret AV.undef
  |_=>KM.fail)
def Aoa(v:Value)(k:Value->KR):KR:=match v with
 |.int kd n=>k (.int kd n)
 |.bool b=>k (.bool b)
 |.string s=>k (.string s)
 |.tuple t=>k (.tuple t)
 |v=>k v
theorem Ail(v:Value)(k:Value->KR):Aoa v k=k v:=by
 unfold Aoa;split<;>rfl
def gL(f:AV->(AV->KR)->KR)(l:Ab)(k:Ab->KR):KR:=match l with
 |[]=>k []
 |x::r=>f x λx=>gL f r λr=>k (x::r)
theorem AkN{f:AV->(AV->KR)->KR}(hf:∀ x k,f x k=k x):∀(l:Ab) (k:Ab->KR),gL f l k=k l
 |[],_=>rfl
 |x::r,k=>by simp only[gL,hf,AkN hf r]
def gAV(d:Nat)(x:AV)(k:AV->KR):KR:=match d with
 |0=>k x
 |d+1=>match x with
  |.v x=>Aoa x λx=>k (.v x)
  |.ptr b o=>k (.ptr b o)
  |.sl b o n e=>k (.sl b o n e)
  |.ls xs=>k (.ls xs)
  |.lp cs=>gL (gAV d) cs λcs=>k (.lp cs)
  |.agg cs=>gL (gAV d) cs λcs=>k (.agg cs)
  |.tup cs=>gL (gAV d) cs λcs=>k (.tup cs)
  |.fn f a c=>gL (gAV d) a λa=>gL (gAV d) c λc=>k (.fn f a c)
  |.any=>k .any
theorem Aey:∀(d:Nat) (x:AV) (k:AV->KR),gAV d x k=k x
 |0,_,_=>rfl
 |d+1,x,k=>by cases x<;>simp only[gAV,Ail,AkN (Aey d)]
def gB(e:Bool)(x:AV)(s:Sc)(k:AV->Sc->KR):KR:=match e,x with
 |true,.v (.bool b)=>brS s b (λs=>k (.v (.bool true)) s) (λs=>k (.v (.bool false)) s)
 |_,x=>k x s
def An8:MO->Bool
 |.mv _=>false
 |.ld _ _ _=>false
 |.field _ _ _ _=>false
 |.ext _ _=>false
 |_=>true
def gSp{β:Type}(l:List β)(k:List β->KR):KR:=match l with
 |[]=>k []
 |x::r=>gSp r λr=>k (x::r)
theorem XE{β:Type}:∀(l:List β) (k:List β->KR),gSp l k=k l
 |[],_=>rfl
 |x::r,k=>by simp only[gSp,XE r]
def gBl(l:List (Nat × ABlk))(k:List (Nat × ABlk)->KR):KR:=match l with
 |[]=>k []
 |(b,⟨cs,st,ex⟩)::r=>gBl r λr=>k ((b,⟨cs,st,ex⟩)::r)
theorem Aez:∀(l:List (Nat × ABlk)) (k:List (Nat × ABlk)->KR),gBl l k=k l
 |[],_=>rfl
 |(b,⟨cs,st,ex⟩)::r,k=>by simp only[gBl,Aez r]
def gH(H:AH)(k:AH->KR):KR:=match H with
 |⟨l,n,t⟩=>gBl l λl=>k ⟨l,n,t⟩
theorem Aqt(H:AH)(k:AH->KR):gH H k=k H:=by
 simp_all [gH,Aez]
def gFt(f:Foot)(k:Foot->KR):KR:=match f with
 |⟨rd,wr⟩=>gSp rd λrd=>gSp wr λwr=>k ⟨rd,wr⟩
theorem An9(f:Foot)(k:Foot->KR):gFt f k=k f:=by
 simp_all [gFt,XE]
def AjO:List MOp->Ab->AH->Sc->(Ab->AH->List Foot->Sc->KR)->KR
 |[],T,H,s,k=>k T H [] s
 |o::r,T,H,s,k=>Ady A D own Hn o T H s λv H f s=>gAV 3 v λv=>gB (An8 o.op) v s λv s=>gSp (Cx T o.dst v) λT=>gFt f λf=>gH H λH=>AjO r T H s λT H fs s=>k T H (f::fs) s
def Apa(ops:List MOp)(bf:Option (Al))(T:Ab):KM (AX × Ab):=λH s k=>AjO A D own Hn ops T H s λT H fs s=>match bf with
 |none=>k (.normal,T) H ⟨fs.flatMap (·.rd),fs.flatMap (·.wr)⟩ s
 |some bf=>(match Fe bf fs with
  |true=>k (.normal,T) H ⟨fs.flatMap (·.rd),fs.flatMap (·.wr)⟩ s
  |false=>none)
def evK(f:Nat):MC->Ab->KM (AX × Ab)
 |.skip,T=>KM.ret (.normal,T)
 |.reg ops bf,T=>Apa A D own Hn ops bf T
 |.seq a b,T=>(evK f a T).bind λr=>match r.1 with
  |.normal=>evK f b r.2
  |ax=>KM.ret (ax,r.2)
 |.cond c a b,T=>(match AS T c with
  |.v (.bool t)=>KM.brk t (evK f a T) (evK f b T)
  |_=>KM.fail)
 |.block id c,T=>(evK f c T).bind λr=>match r.1 with
  |.exit i=>if i=id then KM.ret (.normal,r.2) else KM.ret (.exit i,r.2)
  |ax=>KM.ret (ax,r.2)
 |.loop i h,T=>(KM.gen (adoptM h.ad T)).bind λT=>(Lw h.fz T).bind λT=>match Av5 T.length h.n with
  |true=>(XZ D Hn f i (CE h.live T)).bind λr=>KM.ret (r.1,Ce (h.out r.1) h.n r.2)
  |false=>KM.fail
 |.exit id,T=>KM.ret (.exit id,T)
 |.ret,T=>KM.ret (.ret,T)
 |.bad,_=>KM.fail
def Agp(T:Ab):List MRes->KM Ab
 |[]=>KM.ret []
 |.tmp t::r=>(Agp T r).bind λl=>KM.ret ((T[t]?).getD AV.undef::l)
 |.cell x row n::r=>(Afv Hn none row n ((T[x]?).getD AV.undef)).bind λv=>(Agp T r).bind λl=>KM.ret (v::l)
def Pa(n:Nat)(r:AV)(H:AH)(ft:Foot):KR:=
 match (El 0 n).map (Yg H ft.wr)++(El n (H.next-n)).map (Ajs H) with
 |out=>(match GN n out 4096 (r.ids++XP (J8 out n)) []with
  |none=>none
  |some acc=>some (r.ren (gcN n acc),Agm (gcN n acc) (J8 out n)++VV (gcN n acc) out acc))
def Bp(s:Sc)(f:Nat)(mf:MFn)(args:Ab)(bs:List ABlk):KR:=((evK A D own Hn f mf.body (S6 mf.nt args)).bind λr=>match r.1 with
 |.exit _=>KM.fail
 |.goto _=>KM.fail
 |_=>(Agp Hn r.2 mf.res).bind λl=>(match mf.own with
  |true=>KM.ret (JT l)
  |false=>UG 1000 (JT l)).bind λv=>match mf.tch with
   |true=>(KM.gen (touchI (EY args))).bind λ_=>KM.ret v
   |false=>KM.ret v) ⟨Du 0 bs,bs.length,none⟩ s λv H ft _=>Pa bs.length v H ft
def AfU(n:Nat):Al->Al
 |[]=>[]
 |x::r=>match Awv x n,Gk x r with
  |true,false=>x::AfU n r
  |_,_=>AfU n r
def AG(n:Nat)(L:Al)(H:AH)(wr:Al)(r:AV)(o:List BO):KR:=match QN o.length r.ids,Un o.length o with
 |true,true=>(match (nextB.bind λn=>(writeAll (Iw L n) L o).bind λout=>(newAll (Iw L n) out).bind λ_=>AM.ret (r.ren (Iw L n))) H with
  |some (.tup (x::ys),H',f)=>(match WW x with
   |some ax=>Pa n (.tup (axA ax::ys)) H' ⟨[],wr++f.wr⟩
   |none=>none)
  |_=>none)
 |_,_=>none
def Ao9(f i:Nat)(xs:Ab)(H:AH)(ft:Foot)(n:Nat):KR:=match trav 4096 (EY xs) [] H with
 |some (L,_,f1)=>(match readAll L H with
  |some (bs,_,f2)=>AJ D (.lp f i) (IH (λb=>idx b L) xs) (bs.map (ABlk.ren λb=>idx b L)) λr o=>AG n L H (AfU n (ft.wr++(f1.wr++f2.wr))) r o
  |none=>none)
 |none=>none
def CT(s:Sc)(f i:Nat)(h:LpH)(c:MC)(xs:Ab)(bs:List ABlk):KR:=evK A D own Hn f c (Ce h.live h.n xs) ⟨Du 0 bs,bs.length,none⟩ s λr H ft s=>match r.1 with
 |.normal=>Lw h.fz r.2 H s λT H g _=>Ao9 D f i (CE h.live T) H ⟨ft.rd++g.rd,ft.wr++g.wr⟩ bs.length
 |.goto _=>none
 |ax=>((Lw (h.fzo ax) r.2).bind λT=>(KM.gen (delT (h.dlo ax) T)).bind λ_=>(KM.gen (touchA (h.nt ax) (CE (h.out ax) T))).bind λys=>KM.ret (.tup (axA ax::ys))) H s λv H f _=>Pa bs.length v H ⟨ft.rd++f.rd,ft.wr++f.wr⟩
end
end
section
open Go.RowKit
def SK{α:Type}(m:AM α)(mK:KM α):Prop:=∀ H s k r,mK H s k=some r->∃ a H' f s',m H=some (a,H',f)/\k a H' f s'=some r
section
variable {α β:Type}
theorem SK.ret(a:α):SK (AM.ret a) (KM.ret a):=λH s k r h=>⟨a,H,⟨[],[]⟩,s,rfl,h⟩
theorem SK.fail(m:AM α):SK m (KM.fail):=λH s k r h=>by cases h
theorem SK.gen(m:AM α):SK m (KM.gen m):=λH s k r h=>by
 grind [KM.gen]
theorem SK.opt:∀ o:Option α,SK (AM.opt o) (KM.opt o)
 |some a=>SK.ret a
 |none=>SK.fail _
theorem SK.bind{m:AM α}{mK:KM α}{f:α->AM β}{fK:α->KM β}(hm:SK m mK)(hf:∀ a,SK (f a) (fK a)):SK (m.bind f) (mK.bind fK):=λH s k r h=>by
 obtain⟨a,H1,f1,s1,h1,h2⟩:=hm H s _ r h;obtain⟨b,H2,f2,s2,h3,h4⟩:=hf a H1 s1 _ r h2;refine⟨b,H2,_,s2,?_,h4⟩;unfold AM.bind;simp only[h1,h3]
theorem Lk{b:Bool}{x y:KR}{r:AV × List BO}(h:br b x y=some r):(b=true/\x=some r)\/(b=false/\y=some r):=by
 cases b
 .exact .inr ⟨rfl,h⟩
 .exact .inl ⟨rfl,h⟩
theorem Uo{s:Sc}{c:Bool}{x y:Sc->KR}{r:AV × List BO}(h:brS s c x y=some r):∃ s',(c=true/\x s'=some r)\/(c=false/\y s'=some r):=by
 unfold brS at h;split at h
 .grind [Lk]
 .grind [Lk]
 .grind [Lk]
 .grind [Lk]
theorem SK.brk{b:Bool}{m:AM α}{x y:KM α}(hx:b=true->SK m x)(hy:b=false->SK m y):SK m (KM.brk b x y):=λH s k r h=>by
 obtain⟨s',⟨e,h⟩|⟨e,h⟩⟩:=Uo h
 .exact hx e H s' k r h
 .exact hy e H s' k r h
theorem SK.test{b:Bool}{m:AM α}{x:KM α}(hx:b=true->SK m x):SK m (KM.test b x):=λH s k r h=>by
 rcases Lk h with⟨e,h⟩|⟨e,h⟩
 .exact hx e H s k r h
 .cases h
theorem SK.unI{n:Int}{m:AM α}{f:Nat->KM α}(hf:∀ i,n=.ofNat i->SK m (f i)):SK m (KM.unI n f):=λH s k r h=>by
 unfold KM.unI Go.Proofs.YtlmhajfbpplpoaaGreat.unI at h
 cases n with
 |ofNat i=>exact hf i rfl H s k r h
 |negSucc i=>cases h
theorem SK.idx{x:AV}{m:AM α}{f:Nat->KM α}(hf:∀ i,x.idx=some i->SK m (f i)):SK m (KM.idx x f):=by
 unfold KM.idx;split
 .exact SK.unI λi e=>hf i (by rw[e];rfl)
 .exact SK.fail _
theorem SK.idxO{n:Nat}{x:Option AV}{m:AM α}{f:Nat->KM α}(hf:∀ i,Oc n x=some i->SK m (f i)):SK m (KM.idxO n x f):=by
 unfold KM.idxO
 cases x with
 |none=>exact hf n rfl
 |some x=>exact SK.idx λi e=>hf i e
theorem SK.nth{xs:List Ab}{i:Nat}{m:AM α}{f:Ab->KM α}(hf:∀ cs,VN xs i=some cs->SK m (f cs)):SK m (KM.nth xs i f):=λH s k r h=>by
 unfold KM.nth A4 at h;split at h
 .exact hf _ ‹_› H s k r h
 .cases h
theorem SK.rd{cells:Ab}{o n:Nat}{f:Ab->AM β}{fK:Ab->KM β}{m:AM β}(hm:o+n<=cells.length->m=f ((cells.drop o).take n))(hf:∀ cs,SK (f cs) (fK cs)):SK m ((KM.rd cells o n).bind fK):=λH s k r h=>by
 unfold KM.bind KM.rd Gf at h;split at h
 .rename_i e
  rw[hm (by simpa using e)];exact hf _ H s _ r (by simpa using h)
 .cases h
end
mutual
theorem NA:∀(s:Sh) (x:AV) {K:AV->KR} {r:AV × List BO},DB s x K=some r->K x=some r
 |.int kd,x,K,r,h=>by
  simp only[DB,Kb]at h;split at h
  .split at h
   .rename_i e;rw[←e]at h;exact h
   .cases h
  .cases h
 |.bool,x,K,r,h=>by
  simp only[DB,GU]at h;split at h
  .exact h
  .cases h
 |.str,x,K,r,h=>by
  simp only[DB,N1]at h;split at h
  .exact h
  .cases h
 |.ls,x,K,r,h=>by
  simp only[DB,Mr]at h;split at h
  .exact h
  .cases h
 |.lp l,x,K,r,h=>by
  simp only[DB,Asa]at h;split at h
  .exact h
  .exact Ck l _ h
  .cases h
 |.agg l,x,K,r,h=>by
  simp only[DB,N0]at h;split at h
  .exact Ck l _ h
  .cases h
 |.tup l,x,K,r,h=>by
  simp only[DB,Mt]at h;split at h
  .exact Ck l _ h
  .cases h
 |.slo b e,x,K,r,h=>by
  simp only[DB,Anp]at h;split at h
  .split at h
   .rename_i e1 e2
    have e1:b=_:=AvY e1;have e2:e=_:=AvY e2;rw[←e1,←e2];exact h
   .cases h
  .cases h
 |.sl b e,x,K,r,h=>by
  simp only[DB,YJ]at h;split at h
  .split at h
   .rename_i e1 e2
    have e1:b=_:=AvY e1;have e2:e=_:=AvY e2;rw[←e1,←e2];exact h
   .cases h
  .cases h
 |.ptr b o,x,K,r,h=>by
  simp only[DB,Ms]at h;split at h
  .split at h
   .rename_i e1 e2
    have e1:b=_:=AvY e1;have e2:o=_:=AvY e2;rw[←e1,←e2];exact h
   .cases h
  .cases h
 |.cst v,x,K,r,h=>by
  simp only[DB,Wy]at h;split at h
  .rename_i u
   split at h
   .rename_i e
    have:v=u:=by
     unfold AlZ at e;split at e
     .rfl
     .rfl
     .cases e
    rw[←this];exact h
   .cases h
  .cases h
 |.fnc f,x,K,r,h=>by
  simp only[DB,Acz]at h;split at h
  .split at h
   .rename_i e
    have:=AvY e;subst this;exact h
   .cases h
  .cases h
 |.any,x,K,r,h=>by simpa only[DB]using h
theorem Ck:∀(l:List Sh) (cs:Ab) {K:Ab->KR} {r:AV × List BO},CG l cs K=some r->K cs=some r
 |[],cs,K,r,h=>by
  simp only[CG,EB]at h;split at h
  .exact h
  .cases h
 |s::l,cs,K,r,h=>by
  have gen:(Ff cs λc r=>DB s c λc=>CG l r λr=>K (c::r))=some r->K cs=some r:=λh=>by
   simp only[Ff]at h;split at h
   .cases h
   .have:=Ck l _ (NA s _ h)
    exact this
  cases s with
  |int kd=>
   simp only[CG,OX]at h;split at h
   .split at h
    .rename_i e
     have:=Ck l _ h;rw[←e]at this;exact this
    .cases h
   .cases h
  |bool=>
   simp only[CG,Rb]at h;split at h
   .have:=Ck l _ h
    exact this
   .cases h
  |str=>
   simp only[CG,AaL]at h;split at h
   .have:=Ck l _ h
    exact this
   .cases h
  |ls=>
   simp only[CG,cLs]at h;split at h
   .have:=Ck l _ h
    exact this
   .cases h
  |_=>
   simp only[CG]at h;exact gen h
end
theorem Ee:∀(l:List Os) (o:List BO) {K:List BO->KR} {r:AV × List BO},Gr l o K=some r->K o=some r
 |[],cs,K,r,h=>by
  simp only[Gr,CB]at h;split at h
  .exact h
  .cases h
 |s::l,o,K,r,h=>by
  simp only[Gr,Fj]at h;split at h
  .cases h
  .cases s with
   |keep=>
    simp only[Nl]at h;split at h
    .have:=Ee l _ h
     exact this
    .cases h
   |del=>
    simp only[Sp]at h;split at h
    .have:=Ee l _ h
     exact this
    .cases h
   |row st=>
    simp only[GD]at h;split at h
    .split at h
     .rename_i e
      obtain⟨rfl,rfl⟩:=e;have:=Ee l _ h;exact this
     .cases h
    .cases h
   |box m=>
    simp only[GD]at h;split at h
    .split at h
     .rename_i e
      obtain⟨rfl,rfl⟩:=e;have:=Ee l _ (Ck m _ h);exact this
     .cases h
    .cases h
theorem SK.exp(t:Sh)(x:AV):SK (AM.ret x) (KM.exp t x):=λH s k r h=>⟨x,H,⟨[],[]⟩,s,rfl,NA t x h⟩
theorem SK.expL(t:List Sh)(x:Ab):SK (AM.ret x) (KM.expL t x):=λH s k r h=>⟨x,H,⟨[],[]⟩,s,rfl,Ck t x h⟩
theorem SK.expO(t:List Os)(x:List BO):SK (AM.ret x) (KM.expO t x):=λH s k r h=>⟨x,H,⟨[],[]⟩,s,rfl,Ee t x h⟩
theorem SK.look{α β:Type}{x:α}{mK:KM α}(hm:SK (AM.ret x) mK){f:α->AM β}{fK:α->KM β}(hf:∀ a,SK (f a) (fK a)):SK (f x) (mK.bind fK):=λH s k r h=>by
 obtain⟨a,H1,f1,s1,h1,h2⟩:=hm H s _ r h;obtain⟨rfl,rfl⟩:=Au h1;have e:f1=⟨[],[]⟩:=by
  grind [AM.ret]
 subst e;exact hf _ _ _ _ r (by simpa using h2)
section
variable {A:Ar} {D:Orc} {own:List (Nat × Nat)} {Hn:Hnt}
theorem SK.tm(d:Option Nat)(cs:Ab):SK (AM.ret cs) (tmK Hn d cs):=by
 unfold tmK;split
 .grind [SK.expL,SK.ret]
 .exact SK.ret _
theorem SK.rdAt(d:Option Nat)(a:AV)(n:Nat):SK (rdAt a n) (Aaa Hn d a n):=by
 unfold Aaa;split
 .unfold Go.Proofs.YtlmhajfbpplpoaaGreat.rdAt
  refine SK.bind (SK.gen _) λk=>SK.rd (f:=λcs=>AM.ret cs) (λh=>Ac h) λcs=>?_
  split
  .exact SK.tm _ _
  .exact SK.ret _
 .exact SK.gen _
theorem SK.load(d:Option Nat)(row:Bool)(n:Nat)(a:AV):SK (loadM row n a) (Afv Hn d row n a):=by
 cases row with
 |true=>exact SK.bind (SK.rdAt _ _ _) λ_=>SK.ret _
 |false=>exact SK.bind (SK.rdAt _ _ _) λ_=>SK.opt _
theorem SK.store(n:Nat)(a x:AV):SK (storeM n a x) (YA n a x):=by
 unfold storeM YA
 cases a with
 |ptr b o=>
  simp only;split
  .refine SK.bind (SK.gen _) λk=>?_
   by_cases h:k.st=true/\(!k.ex||A6 x.cells)=true
   .simp_all [SK.bind,SK.gen,SK.ret,SK.test,Ac]
   .rw[Ad h]
    exact SK.fail _
  .exact SK.fail _
 |_=>exact SK.fail _
theorem SK.iaddr(d:Option Nat)(e:Nat)(x ix:AV):SK (AM.opt (Pq e x ix)) (XO Hn d e x ix):=by
 unfold XO;refine SK.idx λi hi=>?_
 unfold Pq;simp only[hi]
 cases x with
 |sl b o n e'=>
  simp only;refine SK.test λh=>?_
  rw[h];simp only;split
  .exact SK.ret _
  .exact SK.fail _
 |ls xs=>
  simp only;refine SK.nth λcs h=>?_
  rw[h];simp only;refine SK.look (f:=λ(cs:Ab)=>AM.opt (match Av5 cs.length e with
   |true=>some (AV.lp cs)
   |false=>none)) (SK.tm d cs) λcs=>?_
  cases Av5 cs.length e with
  |true=>exact SK.ret _
  |false=>exact SK.fail _
 |_=>exact SK.fail _
theorem SK.aaddr(n e:Nat)(x ix:AV):SK (AM.opt (SD n e x ix)) (WS n e x ix):=by
 grind [WS,SD,SK.idx,SK.opt,SK.test]
theorem Ag7{cs:Ab}{o:Nat}(h:o+1<=cs.length):Ye ((cs.drop o).take 1)=cs[o]?:=by
 have h1:o<cs.length:=h;rw[Ω h1,ω h1];rfl
theorem SK.index(d:Option Nat)(n e:Nat)(row:Bool)(sz:Nat)(x ix:AV):SK (AM.opt (Pu n e row sz x ix)) (XQ d n e row sz x ix):=by
 unfold XQ;refine SK.idx λi hi=>?_
 unfold Pu
 cases x with
 |agg cs=>
  simp only[hi];refine SK.test λh=>?_
  rw[h];simp only;unfold VU
  cases row with
  |true=>exact SK.rd (f:=λxs=>AM.ret (.agg xs)) (λ_=>rfl) λ_=>SK.ret _
  |false=>exact SK.rd (f:=λxs=>AM.opt (Ye xs)) (λh=>by rw[Ag7 h]) λ_=>SK.opt _
 |_=>exact SK.fail _
theorem Ps{l h n:Nat}(e:J1 l h n=true):AvL l h=true/\AvL h n=true:=by
 grind [J1]
theorem KF{n b:Nat}(e:AU n b=true):AvL (n*b) 140737488355328=true/\AvL n maxLen=true:=by
 grind [AU]
theorem SK.slice(e:Nat)(x:AV)(lo hi:Option AV):SK (AM.opt (Ql e x lo hi)) (Yw e x lo hi):=by
 unfold Yw Ql
 cases x with
 |sl b o n e'=>
  simp only;refine SK.idxO λl hl=>SK.idxO λh hh=>SK.test λhb=>?_
  rw[hl,hh];obtain⟨h1,h2⟩:=Ps hb;simp only[h1,h2]
  cases Av5 e' e with
  |true=>exact SK.ret _
  |false=>exact SK.fail _
 |ls xs=>
  simp only;refine SK.idxO λl hl=>SK.idxO λh hh=>SK.test λhb=>SK.test λhw=>?_
  rw[hl,hh];obtain⟨h1,h2⟩:=Ps hb;simp only[h1,h2,hw];exact SK.ret _
 |_=>exact SK.fail _
theorem SK.bin(b:BinOp)(x y:AV):SK (AM.opt (Lh A b x y)) (AnM A b x y):=by
 unfold AnM;split
 .rename_i k a k' c
  cases b with
  |shl=>
   simp only;refine SK.brk (λ_=>SK.fail _) λh=>?_
   simp only[Lh,h];exact SK.ret _
  |shr=>
   simp only;refine SK.brk (λ_=>SK.fail _) λh=>?_
   simp only[Lh,h];exact SK.ret _
  |quo=>
   simp only;split
   .rename_i e
    refine SK.brk (λ_=>SK.fail _) λh=>?_
    simp only[Lh,h,Ac e];exact SK.ret _
   .exact SK.fail _
  |rem=>
   simp only;split
   .rename_i e
    refine SK.brk (λ_=>SK.fail _) λh=>?_
    simp only[Lh,h,Ac e];exact SK.ret _
   .exact SK.fail _
  |neq=>
   simp only;split
   .rename_i e
    refine SK.brk (λh=>?_) λh=>?_<;>(simp only[Lh,h,Ac e];exact SK.ret _)
   .exact SK.fail _
  |_=>exact SK.opt _
 .cases b with
  |neq=>
   simp only;refine SK.brk (λh=>?_) λh=>?_<;>(simp only[Lh,h];exact SK.ret _)
  |add=>
   simp only;refine SK.test λh=>?_
   simp only[Lh,h];exact SK.ret _
  |_=>exact SK.opt _
 .exact SK.opt _
theorem SK.sidx(x i:AV):SK (AM.opt (Wj A x i)) (AgT A x i):=by
 unfold AgT;split
 .refine SK.idx λj hj=>SK.test λh=>?_
  simp only[Wj,hj,h];exact SK.ret _
 .exact SK.fail _
theorem SK.sslice(x:AV)(lo hi:Option AV):SK (AM.opt (Ml A x lo hi)) (TS A x lo hi):=by
 unfold TS;split
 .refine SK.idxO λl hl=>SK.idxO λh hh=>SK.test λhb=>?_
  obtain⟨h1,h2⟩:=Ps hb;simp only[Ml,hl,hh,h1,h2];exact SK.ret _
 .exact SK.fail _
theorem SK.news(e:Nat)(x:AV):SK (newsM e x) (ZW e x):=by
 unfold ZW newsM
 cases x with
 |sl b o n e'=>
  simp only;split
  .grind [SK.bind,SK.fail,SK.gen,SK.ret,SK.test]
  .exact SK.fail _
 |ls xs=>
  simp only;refine SK.test λh=>?_
  rw[h];exact SK.ret _
 |v z=>
  cases z with
  |slice a n c=>
   cases a with
   |none=>
    cases n with
    |zero=>
     cases c with
     |zero=>exact SK.ret _
     |succ c=>exact SK.fail _
    |succ n=>exact SK.fail _
   |some a=>exact SK.fail _
  |_=>exact SK.fail _
 |_=>exact SK.fail _
theorem SK.appR(e bytes:Nat)(s:AV)(r:Nat × Ab):SK (appR e bytes s r) (YR e bytes s r):=by
 unfold YR Go.Proofs.YtlmhajfbpplpoaaGreat.appR;refine SK.brk (λh=>?_) λh=>SK.test λh2=>?_
 .grind [SK.fail,SK.ret]
 .rw[h,h2]
  simp only;unfold AkO
  cases s with
  |sl b o n e'=>
   simp only
   cases he:Av5 e' e with
   |false=>exact SK.fail _
   |true=>
    simp only;refine SK.test λh3=>?_
    obtain⟨h4,h5⟩:=KF h3;simp only[h4,h5];refine SK.bind (SK.gen _) λk=>?_
    cases k.ex with
    |false=>exact SK.fail _
    |true=>
     cases k.st with
     |true=>
      simp only;refine SK.test λh6=>?_
      cases Av5 (o+n*e) k.cells.length with
      |true=>exact SK.bind (SK.gen _) λ_=>SK.bind (SK.gen _) λ_=>SK.ret _
      |false=>
       simp only[h6];exact SK.bind (SK.gen _) λ_=>SK.bind (SK.gen _) λ_=>SK.ret _
     |false=>
      simp only;refine SK.test λh6=>?_
      rw[h6];exact SK.bind (SK.gen _) λ_=>SK.bind (SK.gen _) λ_=>SK.ret _
  |v z=>
   cases z with
   |slice a n c=>
    cases a with
    |none=>
     cases n with
     |zero=>
      cases c with
      |zero=>
       refine SK.test λh3=>?_
       obtain⟨h4,h5⟩:=KF h3;simp only[h4,h5];exact SK.bind (SK.gen _) λ_=>SK.ret _
      |succ c=>exact SK.fail _
     |succ n=>exact SK.fail _
    |some a=>exact SK.fail _
   |_=>exact SK.fail _
  |_=>exact SK.fail _
theorem SK.app(e bytes:Nat)(s x:AV):SK (appM e bytes s x) (ApV e bytes s x):=SK.bind (SK.news e x) λr=>SK.appR e bytes s r
theorem SK.appz(z:AN)(e bytes:Nat)(s x:AV):SK (appzM z e bytes s x) (Ac7 z e bytes s x):=by
 unfold Ac7 appzM Tp;refine SK.idx λm hm=>SK.test λh1=>?_
 rw[hm];dsimp only;rw[h1];exact SK.bind (mK:=KM.ret (m,Cr (z.map .v) (m*e))) (SK.ret _) λr=>SK.appR e bytes s r
theorem SK.mksl(z:AN)(e b:Nat)(l c:AV):SK (mkslM z e b l c) (AfK z e b l c):=by
 grind [AfK,mkslM,SK.bind,SK.gen,SK.idx,SK.ret,SK.test,KF]
theorem SK.cpy(e:Nat)(d x:AV):SK (cpyM e d x) (AnU e d x):=by
 unfold AnU cpyM
 cases d with
 |sl b o n e'=>
  simp only
  cases Av5 e' e with
  |false=>exact SK.fail _
  |true=>
   simp only;refine SK.bind (SK.news e x) λr=>SK.test λh=>?_
   rw[h];simp only;refine SK.bind (SK.gen _) λk=>?_
   cases k.st with
   |false=>exact SK.fail _
   |true=>
    simp only;refine SK.test λh2=>?_
    rw[h2];exact SK.bind (SK.gen _) λ_=>SK.ret _
 |_=>exact SK.fail _
theorem SK.clr(z:AN)(e:Nat)(x:AV):SK (clrM z e x) (AnS z e x):=by
 unfold AnS clrM
 cases x with
 |sl b o n e'=>
  simp only
  cases Av5 e' e with
  |false=>exact SK.fail _
  |true=>
   simp only;refine SK.bind (SK.gen _) λk=>?_
   cases k.st with
   |false=>exact SK.fail _
   |true=>
    simp only;refine SK.test λh2=>?_
    rw[h2];exact SK.bind (SK.gen _) λ_=>SK.ret _
 |_=>exact SK.fail _
mutual
theorem SK.frz:∀(n:Nat) (x:AV),SK (frz n x) (UG n x)
 |0,x=>by
  unfold UG Go.Proofs.YtlmhajfbpplpoaaGreat.frz;exact SK.gen _
 |n+1,x=>by
  unfold UG Go.Proofs.YtlmhajfbpplpoaaGreat.frz
  cases x with
  |v z=>exact SK.ret _
  |sl b o m e=>
   simp only;refine SK.bind (SK.gen _) λk=>SK.test λh=>?_
   rw[h];simp only;refine SK.bind ?_ λ_=>?_
   .cases k.st with
    |true=>exact SK.gen _
    |false=>exact SK.ret _
   .cases (k.ex||A6 ((k.cells.drop o).take (m*e))) with
    |true=>exact SK.ret _
    |false=>
     simp only;refine SK.bind (SK.frzL n _) λcs=>?_
     cases A6 cs with
     |true=>exact SK.ret _
     |false=>exact SK.fail _
  |agg cs=>exact SK.bind (SK.frzL n _) λ_=>SK.ret _
  |tup cs=>exact SK.bind (SK.frzL n _) λ_=>SK.ret _
  |_=>exact SK.ret _
theorem SK.frzL:∀(n:Nat) (l:Ab),SK (frzL n l) (Lv n l)
 |n,[]=>by
  unfold Lv Go.Proofs.YtlmhajfbpplpoaaGreat.frzL;exact SK.ret _
 |0,_::_=>by
  unfold Lv;exact SK.fail _
 |n+1,x::r=>by
  unfold Lv Go.Proofs.YtlmhajfbpplpoaaGreat.frzL;exact SK.bind (SK.frz n x) λ_=>SK.bind (SK.frzL n r) λ_=>SK.ret _
end
theorem SK.frzB(b:Nat):SK (frzB b) (Aev b):=by
 grind [Go.Proofs.YtlmhajfbpplpoaaGreat.frzB,Av5,Aev,SK.bind,SK.fail,SK.frzL,SK.gen,SK.ret]
theorem SK.frzT:∀(l:Al) (T:Ab),SK (frzT l T) (Lw l T)
 |[],T=>SK.ret _
 |t::r,T=>by
  unfold Lw Go.Proofs.YtlmhajfbpplpoaaGreat.frzT
  cases T[t]? with
  |none=>exact SK.frzT r T
  |some x=>
   cases x with
   |ptr b o=>exact SK.bind (SK.frzB b) λ_=>SK.frzT r T
   |_=>exact SK.bind (SK.frz _ _) λ_=>SK.frzT r _
theorem SK.frzA(f:Nat):∀(i:Nat) (l:Ab),SK (frzA own f i l) (Rq own f i l)
 |i,[]=>by
  unfold Rq Go.Proofs.YtlmhajfbpplpoaaGreat.frzA;exact SK.ret _
 |i,x::r=>by
  unfold Rq Go.Proofs.YtlmhajfbpplpoaaGreat.frzA
  cases Af3 own f i with
  |true=>exact SK.bind (SK.frzA f (i+1) r) λ_=>SK.ret _
  |false=>exact SK.bind (SK.frz 1000 x) λ_=>SK.bind (SK.frzA f (i+1) r) λ_=>SK.ret _
theorem SK.ask(key:Key)(args:Ab)(bs:List ABlk):SK (AM.opt (D.ask key args bs)) (KM.ask D key args bs):=λH s k r h=>by
 unfold KM.ask AJ at h;split at h
 .rename_i q e
  rw[e];exact⟨q,H,⟨[],[]⟩,s,rfl,h⟩
 .cases h
theorem SK.callD(key:Key){e:AV × List BO->KM (AV × List BO)}(he:∀ q,SK (AM.ret q) (e q))(args:Ab):SK (callD (D.ask key) args) (SO D key e args):=by
 unfold SO Go.Proofs.YtlmhajfbpplpoaaGreat.callD;refine SK.bind (SK.gen _) λL=>SK.bind (SK.gen _) λbs=>SK.bind ?_ λr=>?_
 .intro H s k r h
  obtain⟨a,H1,f1,s1,h1,h2⟩:=SK.ask key _ _ H s _ r h;obtain⟨b,H2,f2,s2,h3,h4⟩:=he a H1 s1 _ r h2;obtain⟨rfl,rfl⟩:=Au h3;refine⟨_,_,_,s2,h1,?_⟩;simp only[AM.ret,ξ,Prod.mk.injEq]at h3;rw[←h3.2.2]at h4;simpa using h4
 .grind [SK.bind,SK.fail,SK.gen,SK.ret]
theorem SK.ansF(f:Nat)(q:AV × List BO):SK (AM.ret q) (ansF Hn f q):=by
 unfold Go.Proofs.YtlmhajfbpplpoaaGreat.ansF;split
 .exact SK.look (f:=λx=>AM.ret (x,q.2)) (SK.exp _ _) λx=>SK.look (f:=λo=>AM.ret (x,o)) (SK.expO _ _) λ_=>SK.ret _
 .exact SK.ret _
theorem SK.calls(f:FuncId)(args:Ab):SK (callsM D own f args) (SP D own Hn f args):=by
 grind [SP,callsM,SK.ansF,SK.bind,SK.callD,SK.frzA]
theorem AhN{k:Nat}{x:AV}(h:AT k x=true):x=Adb k:=by
 unfold AT at h;split at h
 .rfl
 .rename_i i j
  have:i=j:=AvY h;rw[this];rfl
 .cases h
theorem SK.ansX:∀(l:List (Nat × (List Sh × List Os))) (x:AV) (ys:Ab) (o:List BO),SK (AM.ret (.tup (x::ys),o)) (ansX l x ys o)
 |[],_,_,_=>SK.fail _
 |(k,s,l)::r,x,ys,o=>by
  unfold Go.Proofs.YtlmhajfbpplpoaaGreat.ansX;refine SK.brk (λh=>?_) λ_=>SK.ansX r x ys o
  have hx:x=Adb k:=AhN h;rw[←hx];exact SK.look (f:=λys=>AM.ret (γ (x::ys),o)) (SK.expL _ _) λys=>SK.look (f:=λo=>AM.ret (γ (x::ys),o)) (SK.expO _ _) λ_=>SK.ret _
theorem SK.ansL(i:Nat)(q:AV × List BO):SK (AM.ret q) (ansL Hn i q):=by
 unfold Go.Proofs.YtlmhajfbpplpoaaGreat.ansL;split
 .rename_i l _
  intro H s k r h;obtain⟨v,o⟩:=q
  cases v with
  |tup cs=>
   cases cs with
   |nil=>cases h
   |cons x ys=>exact SK.ansX l x ys o H s k r h
  |_=>cases h
 .exact SK.ret _
theorem SK.loops(f i:Nat)(xs:Ab):SK (loopsM D f i xs) (XZ D Hn f i xs):=by
 grind [WW,XZ,loopsM,SK.ansL,SK.bind,SK.callD,SK.fail,SK.ret]
theorem SK.op(d:Option Nat)(o:MO)(T:Ab):SK (mop A (callsM D own) o T) (opK A D own Hn d o T):=by
 cases o with
 |pick c a b=>
  simp only[opK,mop]
  cases AS T c with
  |v u=>
   cases u with
   |bool t=>
    simp only;refine SK.brk (λh=>?_) λh=>?_<;>(subst h;exact SK.ret _)
   |_=>exact SK.fail _
  |_=>exact SK.fail _
 |ld row n a=>exact SK.load _ _ _ _
 |st n a x=>exact SK.store _ _ _
 |bin ek b x y=>
  cases ek with
  |zero=>exact SK.bin _ _ _
  |succ n=>exact SK.opt _
 |slice e x lo hi=>exact SK.slice _ _ _ _
 |iaddr e x i=>exact SK.iaddr _ _ _ _
 |aaddr n e x i=>exact SK.aaddr _ _ _ _
 |index n e row sz x i=>exact SK.index d _ _ _ _ _ _
 |mksl z e b l c=>exact SK.mksl _ _ _ _ _
 |app e b s x=>exact SK.app _ _ _ _
 |appz z e b s x=>exact SK.appz _ _ _ _ _
 |cpy e d x=>exact SK.cpy _ _ _
 |clr z e x=>exact SK.clr _ _ _
 |sidx x i=>exact SK.sidx _ _
 |sslice x lo hi=>exact SK.sslice _ _ _
 |callF f args=>exact SK.calls _ _
 |callV ents x args=>
  simp only[opK,mop]
  cases AS T x with
  |fn f a cs=>
   cases f with
   |func g=>
    simp only
    cases ents.testBit g with
    |true=>exact SK.calls _ _
    |false=>exact SK.fail _
   |_=>exact SK.fail _
  |_=>exact SK.fail _
 |_=>exact SK.gen _
theorem SK.core(o:MOp)(T:Ab):SK (coreM A (callsM D own) o T) (Ady A D own Hn o T):=by
 grind [bool,Ady,coreM,WD,SK.brk,SK.fail,SK.op,SK.ret]
theorem Aik{e:Bool}{x:AV}{s:Sc}{k:AV->Sc->KR}{r:AV × List BO}(h:gB e x s k=some r):∃ s',k x s'=some r:=by
 unfold gB at h;split at h
 .grind [Uo]
 .exact⟨s,h⟩
theorem SK.run:∀(l:List MOp) (T:Ab) (H:AH) (s:Sc) (k:Ab->AH->List Foot->Sc->KR) (r:AV × List BO),AjO A D own Hn l T H s k=some r->∃ T' H' fs s',runM A (callsM D own) l T H=some (T',H',fs)/\k T' H' fs s'=some r
 |[],T,H,s,k,r,h=>⟨T,H,[],s,rfl,h⟩
 |o::l,T,H,s,k,r,h=>by
  simp only[AjO]at h;obtain⟨v,H1,f,s1,h1,h2⟩:=SK.core o T H s _ r h;simp only[Aey,XE,An9,Aqt]at h2;obtain⟨s2,h2⟩:=Aik h2;obtain⟨T',H',fs,s3,h3,h4⟩:=SK.run l _ _ _ _ r h2;refine⟨T',H',f::fs,s3,?_,h4⟩;simp only[runM,h1,h3]
theorem SK.reg(ops:List MOp)(bf:Option (Al))(T:Ab):SK (regM A (callsM D own) ops bf T) (Apa A D own Hn ops bf T):=λH s k r h=>by
 unfold Apa at h;obtain⟨T',H',fs,s',h1,h2⟩:=SK.run ops T H s _ r h;unfold regM;rw[h1]
 cases bf with
 |none=>exact⟨_,_,_,s',rfl,h2⟩
 |some bf=>
  simp only at h2 ⊢;split at h2
  .grind
  .cases h2
theorem SK.ev(f:Nat):∀(c:MC) (T:Ab),SK (evC A (callsM D own) (loopsM D f) c T) (evK A D own Hn f c T)
 |.skip,T=>SK.ret _
 |.reg ops bf,T=>SK.reg _ _ _
 |.seq a b,T=>by
  unfold evK evC;refine SK.bind (SK.ev f a T) λr=>?_
  obtain⟨ax,T1⟩:=r
  cases ax with
  |normal=>exact SK.ev f b _
  |_=>exact SK.ret _
 |.cond c a b,T=>by
  unfold evK evC
  cases AS T c with
  |v u=>
   cases u with
   |bool t=>
    simp only;refine SK.brk (λh=>?_) λh=>?_<;>subst h
    .exact SK.ev f a T
    .exact SK.ev f b T
   |_=>exact SK.fail _
  |_=>exact SK.fail _
 |.block id c,T=>by
  unfold evK evC;refine SK.bind (SK.ev f c T) λr=>?_
  obtain⟨ax,T1⟩:=r
  cases ax with
  |exit i=>
   simp only
   by_cases e:i=id
   .simp_all [SK.ret,Ac]
   .simp_all [SK.ret,Ad]
  |_=>exact SK.ret _
 |.loop i h,T=>by
  grind [Av5,evC,evK,SK.bind,SK.fail,SK.frzT,SK.gen,SK.loops,SK.ret]
 |.exit id,T=>SK.ret _
 |.ret,T=>SK.ret _
 |.bad,T=>SK.fail _
theorem SK.res(T:Ab):∀ l,SK (resM T l) (Agp Hn T l)
 |[]=>SK.ret _
 |.tmp _::r=>SK.bind (SK.res T r) λ_=>SK.ret _
 |.cell _ _ _::r=>SK.bind (SK.load _ _ _ _) λ_=>SK.bind (SK.res T r) λ_=>SK.ret _
theorem An5{m:Ab->AM AV}{mK:KM AV}{args:Ab}{bs:List ABlk}{r:AV × List BO}(hm:SK (m args) mK)(s:Sc)(h:mK ⟨Du 0 bs,bs.length,none⟩ s (λv H ft _=>Pa bs.length v H ft)=some r):QG (Fr m) args bs=some r:=by
 obtain⟨v,H',ft,s',h1,h2⟩:=hm _ _ _ _ h;unfold QG Fr;rw[h1];exact h2
theorem An7{f:Nat}{mf:MFn}{args:Ab}{bs:List ABlk}{r:AV × List BO}(s:Sc)(h:Bp A D own Hn s f mf args bs=some r):QG (Fr (fnM A D own f mf)) args bs=some r:=by
 unfold Bp at h;refine An5 ?_ s h;unfold fnM;have fin:∀ T,SK ((resM T mf.res).bind λl=>(match mf.own with
   |true=>AM.ret (JT l)
   |false=>frz 1000 (JT l)).bind λv=>match mf.tch with
    |true=>(touchI (EY args)).bind λ_=>AM.ret v
    |false=>AM.ret v) ((Agp Hn T mf.res).bind λl=>(match mf.own with
   |true=>KM.ret (JT l)
   |false=>UG 1000 (JT l)).bind λv=>match mf.tch with
    |true=>(KM.gen (touchI (EY args))).bind λ_=>KM.ret v
    |false=>KM.ret v):=λT=>by
  grind [SK.bind,SK.frz,SK.gen,SK.res,SK.ret]
 refine SK.bind (SK.ev f _ _) λr=>?_
 obtain⟨ax,T1⟩:=r
 cases ax with
 |exit i=>exact SK.fail _
 |goto l=>exact SK.fail _
 |normal=>exact fin T1
 |ret=>exact fin T1
theorem Ok{α β:Type}{m:AM α}{f:α->AM β}{H H1 H2:AH}{a:α}{b:β}{f1 f2:Foot}(h1:m H=some (a,H1,f1))(h2:f a H1=some (b,H2,f2)):(m.bind f) H=some (b,H2,⟨f1.rd++f2.rd,f1.wr++f2.wr⟩):=by
 grind [AM.bind]
theorem UP(n b:Nat)(hb:b<n):∀ l,Gk b (AfU n l)=Gk b l
 |[]=>rfl
 |x::r=>by
  have ih:=UP n b hb r;unfold AfU;split
  .unfold Gk
   rw[ih]
  .rename_i h
   rw[ih]
   conv=>rhs;unfold Gk
   cases e:Av5 b x with
   |false=>rfl
   |true=>
    have e:b=x:=AvY e;subst e;have h1:Awv b n=true:=by rw[AaH];simpa using hb
    cases h2:Gk b r with
    |true=>rfl
    |false=>exact absurd h2 (h h1)
theorem UO(b:Nat)(l m:Al):Gk b (l++m)=(Gk b l||Gk b m):=by
 simp only[S7];simp
theorem Xz{n:Nat}{r:AV}{H:AH}{f1 f2:Foot}(h:∀ b,b<n->Gk b f1.wr=Gk b f2.wr):Pa n r H f1=Pa n r H f2:=by
 have:(El 0 n).map (Yg H f1.wr)=(El 0 n).map (Yg H f2.wr):=by
  refine List.map_congr_left λb hb=>?_
  obtain⟨i,hi⟩:=List.getElem?_of_mem hb;rw[KI]at hi;split at hi
  .grind [Yg]
  .cases hi
 unfold Pa;rw[this]
theorem AjE{f i n:Nat}{xs:Ab}{H:AH}{ft:Foot}{r:AV × List BO}(h:Ao9 D f i xs H ft n=some r):∃ q H' f',loopsM D f i xs H=some (q,H',f')/\Pa n (.tup (axA q.1::q.2)) H' ⟨ft.rd++f'.rd,ft.wr++f'.wr⟩=some r:=by
 unfold Ao9 at h;split at h
 .rename_i L H1 f1 e1
  split at h
  .rename_i bs H2 f2 e2
   unfold AJ at h;split at h
   .rename_i q e3
    obtain⟨v,o⟩:=q;simp only at h;unfold AG at h
    cases c1:QN o.length v.ids<;>cases c2:Un o.length o<;>rw[c1,c2]at h<;>try (cases h;done)
    simp only at h;split at h
    .rename_i x ys H' f' e4
     split at h
     .rename_i ax e5
      have t1:=(OG _ _ _ _ e1).1;have t2:=(KV _ e2).1;rw[t1]at e1;rw[t2]at e2;refine⟨(ax,ys),H',_,Ok (Ok e1 (Ok e2 (Ok (a:=(v,o)) (H1:=H) (f1:=⟨[],[]⟩) (by rw[e3];rfl) (b:=.tup (x::ys)) (H2:=H') (f2:=f') ?_))) (b:=(ax,ys)) (H2:=H') (f2:=⟨[],[]⟩) ?_,?_⟩
      .simp only[c1,c2]
       exact e4
      .simp only[e5]
       rfl
      .rw[←h]
       refine Xz λb hb=>?_
       simp only[UO,UP n b hb,Awc,AvV,Bool.or_assoc]
     .cases h
    .cases h
   .cases h
  .cases h
 .cases h
theorem Aoz{f i:Nat}{q:LpH}{c:MC}{xs:Ab}{bs:List ABlk}{r:AV × List BO}(s:Sc)(h:CT A D own Hn s f i q c xs bs=some r):QG (Fr (lpM A D own f i q c)) xs bs=some r:=by
 have key:∀ v H' ft,lpM A D own f i q c xs ⟨Du 0 bs,bs.length,none⟩=some (v,H',ft)->Pa bs.length v H' ft=some r->QG (Fr (lpM A D own f i q c)) xs bs=some r:=λv H' ft h1 h2=>by
  unfold QG Fr;rw[h1];exact h2
 unfold CT at h;obtain⟨⟨ax,T1⟩,H1,f1,s1,h1,h2⟩:=SK.ev f c _ _ s _ r h;have out:∀(ax:AX),((Lw (q.fzo ax) T1).bind λT=>(KM.gen (delT (q.dlo ax) T)).bind λ_=>(KM.gen (touchA (q.nt ax) (CE (q.out ax) T))).bind λys=>KM.ret (.tup (axA ax::ys))) H1 s1 (λv H f _=>Pa bs.length v H ⟨f1.rd++f.rd,f1.wr++f.wr⟩)=some r->∃ v H' f,((frzT (q.fzo ax) T1).bind λT=>(delT (q.dlo ax) T).bind λ_=>(touchA (q.nt ax) (CE (q.out ax) T)).bind λys=>AM.ret (.tup (axA ax::ys))) H1=some (v,H',f)/\Pa bs.length v H' ⟨f1.rd++f.rd,f1.wr++f.wr⟩=some r:=λax h=>by
  obtain⟨v,H',f,s2,h3,h4⟩:=(SK.bind (SK.frzT (q.fzo ax) T1) λT=>SK.bind (SK.gen _) λ_=>SK.bind (SK.gen _) λys=>SK.ret (γ (axA ax::ys))) H1 s1 _ r h;exact⟨v,H',f,h3,h4⟩
 cases ax with
 |normal=>
  obtain⟨T2,H2,f2,s2,h5,h6⟩:=SK.frzT q.fz T1 H1 s1 _ r h2;obtain⟨p,H',f',h3,h4⟩:=AjE h6;refine key _ H' _ ?_ h4;unfold lpM;simp only[AM.bind,h1,h5,h3,AM.ret,Awc,AvO]
 |goto l=>cases h2
 |exit k=>
  obtain⟨v,H',f',h3,h4⟩:=out _ h2;refine key v H' _ ?_ h4;unfold lpM;rw[AM.bind,h1];simp only;rw[h3]
 |ret=>
  obtain⟨v,H',f',h3,h4⟩:=out _ h2;refine key v H' _ ?_ h4;unfold lpM;rw[AM.bind,h1];simp only;rw[h3]
end
section
variable {A:Ar} {M:Seat}
theorem AnF(Hn:Hnt)(s:Sc){f:Nat}{mf:MFn}(he:M.ext f=none)(hf:M.fns f=some mf){args:Ab}{bs:List ABlk}{r:AV × List BO}(h:Bp A (Bf A M) M.own Hn s f mf args bs=some r):(Bf A M).ask (.fn f) args bs=some r:=AjX he hf (An7 s h)
theorem AnG(Hn:Hnt)(s:Sc){f i:Nat}{mf:MFn}{q:LpH}{c:MC}(hf:M.fns f=some mf)(hl:mf.loops[i]? = some (q,c)){args:Ab}{bs:List ABlk}{r:AV × List BO}(h:CT A (Bf A M) M.own Hn s f i q c args bs=some r):(Bf A M).ask (.lp f i) args bs=some r:=AjY hf hl (Aoz s h)
end
end
open Go.RowKit
def iv(n:Int):AV:=.v (.int .i64 n)
def bv(b:Bool):AV:=.v (.bool b)
def sv(s:ByteArray):AV:=.v (.string s)
def Ag(l:List UInt8):ByteArray:=⟨l.toArray⟩
def AfY(P:Program)(f:Nat):Bool:=match P.funcs[f]? with
 |some fn=>(match fn.body with
  |some c=>Mv c&&okR P fn.results.toList
  |none=>false)
 |none=>false
def I5(P:Program)(ents:Nat)(hs:Ld)(ownR tch:Bool)(f:Nat):MFn:=match P.funcs[f]? with
 |some fn=>(match fn.body with
  |some c=>⟨fn.ntmps,J0 P fn.results.toList,(BF P ents hs c 0).1,(BF P ents hs c 0).2,ownR,tch⟩
  |none=>⟨0,[],.bad,[],false,false⟩)
 |none=>⟨0,[],.bad,[],false,false⟩
theorem Aih{P:Program}{ents:Nat}{hs:Ld}{ownR tch:Bool}{f:Nat}(h:AfY P f=true):FnOk P ents f (I5 P ents hs ownR tch f):=by
 unfold AfY at h
 cases e1:P.funcs[f]? with
 |none=>rw[e1]at h;cases h
 |some fn=>
  rw[e1]at h;simp only at h
  cases e2:fn.body with
  |none=>rw[e2]at h;cases h
  |some c=>
   rw[e2]at h;simp only[AvF]at h;refine⟨fn,c,hs,e1,e2,h.1,h.2,?_⟩;unfold I5;rw[e1];simp only[e2];exact⟨trivial,trivial,trivial,trivial⟩
structure Knows (own:List (Nat × Nat)) (L:List (Nat × MFn)) (D:Orc):Prop where
 fn:∀(Hn:Hnt) (s:Sc) (f:Nat) (mf:MFn) (args:Ab) (bs:List ABlk) (r:AV × List BO),BX f L=some mf->Bp Ai D own Hn s f mf args bs=some r->D.ask (.fn f) args bs=some r
 lp:∀(Hn:Hnt) (s:Sc) (f i:Nat) (mf:MFn) (q:LpH) (c:MC) (args:Ab) (bs:List ABlk) (r:AV × List BO),BX f L=some mf->mf.loops[i]? = some (q,c)->CT Ai D own Hn s f i q c args bs=some r->D.ask (.lp f i) args bs=some r
def AI(mf:MFn)(i:Nat):LpH × MC:=(mf.loops[i]?).getD (⟨0,[],[],[],[]⟩,.bad)
theorem Knows.fn'{own:List (Nat × Nat)}{L:List (Nat × MFn)}{D:Orc}(K:Knows own L D)(Hn:Hnt)(s:Sc){f:Nat}{mf:MFn}{args:Ab}{bs:List ABlk}{r:AV × List BO}(h1:BX f L=some mf)(h:Bp Ai D own Hn s f mf args bs=some r):D.ask (.fn f) args bs=some r:=K.fn Hn s f mf args bs r h1 h
theorem Aq{own:List (Nat×Nat)}{L:List (Nat×MFn)}{D:Orc}(K:Knows own L D)(Hn:Hnt){s:Sc}{f:Nat}{mf:MFn}{args:Ab}{bs:List ABlk}{r:AV×List BO}{x:KR}(e:Bp Ai D own Hn s f mf args bs=x)(g:x=some r)(h1:BX f L=some mf:=by rfl):D.ask (.fn f) args bs=some r:=K.fn' Hn s h1 (e.trans g)
theorem Knows.lp'{own:List (Nat × Nat)}{L:List (Nat × MFn)}{D:Orc}(K:Knows own L D)(Hn:Hnt)(s:Sc){f i:Nat}{mf:MFn}{args:Ab}{bs:List ABlk}{r:AV × List BO}(h1:BX f L=some mf)(h2:(mf.loops[i]?).isSome=true)(h:CT Ai D own Hn s f i (AI mf i).1 (AI mf i).2 args bs=some r):D.ask (.lp f i) args bs=some r:=by
 obtain⟨⟨q,c⟩,e⟩:=Option.isSome_iff_exists.1 h2;refine K.lp Hn s f i mf q c args bs r h1 e ?_;unfold AI at h;rw[e]at h;exact h
theorem Ax{own:List (Nat×Nat)}{L:List (Nat×MFn)}{D:Orc}(K:Knows own L D)(Hn:Hnt){s:Sc}{f i:Nat}{mf:MFn}{args:Ab}{bs:List ABlk}{r:AV×List BO}{x:KR}(e:CT Ai D own Hn s f i (AI mf i).1 (AI mf i).2 args bs=x)(g:x=some r)(h1:BX f L=some mf:=by rfl)(h2:(mf.loops[i]?).isSome=true:=by kernel_rfl):D.ask (.lp f i) args bs=some r:=K.lp' Hn s h1 h2 (e.trans g)
theorem Fx{α:Type}{f:Nat}{a:α}:∀{L:List (Nat × α)},BX f L=some a->(f,a)∈L
 |[],h=>by cases h
 |(m,b)::r,h=>by
  unfold BX at h
  cases e:Av5 f m with
  |true=>
   rw[e]at h;simp only[ξ]at h;have:=AvY e;subst this;subst h;exact List.mem_cons_self
  |false=>
   rw[e]at h;exact List.mem_cons_of_mem _ (Fx h)
def ID(own:List (Nat × Nat))(L:List (Nat × MFn))(X:List (Nat × DF)):Seat:=⟨λf=>BX f L,own,λf=>BX f X⟩
def NN(L:List (Nat × MFn))(X:List (Nat × DF)):Bool:=L.all λp=>(BX p.1 X).isNone
theorem Afh{own:List (Nat × Nat)}{L L':List (Nat × MFn)}{X:List (Nat × DF)}(hs:∀ f mf,BX f L'=some mf->BX f L=some mf)(hx:NN L' X=true):Knows own L' (Bf Ai (ID own L X)) where
 fn Hn s f mf args bs r h1 h2:=AnF (M:=ID own L X) Hn s (by
  have:=AvJ.1 hx _ (Fx h1);exact Ax9.1 this) (hs f mf h1) h2
 lp Hn s f i mf q c args bs r h1 h2 h3:=AnG (M:=ID own L X) Hn s (hs f mf h1) h2 h3
section
variable {μ:Mu} {F:AQ} {w w':World}
theorem EC(F:AQ)(h:Below w.heap.size w w'):WStep F w w':=
 ⟨h.os,h.tape,h.output,h.size,λg o ho=>⟨o,by
  have hg:g<w.heap.size:=by
   grind
  exact(h.block g hg).trans ho,ObjStep.refl _ o⟩⟩
def Aby(F:AQ)(w w':World):AQ:=λg o=>F g o\/(w.heap.size<=g/\g<w'.heap.size)
theorem NJ{H:Nat->Option ABlk}(hH:HRep μ F w H)(h:Below w.heap.size w w'):Later μ μ F (Aby F w w') w w':=
 ⟨λ_ _ h=>h,λg o hg=>⟨.inl hg,(EC F h).cell hg (hH.prot g o hg)⟩⟩
theorem XN{H:Nat->Option ABlk}(hH:HRep μ F w H)(h:Below w.heap.size w w'):HRep μ (Aby F w w') w' H:=by
 have hl:=NJ hH h;have same:∀ g o,g<w.heap.size->w'.cell? ⟨g,o,none⟩=w.cell? ⟨g,o,none⟩:=λg o hg=>h.cell (p:=⟨g,o,none⟩) hg
 have st:=EC (λ_ _=>False) h;refine⟨λb k hb=>?_,hH.apart,λg o hg=>?_⟩
 .obtain⟨p,hp,B⟩:=hH.blk b k hb
  refine⟨p,hp,?_,B.room,?_,λh0 i hi=>.inl (B.kept h0 i hi),?_,B.pure⟩
  .intro i x hx
   obtain⟨u,h1,h2⟩:=B.cell i x hx;exact⟨u,(same _ _ (DW h1)).trans h1,h2.later hl⟩
  .intro i hi
   obtain⟨⟨u,h1⟩,h2⟩:=B.there i hi;exact⟨⟨u,(same _ _ (DW h1)).trans h1⟩,(st.frozen (DW h1)).trans h2⟩
  .rintro i hi (hf|⟨hf,_⟩)
   .exact B.free i hi hf
   .have hr:i<p.room:=by
     rcases hi with⟨h1,_⟩|⟨_,h1,_⟩
     .exact Awp h1 B.room
     .exact h1
    obtain⟨⟨u,h1⟩,_⟩:=B.there i hr;have:=DW h1;omega
 .rcases hg with hg|hg
  .exact Awp (hH.prot g o hg) h.size
  .exact hg.2
end
theorem AeD{S:Mw}(hm:Nr S)(res:Ab->Option AV)
  (h:∀ args r,res args=some r->∀(μ:Mu) (F:AQ) (w:World) (us:AN),RepList μ F w args us->S us w λu w'=>Below w.heap.size w w'/\Rep μ (Aby F w w') w' r u) :
  Ca S λargs bs=>match bs with
   |[]=>(res args).map λr=>(r,[])
   |_=>none:=by
 intro args bs r out hd
 cases bs with
 |cons=>cases hd
 |nil=>
  obtain⟨r',hr,he⟩:=Option.map_eq_some_iff.1 hd;obtain⟨rfl,rfl⟩:r'=r/\[]=out:=by simpa using he
  refine⟨η _,0,η _,λt _ μ F w KL us hKL hus hH hμ=>?_⟩;refine hm _ _ _ _ (h args r' hr μ F w us hus) λu w' ⟨hb,hu⟩=>?_
  refine⟨μ,Aby F w w',hu,?_,NJ hH hb,EC F hb,λ_ _=>rfl⟩;have:=XN hH hb;have e:(λb=>if b<t then([]:List ABlk)[b]? else look b KL)=λb=>if b<t then E4 [] [] b else look b KL:=by
   funext b
   by_cases hbt:b<t
   .rw[Ac hbt,Ac hbt]
    rfl
   .grind
  rw[←e];exact this
theorem TE{μ:Mu}{F:AQ}{w:World}{s:ByteArray}{us:AN}(h:RepList μ F w [sv s] us):us=[.string s]:=by
 obtain⟨u,t,rfl,hu,ht⟩:=h;have hu:u=_/\_:=hu;have ht:t=[]:=ht;rw[hu.1,ht]
inductive Ki
 |b
 |i
 |j (kd:IntKind)
 |s
 |l
 |q (bb ee:Nat)
 |t
 |a
 |p (bb oo:Nat)
 |f (g:Nat)
 |c (u:Value)
 |x
 |B
 |I
 |J (kd:IntKind)
 |S
 |L
 |C
 |N
 |X
 |O
 |E
 |Y
 |T
 |R
 |D
 |K
 |A
 |P (bb oo:Nat)
 |Z
 |w
inductive It
 |v (x:AV)
 |l (x:Ab)
 |o (x:List BO)
 |c (x:BO)
abbrev Ct:List Ki->Type
 |[]=>KR
 |.b::r=>Bool->Ct r
 |.i::r=>Int->Ct r
 |.j _::r=>Int->Ct r
 |.s::r=>ByteArray->Ct r
 |.l::r=>List Ab->Ct r
 |.q _ _::r=>Nat->Ct r
 |.t::r=>Ct r
 |.a::r=>Ct r
 |.p _ _::r=>Ct r
 |.f _::r=>Ct r
 |.c _::r=>Ct r
 |.x::r=>AV->Ct r
 |.B::r=>Bool->Ct r
 |.I::r=>Int->Ct r
 |.J _::r=>Int->Ct r
 |.S::r=>ByteArray->Ct r
 |.L::r=>List Ab->Ct r
 |.C::r=>Ct r
 |.N::r=>Ct r
 |.X::r=>Ab->Ct r
 |.O::r=>Ct r
 |.E::r=>Ct r
 |.Y::r=>List BO->Ct r
 |.T::r=>Ct r
 |.R::r=>Ct r
 |.D::r=>Ct r
 |.K::r=>Ct r
 |.A::r=>Ct r
 |.P _ _::r=>Ct r
 |.Z::r=>BO->Ct r
 |.w::r=>Unit->Ct r
def itV(s:List It)(k:AV->List It->KR):KR:=match s with
 |.v x::r=>k x r
 |_=>none
def itL(s:List It)(k:Ab->List It->KR):KR:=match s with
 |.l x::r=>k x r
 |_=>none
def itO(s:List It)(k:List BO->List It->KR):KR:=match s with
 |.o x::r=>k x r
 |_=>none
def itC(s:List It)(k:BO->List It->KR):KR:=match s with
 |.c x::r=>k x r
 |_=>none
def dk:(p:List Ki)->List It->Ct p->KR
 |[],_,k=>k
 |.b::r,s,k=>itV s λx s=>GU x λn=>dk r s (k n)
 |.i::r,s,k=>itV s λx s=>Kb .i64 x λn=>dk r s (k n)
 |.j kd::r,s,k=>itV s λx s=>Kb kd x λn=>dk r s (k n)
 |.s::r,s,k=>itV s λx s=>N1 x λn=>dk r s (k n)
 |.l::r,s,k=>itV s λx s=>Mr x λn=>dk r s (k n)
 |.q bb ee::r,s,k=>itV s λx s=>YJ bb ee x λn=>dk r s (k n)
 |.t::r,s,k=>itV s λx s=>Mt x λy=>dk r (.l y::s) k
 |.a::r,s,k=>itV s λx s=>N0 x λy=>dk r (.l y::s) k
 |.p bb oo::r,s,k=>itV s λx s=>Ms bb oo x<|dk r s k
 |.f g::r,s,k=>itV s λx s=>Acz g x<|dk r s k
 |.c u::r,s,k=>itV s λx s=>Wy u x<|dk r s k
 |.x::r,s,k=>itV s λx s=>dk r s (k x)
 |.B::r,s,k=>itL s λx s=>Rb x λn y=>dk r (.l y::s) (k n)
 |.I::r,s,k=>itL s λx s=>OX .i64 x λn y=>dk r (.l y::s) (k n)
 |.J kd::r,s,k=>itL s λx s=>OX kd x λn y=>dk r (.l y::s) (k n)
 |.S::r,s,k=>itL s λx s=>AaL x λn y=>dk r (.l y::s) (k n)
 |.L::r,s,k=>itL s λx s=>cLs x λn y=>dk r (.l y::s) (k n)
 |.C::r,s,k=>itL s λx s=>Ff x λz y=>dk r (.v z::.l y::s) k
 |.N::r,s,k=>itL s λx s=>EB x<|dk r s k
 |.X::r,s,k=>itL s λx s=>dk r s (k x)
 |.O::r,s,k=>itO s λx s=>Fj x λz y=>dk r (.c z::.o y::s) k
 |.E::r,s,k=>itO s λx s=>CB x<|dk r s k
 |.Y::r,s,k=>itO s λx s=>dk r s (k x)
 |.T::r,s,k=>itO s λx s=>Fj x λc y=>GD true false c λz=>dk r (.l z::.o y::s) k
 |.R::r,s,k=>itO s λx s=>Fj x λc y=>GD true true c λz=>dk r (.l z::.o y::s) k
 |.D::r,s,k=>itO s λx s=>Fj x λc y=>Sp c<|dk r (.o y::s) k
 |.K::r,s,k=>itO s λx s=>Fj x λc y=>Nl c<|dk r (.o y::s) k
 |.A::r,s,k=>itL s λx s=>Ff x λc y=>N0 c λz=>dk r (.l z::.l y::s) k
 |.P bb oo::r,s,k=>itL s λx s=>Ff x λc y=>Ms bb oo c<|dk r (.l y::s) k
 |.Z::r,s,k=>itC s λx s=>dk r s (k x)
 |.w::r,s,k=>dk r s (k ())
abbrev bk(cs:Ab):ABlk:=⟨cs,true,false⟩
abbrev Rw:=List Ab
abbrev Ah(D:Orc)(key:Key)(args:Ab)(bs:List ABlk)(p:List Ki)(k:Ct p):KR:=AJ D key args bs λr o=>dk p [.v r,.o o] k
theorem DK:(∀(s:List It) (k:Ct []),dk [] s k=k)/\(∀(r:List Ki) (x:AV) (s:List It) (k:Ct (.b::r)),dk (.b::r) (.v x::s) k=GU x λn=>dk r s (k n))/\(∀(r:List Ki) (x:AV) (s:List It) (k:Ct (.i::r)),dk (.i::r) (.v x::s) k=Kb .i64 x λn=>dk r s (k n))/\(∀(kd:IntKind) (r:List Ki) (x:AV) (s:List It) (k:Ct (.j kd::r)),dk (.j kd::r) (.v x::s) k=Kb kd x λn=>dk r s (k n))/\(∀(r:List Ki) (x:AV) (s:List It) (k:Ct (.s::r)),dk (.s::r) (.v x::s) k=N1 x λn=>dk r s (k n))/\(∀(r:List Ki) (x:AV) (s:List It) (k:Ct (.l::r)),dk (.l::r) (.v x::s) k=Mr x λn=>dk r s (k n))/\(∀(bb ee:Nat) (r:List Ki) (x:AV) (s:List It) (k:Ct (.q bb ee::r)),dk (.q bb ee::r) (.v x::s) k=YJ bb ee x λn=>dk r s (k n))/\(∀(r:List Ki) (x:AV) (s:List It) (k:Ct (.t::r)),dk (.t::r) (.v x::s) k=Mt x λy=>dk r (.l y::s) k)/\(∀(r:List Ki) (x:AV) (s:List It) (k:Ct (.a::r)),dk (.a::r) (.v x::s) k=N0 x λy=>dk r (.l y::s) k)/\(∀(bb oo:Nat) (r:List Ki) (x:AV) (s:List It) (k:Ct (.p bb oo::r)),dk (.p bb oo::r) (.v x::s) k=Ms bb oo x (dk r s k))/\(∀(g:Nat) (r:List Ki) (x:AV) (s:List It) (k:Ct (.f g::r)),dk (.f g::r) (.v x::s) k=Acz g x (dk r s k))/\(∀(u:Value) (r:List Ki) (x:AV) (s:List It) (k:Ct (.c u::r)),dk (.c u::r) (.v x::s) k=Wy u x (dk r s k))/\(∀(r:List Ki) (x:AV) (s:List It) (k:Ct (.x::r)),dk (.x::r) (.v x::s) k=dk r s (k x))/\(∀(r:List Ki) (x:Ab) (s:List It) (k:Ct (.B::r)),dk (.B::r) (.l x::s) k=Rb x λn y=>dk r (.l y::s) (k n))/\(∀(r:List Ki) (x:Ab) (s:List It) (k:Ct (.I::r)),dk (.I::r) (.l x::s) k=OX .i64 x λn y=>dk r (.l y::s) (k n))/\(∀(kd:IntKind) (r:List Ki) (x:Ab) (s:List It) (k:Ct (.J kd::r)),dk (.J kd::r) (.l x::s) k=OX kd x λn y=>dk r (.l y::s) (k n))/\(∀(r:List Ki) (x:Ab) (s:List It) (k:Ct (.S::r)),dk (.S::r) (.l x::s) k=AaL x λn y=>dk r (.l y::s) (k n))/\(∀(r:List Ki) (x:Ab) (s:List It) (k:Ct (.L::r)),dk (.L::r) (.l x::s) k=cLs x λn y=>dk r (.l y::s) (k n))/\(∀(r:List Ki) (x:Ab) (s:List It) (k:Ct (.C::r)),dk (.C::r) (.l x::s) k=Ff x λz y=>dk r (.v z::.l y::s) k)/\(∀(r:List Ki) (x:Ab) (s:List It) (k:Ct (.N::r)),dk (.N::r) (.l x::s) k=EB x (dk r s k))/\(∀(r:List Ki) (x:Ab) (s:List It) (k:Ct (.X::r)),dk (.X::r) (.l x::s) k=dk r s (k x))/\(∀(r:List Ki) (x:List BO) (s:List It) (k:Ct (.O::r)),dk (.O::r) (.o x::s) k=Fj x λz y=>dk r (.c z::.o y::s) k)/\(∀(r:List Ki) (x:List BO) (s:List It) (k:Ct (.E::r)),dk (.E::r) (.o x::s) k=CB x (dk r s k))/\(∀(r:List Ki) (x:List BO) (s:List It) (k:Ct (.Y::r)),dk (.Y::r) (.o x::s) k=dk r s (k x))/\(∀(r:List Ki) (x:List BO) (s:List It) (k:Ct (.T::r)),dk (.T::r) (.o x::s) k=Fj x λc y=>GD true false c λz=>dk r (.l z::.o y::s) k)/\(∀(r:List Ki) (x:List BO) (s:List It) (k:Ct (.R::r)),dk (.R::r) (.o x::s) k=Fj x λc y=>GD true true c λz=>dk r (.l z::.o y::s) k)/\(∀(r:List Ki) (x:List BO) (s:List It) (k:Ct (.D::r)),dk (.D::r) (.o x::s) k=Fj x λc y=>Sp c<|dk r (.o y::s) k)/\(∀(r:List Ki) (x:List BO) (s:List It) (k:Ct (.K::r)),dk (.K::r) (.o x::s) k=Fj x λc y=>Nl c<|dk r (.o y::s) k)/\(∀(r:List Ki) (x:Ab) (s:List It) (k:Ct (.A::r)),dk (.A::r) (.l x::s) k=Ff x λc y=>N0 c λz=>dk r (.l z::.l y::s) k)/\(∀(bb oo:Nat) (r:List Ki) (x:Ab) (s:List It) (k:Ct (.P bb oo::r)),dk (.P bb oo::r) (.l x::s) k=Ff x λc y=>Ms bb oo c<|dk r (.l y::s) k)/\(∀(r:List Ki) (x:BO) (s:List It) (k:Ct (.Z::r)),dk (.Z::r) (.c x::s) k=dk r s (k x))/\(∀(r:List Ki) (s:List It) (k:Ct (.w::r)),dk (.w::r) s k=dk r s (k ())):=by
 and_intros<;>intros<;>rfl
section
variable {D:Orc}
theorem Ll(x y:KR):br true x y=x:=Eq.trans (b:=x) rfl (Eq.refl x)
theorem Af{x y z:KR}(g:x=z):br true x y=z:=(Ll x y).trans g
theorem QO(x y:KR):br false x y=y:=Eq.trans (b:=y) rfl (Eq.refl y)
theorem Bm{x y z:KR}(g:y=z):br false x y=z:=(QO x y).trans g
theorem EV(b:Bool)(x y:KR):br b x y=if b=true then x else y:=by cases b<;>rfl
theorem AA(n:Nat)(k:Nat->KR):unI (n:Int) k=k n:=rfl
theorem PO{α:Type}(f:α->Ab)(xs:List α)(i:Nat)(k:Ab->KR):A4 (xs.map f) i k=match xs[i]? with
  |some x=>k (f x)
  |none=>none:=by
 unfold A4;rw[Tu,List.getElem?_map]
 cases xs[i]?<;>rfl
theorem Az{α:Type}{f:α->Ab}{xs:List α}{i:Nat}{x:α}(h:xs[i]? = some x)(k:Ab->KR):A4 (xs.map f) i k=k (f x):=by
 rw[PO,h]
theorem Aj{α:Type}(f:α->Ab)(xs:List α):AP (xs.map f)=xs.length:=by rw[Ia,Av8]
theorem AhM{key:Key}{args:Ab}{bs:List ABlk}{r:AV}{o:List BO}(h:D.ask key args bs=some (r,o))(k:AV->List BO->KR):AJ D key args bs k=k r o:=by
 unfold AJ;rw[h]
theorem Aa{D:Orc}{key:Key}{args:Ab}{bs:List ABlk}{r:AV}{o:List BO}{z:KR}{k:AV->List BO->KR}(h:D.ask key args bs=some (r,o))(g:k r o=z):AJ D key args bs k=z:=(AhM h k).trans g
theorem Ahj(n:Int)(k:Int->KR):Kb .i64 (iv n) k=k n:=rfl
theorem Acw(n:Bool)(k:Bool->KR):GU (bv n) k=k n:=rfl
theorem Ahk(n:ByteArray)(k:ByteArray->KR):N1 (sv n) k=k n:=rfl
theorem Akb(n:Rw)(k:Rw->KR):Mr (.ls n) k=k n:=rfl
theorem Acv(n:Ab)(k:Ab->KR):N0 (.agg n) k=k n:=rfl
theorem AcD(n:Ab)(k:Ab->KR):Mt (.tup n) k=k n:=rfl
theorem AhU(n:Int)(r:Ab)(k:Int->Ab->KR):OX .i64 (iv n::r) k=k n r:=rfl
theorem Adl(n:Bool)(r:Ab)(k:Bool->Ab->KR):Rb (bv n::r) k=k n r:=rfl
theorem AhV(n:ByteArray)(r:Ab)(k:ByteArray->Ab->KR):AaL (sv n::r) k=k n r:=rfl
theorem AnP(n:Rw)(r:Ab)(k:Rw->Ab->KR):cLs (.ls n::r) k=k n r:=rfl
theorem AcA(k:KR):EB [] k=k:=rfl
theorem Wx(c:AV)(r:Ab)(k:AV->Ab->KR):Ff (c::r) k=k c r:=rfl
theorem Acy(k:KR):CB [] k=k:=rfl
theorem YI(c:BO)(r:List BO)(k:BO->List BO->KR):Fj (c::r) k=k c r:=rfl
theorem Wz(k:KR):Nl .keep k=k:=rfl
theorem Acx(k:KR):Sp .del k=k:=rfl
theorem AcC(st ex:Bool)(cs:Ab)(k:Ab->KR):GD st ex (.set ⟨cs,st,ex⟩) k=k cs:=by
 unfold GD;exact Ac ⟨rfl,rfl⟩
theorem Aka(f:Nat)(k:KR):Acz f (.fn (.func f) [] []) k=k:=by simp[Acz]
theorem AcB(b o:Nat)(k:KR):Ms b o (.ptr b o) k=k:=by simp[Ms]
theorem Akc(b e n:Nat)(k:Nat->KR):YJ b e (.sl b 0 n e) k=k n:=by simp[YJ]
theorem Asy:AT 0 (bv true)=true:=rfl
theorem Asx(n:Int):AT 0 (iv n)=false:=rfl
theorem Asw:AT 1 (iv 0)=true:=rfl
theorem ND:(∀(n:Int) (k:Int->KR),Kb .i64 (iv n) k=k n)/\(∀(n:Bool) (k:Bool->KR),GU (bv n) k=k n)/\(∀(n:ByteArray) (k:ByteArray->KR),N1 (sv n) k=k n)/\(∀(n:Rw) (k:Rw->KR),Mr (.ls n) k=k n)/\(∀(n:Ab) (k:Ab->KR),N0 (.agg n) k=k n)/\(∀(n:Ab) (k:Ab->KR),Mt (.tup n) k=k n)/\(∀(n:Int) (r:Ab) (k:Int->Ab->KR),OX .i64 (iv n::r) k=k n r)/\(∀(n:Bool) (r:Ab) (k:Bool->Ab->KR),Rb (bv n::r) k=k n r)/\(∀(n:ByteArray) (r:Ab) (k:ByteArray->Ab->KR),AaL (sv n::r) k=k n r)/\(∀(n:Rw) (r:Ab) (k:Rw->Ab->KR),cLs (.ls n::r) k=k n r)/\(∀(k:KR),EB [] k=k)/\(∀(c:AV) (r:Ab) (k:AV->Ab->KR),Ff (c::r) k=k c r)/\(∀(k:KR),CB [] k=k)/\(∀(c:BO) (r:List BO) (k:BO->List BO->KR),Fj (c::r) k=k c r)/\(∀(st ex:Bool) (cs:Ab) (k:Ab->KR),GD st ex (.set ⟨cs,st,ex⟩) k=k cs)/\(∀(k:KR),Sp .del k=k)/\(∀(k:KR),Nl .keep k=k)/\(∀(b o:Nat) (k:KR),Ms b o (.ptr b o) k=k)/\(∀(b e n:Nat) (k:Nat->KR),YJ b e (.sl b 0 n e) k=k n)/\(AT 0 (bv true)=true)/\(∀(n:Int),AT 0 (iv n)=false)/\(AT 1 (iv 0)=true)/\(∀(x y:KR),br true x y=x)/\(∀(x y:KR),br false x y=y):=⟨Ahj,Acw,Ahk,Akb,Acv,AcD,AhU,Adl,AhV,AnP,AcA,Wx,Acy,YI,AcC,Acx,Wz,AcB,Akc,Asy,Asx,Asw,Ll,QO⟩
def Ae:=And.intro ND (And.intro DK Aka)
end
instance:LawfulBEq ByteArray where
 eq_of_beq {a b} h:=by
  obtain⟨a⟩:=a;obtain⟨b⟩:=b;rw[Jy]at h;simpa using h
 rfl {a}:=by
  rw[Jy];simp
section
theorem V2(a b:Int):Ai.lt a b=decide (a<b):=rfl
theorem Tz(a b:Int):Ai.le a b=decide (a<=b):=rfl
theorem Jh(a b:Int):Ai.eq a b=decide (a=b):=by
 show (a == b)=decide (a=b)
 rfl
theorem J5(a b:ByteArray):Ai.seq a b=decide (a=b):=by
 show (a.toList == b.toList)=_
 rw[Up,Jy];obtain⟨a⟩:=a;obtain⟨b⟩:=b
 by_cases h:a=b
 .subst h;simp
 .simp[h]
theorem LX(b:Bool):Ai.not b = !b:=rfl
theorem PY(a b:Bool):Ai.beq a b=(a == b):=rfl
theorem ci0(n:Nat):((n:Int)=0)=(n=0):=propext (by omega)
theorem ci1(n:Nat):((n:Int)=1)=(n=1):=propext (by omega)
theorem ArW(a b:Int):Ai.min a b=min a b:=by
 show (if b<a then b else a)=_
 omega
theorem BE(s:ByteArray):Ai.slen s=s.size:=rfl
theorem F5(a b:ByteArray):Ai.cat a b=a++b:=rfl
theorem Ha{a b:Int}(h1:-9223372036854775808<=a+b)(h2:a+b<9223372036854775808):Ai.add .i64 a b=a+b:=by
 show IntKind.i64.wrap (a+b)=a+b
 rw[IntKind.wrap_i64];omega
theorem Hc{a b:Int}(h1:-9223372036854775808<=a-b)(h2:a-b<9223372036854775808):Ai.sub .i64 a b=a-b:=by
 show IntKind.i64.wrap (a-b)=a-b
 rw[IntKind.wrap_i64];omega
theorem Bn{i:Nat}(h:i<4611686018427387904):Ai.add .i64 (i:Int) 1=((i+1:Nat):Int):=by
 grind [Ha]
end
section
variable {α:Type}
def Av(e:α->Ab)(l:List α):Ab:=l.flatMap e
theorem AW(e:α->Ab)(l:List α)(x:α):Av e l++e x=Av e (l++[x]):=by simp[Av]
theorem BK{e:α->Ab}{w:Nat}(he:∀ x,(e x).length=w):∀ l:List α,(Av e l).length=l.length*w
 |[]=>by simp[Av]
 |x::r=>by
  have:=BK he r;unfold Av at this ⊢;rw[List.flatMap_cons,ζ,this,he,ε,Nat.add_mul,Nat.one_mul,Nat.add_comm]
theorem A0{e:α->Ab}{w:Nat}(he:∀ x,(e x).length=w)(l:List α){n:Nat}(hn:n=l.length*w):(Av e l).take n=Av e l:=by
 simp_all [AwJ,η,BK]
theorem Dk{e:α->Ab}{w:Nat}(he:∀ x,(e x).length=w):∀ l:List α,Bo l.length w (Av e l)=l.map e
 |[]=>rfl
 |x::r=>by
  have ih:=Dk he r;simp only[ε,Bo,AvT];have h1:Av e (x::r)=e x++Av e r:=by simp[Av]
  have h2:(e x).length=w:=he x;rw[h1,List.take_append_of_le_length (by omega),AwJ (by omega),List.drop_append_of_le_length (by omega),List.drop_of_length_le (by omega),AvV,ih]
theorem By{e:α->Ab}{w:Nat}(he:∀ x,(e x).length=w)(l:List α){n:Nat}(hn:n=l.length):Bo n w ((Av e l).take (n*w))=l.map e:=by
 grind [Dk,A0]
theorem AK{e:α->Ab}{w:Nat}(he:∀ x,(e x).length=w)(l:List α){n:Nat}(hn:n=l.length*w):AvL n (Av e l).length=true:=by
 rw[BK he,hn];simp
theorem LR{e:α->Ab}(he:∀ x,LQ (e x)=true):∀ l:List α,LQ (Av e l)=true
 |[]=>rfl
 |x::r=>by
  have ih:=LR he r;have h1:Av e (x::r)=e x++Av e r:=by simp[Av]
  rw[h1];rw[Ie]at ih ⊢;rw[List.all_append,ih,Axa,←Ie];exact he x
theorem FO(e:α->Ab)(l:List α):Kz (l.map e)=Av e l:=by
 rw[Ln];rfl
theorem Hp{e:α->Ab}{w:Nat}(he:∀ x,(e x).length=w)(l:List α):GH w (l.map e)=true:=by
 rw[Ju];simp[he]
theorem AL{n b:Nat}(hn:n<=1099511627776)(hb:b<=128):AU n b=true:=by
 unfold AU;have:n*b<=1099511627776*128:=Nat.mul_le_mul hn hb;have h1:AvL (n*b) 140737488355328=true:=by simp;omega
 rw[h1];simp[maxLen];omega
end
def Gl(c:UInt8):Bool:=decide (97<=c.toNat)&&decide (c.toNat<=122)
def B9(c:UInt8):Bool:=decide (48<=c.toNat)&&decide (c.toNat<=57)
def Eh(c:UInt8):Bool:=Gl c||B9 c||(c.toNat == 95)
def QM(c:UInt8):Bool:=[88,71,70,85,82].contains c.toNat
def Hi(p:UInt8->Bool):List UInt8->Nat
 |[]=>0
 |c::l=>if p c then Hi p l+1 else 0
def Rs:Bool->List UInt8->Nat
 |_,[]=>0
 |r,c::l=>if c.toNat=10 then Rs false l+1 else if r then Rs true l+1 else if c.toNat=35 then Rs true l+1 else if c.toNat=32\/c.toNat=9 then Rs false l+1 else 0
def OL(p:Nat × Nat)(c:UInt8):Nat × Nat:=if c.toNat=10 then(p.1+1,1) else(p.1,p.2+1)
def adv(p:Nat × Nat)(l:List UInt8):Nat × Nat:=l.foldl OL p
def K5:List (List UInt8):=[[45,62],[58,61],[33,61],[60,61],[62,61],[46,46],[40],[41],[44],[59],[58],[46],[43],[42],[38],[124],[33],[64],[61],[60],[62],[47],[45]]
def DJ(l:List UInt8):Nat:=match K5.find? (·.isPrefixOf l) with|some x=>x.length|none=>0
inductive Tok1
 |fin
 |err (e:Nat)
 |tok (kind n:Nat)
 deriving DecidableEq
def Ip:List UInt8->Tok1
 |[]=>.fin
 |c::l=>
  if Gl c then(if 20<Hi Eh (c::l) then .err 2 else .tok 1 (Hi Eh (c::l)))
  else if B9 c then(if 60<Hi B9 (c::l) then .err 2 else if 1<Hi B9 (c::l)/\c.toNat=48 then .err 20 else .tok 3 (Hi B9 (c::l)))
  else if QM c then .tok 4 1
  else if DJ (c::l)=0 then .err 100 else .tok 2 (DJ (c::l))
theorem EP(c:UInt8)(l:List UInt8):Ip (c::l) =
  if Gl c then(if 20<Hi Eh (c::l) then .err 2 else .tok 1 (Hi Eh (c::l)))
  else if B9 c then(if 60<Hi B9 (c::l) then .err 2 else if 1<Hi B9 (c::l)/\c.toNat=48 then .err 20 else .tok 3 (Hi B9 (c::l)))
  else if QM c then .tok 4 1
  else if DJ (c::l)=0 then .err 100 else .tok 2 (DJ (c::l)):=rfl
def Dy(l:List UInt8):Bool:=!l.isEmpty&&decide (l.length<=60)&&!(decide (1<l.length)&&(l.getD 0 0).toNat == 48)&&l.all B9
def Kd(l:List UInt8):Bool:=!l.isEmpty&&decide (l.length<=20)&&Gl (l.getD 0 0)&&l.all Eh
def AbZ:List (List UInt8):=[[116,114,117,101],[102,97,108,115,101],[118,97,114],[105,110],[105,110,105,116],[112,114,111,99],[108,111,99],[101,110,100]]
def P9(l:List UInt8):Bool:=AbZ.contains l
def CA(l:List UInt8):Bool:=Kd l&&!P9 l
structure Tk where
 kind:Nat
 text:List UInt8
 ln:Nat
 co:Nat
 deriving DecidableEq
inductive LexR
 |ok (ts:List Tk)
 |err (e ln co:Nat)
 deriving DecidableEq
def LexR.more(t:Tk):LexR->LexR
 |.ok ts=>.ok (t::ts)
 |.err e ln co=>.err e ln co
theorem OC(p:UInt8->Bool):∀ l:List UInt8,Hi p l<=l.length
 |[]=>η _
 |c::l=>by
  unfold Hi;have:=OC p l;split
  .simp;omega
  .simp
theorem XF:∀(r:Bool) (l:List UInt8),Rs r l<=l.length
 |_,[]=>η _
 |r,c::l=>by
  have h1:=XF true l;have h2:=XF false l;unfold Rs;rw[ε]
  repeat' split
  all_goals omega
theorem Sd(l:List UInt8):DJ l<=l.length:=by
 unfold DJ;split
 .rename_i x h
  have:=List.find?_some h;exact(List.isPrefixOf_iff_prefix.1 this).length_le
 .omega
theorem Ww{l:List UInt8}{k n:Nat}(h:Ip l=.tok k n):0<n/\n<=l.length:=by
 cases l with
 |nil=>simp[Ip]at h
 |cons c l=>
  have h1:=OC Eh (c::l);have h2:=OC B9 (c::l);have h3:=Sd (c::l);rw[EP]at h;split at h
  .rename_i hc
   have h4:0<Hi Eh (c::l):=by unfold Hi;rw[Ac (by simp[Eh,hc])];omega
   split at h
   .simp at h
   .simp at h;omega
  split at h
  .rename_i hc
   have h4:0<Hi B9 (c::l):=by unfold Hi;rw[Ac hc];omega
   split at h
   .simp at h
   .split at h
    .simp at h
    .simp at h;omega
  split at h
  .simp at h
   rw[ε];omega
  split at h
  .simp at h
  .simp at h;omega
def XY(l:List UInt8)(p:Nat × Nat):LexR:=
 let k:=Rs false l
 let q:=adv p (l.take k)
 match _h:Ip (l.drop k) with
 |.fin=>.ok [⟨5,[],q.1,q.2⟩]
 |.err e=>.err e q.1 q.2
 |.tok kind n=>(XY (l.drop (k+n)) (adv q ((l.drop k).take n))).more ⟨kind,(l.drop k).take n,q.1,q.2⟩
termination_by l.length
decreasing_by
 have h1:=Ww _h;rw[List.length_drop]at h1 ⊢;omega
def Ib(s:List UInt8):LexR:=if 16384<s.length then .err 2 1 1 else XY s (1,1)
theorem AiG(l:List UInt8)(p:Nat × Nat):XY l p=match Ip (l.drop (Rs false l)) with
  |.fin=>.ok [⟨5,[],(adv p (l.take (Rs false l))).1,(adv p (l.take (Rs false l))).2⟩]
  |.err e=>.err e (adv p (l.take (Rs false l))).1 (adv p (l.take (Rs false l))).2
  |.tok kind n=>(XY (l.drop (Rs false l+n)) (adv (adv p (l.take (Rs false l))) ((l.drop (Rs false l)).take n))).more ⟨kind,(l.drop (Rs false l)).take n,(adv p (l.take (Rs false l))).1,(adv p (l.take (Rs false l))).2⟩:=by
 rw[XY];split<;>rename_i h<;>simp only[h]
section
open Go.RowKit
def eS(s:ByteArray):Ab:=[sv s]
def eTk(t:Tk):Ab:=[iv t.kind,sv (Ag t.text),iv t.ln,iv t.co]
structure Mo where
 neg:Bool
 num:ByteArray
 var:ByteArray
def C4(m:Mo):Ab:=[bv m.neg,sv m.num,sv m.var]
inductive Tr where
 |mk (kind:Int) (l r:List Mo) (op:Int) (proc loc:ByteArray) (kids:List Tr)
mutual
def BH:Tr->Ab
 |.mk k l r op p q ks=>[iv k,.ls (l.map C4),.ls (r.map C4),iv op,sv p,sv q,.ls (KD ks)]
def KD:List Tr->Rw
 |[]=>[]
 |x::r=>BH x::KD r
end
theorem B1:∀ l,KD l=l.map BH
 |[]=>rfl
 |x::r=>by simp[KD,B1 r]
def T0:Tr:=.mk 0 [] [] 0 (Ag []) (Ag []) []
def nx(ts:List Tk)(i:Nat):Tk:=match ts[i]? with
 |some t=>t
 |none=>ts.getLastD ⟨5,[],0,0⟩
def isT(ts:List Tk)(i:Nat)(s:List UInt8):Bool:=decide ((nx ts i).text=s)&&(decide ((nx ts i).kind=1)||decide ((nx ts i).kind=2)||decide ((nx ts i).kind=4))
def isN(ts:List Tk)(i:Nat):Bool:=decide ((nx ts i).kind=1)&&CA (nx ts i).text
section
variable (ts:List Tk) (vars:List ByteArray) (kn:Bool)
def AcE(i:Nat):Nat × Nat × ByteArray:=if isN ts i=false then(i,101,Ag []) else if kn=true/\Ag (nx ts i).text∉vars then(i,110,Ag []) else(i+1,0,Ag (nx ts i).text)
def I6(i:Nat)(neg:Bool):Nat × Nat × Mo:=
 if(nx ts i).kind=3 then(if isT ts (i+1) [42] then((AcE ts vars kn (i+2)).1,(AcE ts vars kn (i+2)).2.1,⟨neg,Ag (nx ts i).text,(AcE ts vars kn (i+2)).2.2⟩)
  else(i+1,0,⟨neg,Ag (nx ts i).text,Ag []⟩))
 else((AcE ts vars kn i).1,(AcE ts vars kn i).2.1,⟨neg,Ag [],(AcE ts vars kn i).2.2⟩)
def Asz(i:Nat):Bool:=decide ((nx ts i).kind=3)||isN ts i
def Aj1:Nat->List Mo->Bool->Nat->Nat × Nat × List Mo
 |k,out,neg,i=>if Asz ts i=false then(i,101,[]) else match k with
  |0=>(i,3,[])
  |k+1=>if(I6 ts vars kn i neg).2.1≠0 then((I6 ts vars kn i neg).1,(I6 ts vars kn i neg).2.1,[])
   else if isT ts (I6 ts vars kn i neg).1 [45] then Aj1 k (out++[(I6 ts vars kn i neg).2.2]) true ((I6 ts vars kn i neg).1+1)
   else if isT ts (I6 ts vars kn i neg).1 [43] then Aj1 k (out++[(I6 ts vars kn i neg).2.2]) false ((I6 ts vars kn i neg).1+1)
   else((I6 ts vars kn i neg).1,0,out++[(I6 ts vars kn i neg).2.2])
def JR(i:Nat):Nat × Nat × List Mo:=if isT ts i [45] then Aj1 ts vars kn 64 [] true (i+1) else Aj1 ts vars kn 64 [] false i
def M4:List (List UInt8):=[[61],[33,61],[60],[60,61],[62],[62,61]]
def opP(i:Nat):Option Nat:=M4.findIdx? (isT ts i)
def AnT(i:Nat):Nat × Nat × Tr:=
 if(JR ts vars kn i).2.1≠0 then((JR ts vars kn i).1,(JR ts vars kn i).2.1,T0) else match opP ts (JR ts vars kn i).1 with
  |none=>((JR ts vars kn i).1,101,T0)
  |some op=>if(JR ts vars kn ((JR ts vars kn i).1+1)).2.1≠0 then((JR ts vars kn ((JR ts vars kn i).1+1)).1,(JR ts vars kn ((JR ts vars kn i).1+1)).2.1,T0)
   else((JR ts vars kn ((JR ts vars kn i).1+1)).1,0,.mk 2 (JR ts vars kn i).2.2 (JR ts vars kn ((JR ts vars kn i).1+1)).2.2 op (Ag []) (Ag []) [])
inductive Jb where
 |one
 |both
 |bothL (x:Tr)
 |cond
 |condL (x:Tr)
def Aqr(q:Nat × Nat × Tr):Nat × Nat × Tr:=(q.1,q.2.1,T0)
def Cq(q:Nat × Nat × Tr)(k:Nat->Tr->Nat × Nat × Tr):Nat × Nat × Tr:=if q.2.1=0 then k q.1 q.2.2 else Aqr q
def WN:Nat->Jb->Nat->Nat->Nat × Nat × Tr
 |0,_,i,_=>(i,999,T0)
 |n+1,.one,i,d=>
  if(isT ts i [33]||isT ts i [40])=true/\d=60 then(i,102,T0)
  else if isT ts i [116,114,117,101] then(i+1,0,.mk 0 [] [] 0 (Ag []) (Ag []) [])
  else if isT ts i [102,97,108,115,101] then(i+1,0,.mk 1 [] [] 0 (Ag []) (Ag []) [])
  else if isT ts i [33] then Cq (WN n .one (i+1) (d+1)) λj x=>(j,0,.mk 3 [] [] 0 (Ag []) (Ag []) [x])
  else if isT ts i [40] then Cq (WN n .cond (i+1) (d+1)) λj x=>if isT ts j [41] then(j+1,0,x) else(j,101,T0)
  else AnT ts vars kn i
 |n+1,.both,i,d=>Cq (WN n .one i d) λj x=>WN n (.bothL x) j d
 |n+1,.bothL x,i,d=>if isT ts i [38] then Cq (WN n .one (i+1) d) λj y=>WN n (.bothL (.mk 4 [] [] 0 (Ag []) (Ag []) [x,y])) j d else(i,0,x)
 |n+1,.cond,i,d=>Cq (WN n .both i d) λj x=>WN n (.condL x) j d
 |n+1,.condL x,i,d=>if isT ts i [124] then Cq (WN n .both (i+1) d) λj y=>WN n (.condL (.mk 5 [] [] 0 (Ag []) (Ag []) [x,y])) j d else(i,0,x)
end
end
def tkV(t:Tk):AN:=[.int .i64 t.kind,.string ⟨t.text.toArray⟩,.int .i64 t.ln,.int .i64 t.co]
theorem AfR(ts:List Tk):GA (ts.map eTk)=true:=by
 unfold GA;rw[List.all_map];refine AvJ.2 λt _=>?_
 rfl
theorem M5{μ:Mu}{F:AQ}{w:World}(n:Int):Rep μ F w (iv n) (.int .i64 n):=by
 unfold iv Rep;exact⟨rfl,rfl⟩
theorem TF{μ:Mu}{F:AQ}{w:World}(s:ByteArray):Rep μ F w (sv s) (.string s):=by
 unfold sv Rep;exact⟨rfl,rfl⟩
theorem Yn{μ:Mu}{F:AQ}{w:World}(b:Bool):Rep μ F w (bv b) (.bool b):=by
 unfold bv Rep;exact⟨rfl,rfl⟩
theorem V8{μ:Mu}{F:AQ}{w:World}{g:Nat}(hF:∀ o,F g o):∀(ts:List Tk) (o:Nat),(∀ j,j<ts.length*4->w.cell? ⟨g,o+j,none⟩=((ts.map tkV).flatten)[j]?)->RepRows μ F w g 4 (ts.map eTk) o
 |[],o,_=>by
  simp only[List.map_nil,RepRows]
 |t::r,o,h=>by
  have hc:∀ j,j<4->w.cell? ⟨g,o+j,none⟩=(tkV t)[j]?:=λj hj=>by
   rw[h j (by simp;omega),AvT,Aww,List.getElem?_append_left (by simp[tkV];omega)]
  have hr:=V8 (μ:=μ) hF r (o+4) (λj hj=>by
   have:=h (4+j) (by simp;omega);rw[AvT,Aww,List.getElem?_append_right (by simp[tkV])]at this;rw[Nat.add_assoc,this]
   congr 1
   simp[tkV])
  simp only[AvT,RepRows];refine⟨rfl,?_,hr⟩;simp only[eTk,RepAt];exact⟨⟨hF _,_,(hc 0 (by omega)).trans rfl,M5 _⟩,⟨hF _,_,(hc 1 (by omega)).trans rfl,TF _⟩,⟨hF _,_,(hc 2 (by omega)).trans rfl,M5 _⟩,⟨hF _,_,(hc 3 (by omega)).trans rfl,M5 _⟩,trivial⟩
theorem AjI{μ:Mu}{F:AQ}{w w':World}{e:TypeId}{v:Value}{ts:List Tk}(ho:w'.ownsRow w.heap.size e 4 v ts.length ((ts.map tkV).flatten)):Rep μ (Aby F w w') w' (.ls (ts.map eTk)) v:=by
 have h2:=ho.2;unfold Rep;refine⟨AfR ts,?_⟩;rw[Av8];rcases h2 with⟨rfl,h0⟩|⟨g,cap,cur,rfl,hb,hg,hn,hc,_⟩
 .have:ts=[]:=List.length_eq_zero_iff.1 h0
  subst this;exact⟨none,0,rfl,η _,Awh _,λh=>absurd rfl h⟩
 .have hlt:g<w'.heap.size:=by
   by_cases h:g<w'.heap.size
   .exact h
   .rw[Array.getElem?_eq_none (by omega)]at hg;cases hg
  refine⟨some ⟨g,0,none⟩,cap,rfl,hn,hc,λ_=>⟨g,0,4,rfl,?_⟩⟩;exact V8 (λo=>.inr ⟨hb,hlt⟩) ts 0 (λj hj=>by rw[AvW];exact ho.cellAt j hj)
theorem ML{P:Program}{ents:Nat}{M:Seat}(hM:SeatOk P ents M){f:Nat}{args:Ab}{r:AV}(h:(Bf Ai M).ask (.fn f) args []=some (r,[]))(w:World)(us:AN)
  (hus:RepList (λ_=>none) (λg _=>g<w.heap.size) w args us) :
  Calls P f us.toArray w λe w'=>∃ u,e=.returned u/\Below w.heap.size w w'/\∃ μ' F',Rep μ' F' w' r u:=by
 obtain⟨_,t0,ht,g⟩:=DQ hM f args [] r [] h;have hH:HRep (λ_=>none) (λg _=>g<w.heap.size) w (λb=>if b<t0 then([]:List ABlk)[b]? else look b []):=by
  have e:∀ b,(if b<t0 then([]:List ABlk)[b]? else look b [])=none:=λb=>by split<;>rfl
  refine⟨λb k hb=>?_,λb b' k k' p p' _ hb=>?_,λg o hg=>hg⟩
  .rw[e]at hb;cases hb
  .rw[e]at hb;cases hb
 have:=g t0 (η _) (λ_=>none) (λg _=>g<w.heap.size) w [] us (by simp) hus hH (λ_ _ _=>rfl);refine Calls.mono this ?_;rintro e w' ⟨u,rfl,μ',F',h1,_,_,h4,_⟩;exact⟨u,rfl,h4.below (η _) (λg o hg=>hg),μ',F',h1⟩
section
variable {μ μ':Mu} {F:AQ} {w:World}
mutual
theorem Rep.plain:∀(x:AV) (u:Value),x.noid=true->Rep μ F w x u->Rep μ' (λg _=>g<w.heap.size) w x u
 |.v x,u,_,hx=>by simpa only[Rep]using hx
 |.ptr b o,u,h,hx=>by simp[AV.noid]at h
 |.sl b o n e,u,h,hx=>by simp[AV.noid]at h
 |.ls xs,u,_,hx=>by
  simp only[Rep]at hx ⊢;obtain⟨h0,A,c,h1,h2,h3,h4⟩:=hx;refine⟨h0,A,c,h1,h2,h3,λhne=>?_⟩;obtain⟨g,o,e,hA,hr⟩:=h4 hne;exact⟨g,o,e,hA,RepRows.plain g e xs o h0 hr⟩
 |.lp cs,u,_,hx=>by
  simp only[Rep]at hx ⊢;obtain⟨h0,g,o,h1,h2⟩:=hx;exact⟨h0,g,o,h1,RepAt.plain g cs o h0 h2⟩
 |.agg cs,u,h,hx=>by
  simp only[Rep]at hx ⊢;obtain⟨us,h1,h2⟩:=hx;exact⟨us,h1,RepList.plain cs _ (by simpa only[AV.noid]using h) h2⟩
 |.tup cs,u,h,hx=>by
  simp only[Rep]at hx ⊢;obtain⟨us,h1,h2⟩:=hx;exact⟨us,h1,RepList.plain cs _ (by simpa only[AV.noid]using h) h2⟩
 |.fn f a c,u,h,hx=>by
  simp only[Rep]at hx ⊢;simp only[AV.noid,AvF]at h;obtain⟨ua,uc,h1,h2,h3⟩:=hx;exact⟨ua,uc,h1,RepList.plain a _ h.1 h2,RepList.plain c _ h.2 h3⟩
 |.any,_,_,_=>by simp only[Rep]
theorem RepRows.plain(g e:Nat):∀(xs:Rw) (o:Nat),GA xs=true->RepRows μ F w g e xs o->RepRows μ' (λg _=>g<w.heap.size) w g e xs o
 |[],_,_,_=>by simp only[RepRows]
 |x::r,o,h,hx=>by
  simp only[RepRows]at hx ⊢;unfold GA at h;rw[Axc,AvF]at h;exact⟨hx.1,RepAt.plain g x o h.1 hx.2.1,RepRows.plain g e r _ h.2 hx.2.2⟩
theorem RepAt.plain(g:Nat):∀(xs:Ab) (o:Nat),A6 xs=true->RepAt μ F w g xs o->RepAt μ' (λg _=>g<w.heap.size) w g xs o
 |[],_,_,_=>by simp only[RepAt]
 |x::r,o,h,hx=>by
  simp only[RepAt]at hx ⊢;simp only[A6,AvF]at h;obtain⟨⟨h1,u,h2,h3⟩,h4⟩:=hx;exact⟨⟨DW h2,u,h2,Rep.plain x u h.1 h3⟩,RepAt.plain g r _ h.2 h4⟩
theorem RepList.plain:∀(xs:Ab) (us:AN),A6 xs=true->RepList μ F w xs us->RepList μ' (λg _=>g<w.heap.size) w xs us
 |[],us,_,hx=>by simpa only[RepList]using hx
 |x::r,us,h,hx=>by
  simp only[RepList]at hx ⊢;simp only[A6,AvF]at h;obtain⟨u,t,h1,h2,h3⟩:=hx;exact⟨u,t,h1,Rep.plain x u h.1 h2,RepList.plain r t h.2 h3⟩
end
end
theorem AbX{w w':World}{x:AV}{u:Value}(hx:Rep (λ_=>none) (λg _=>g<w.heap.size) w x u)(h:Below w.heap.size w w'):Rep (λ_=>none) (λg _=>g<w'.heap.size) w' x u:=
 hx.later ⟨λ_ _ h=>h,λg o hg=>⟨Awp hg h.size,h.cell (p:=⟨g,o,none⟩) hg⟩⟩
def CH:Ab->Option AV
 |[.v (.string s)]=>if s.size<=9223372036854775807 then some (bv (CA s.data.toList)) else none
 |_=>none
def TG:Ab->Option AV
 |[.v (.string s)]=>if s.size<=9223372036854775807 then(match Ib s.data.toList with
  |.ok ts=>some (.tup [.ls (ts.map eTk),.agg [iv 0,iv 0],iv 0])
  |.err c ln co=>some (.tup [.ls [],.agg [iv (ln:Int),iv (co:Int)],iv (c:Int)])) else none
 |_=>none
def CO(res:Ab->Option AV):DF:=λargs bs=>match bs with
 |[]=>(res args).map λr=>(r,[])
 |_=>none
def BZ:Ab->Option AV
 |[.v (.string s)]=>if s.size<=9223372036854775807 then some (bv (Dy s.data.toList)) else none
 |_=>none
def OH(P:Program)(ents:Nat):List (Nat × MFn)->Prop
 |[]=>True
 |p::r=>(∃ hs a b,p.2=I5 P ents hs a b p.1)/\AfY P p.1=true/\OH P ents r
theorem Q5{P:Program}{ents:Nat}:∀{L:List (Nat × MFn)},OH P ents L->∀ f mf,(f,mf)∈L->FnOk P ents f mf
 |p::r,⟨⟨hs,a,b,h1⟩,h2,h3⟩,f,mf,hm=>by
  rcases AvK.1 hm with rfl|hm
  .have h1:mf=_:=h1
   rw[h1];exact Aih h2
  .exact Q5 h3 f mf hm
theorem Q4{P:Program}{ents:Nat}:∀{L L':List (Nat × MFn)},OH P ents L->OH P ents L'->OH P ents (L++L')
 |[],_,_,h=>h
 |_::_,_,⟨h1,h2,h3⟩,h=>⟨h1,h2,Q4 h3 h⟩
def Aen(P:Program)(ents n:Nat):Bool:=Awv ents (2 ^ n)&&(List.range n).all λg=>!ents.testBit g||GY P g
theorem Aeo{P:Program}{ents n:Nat}(h:Aen P ents n=true):JV P ents:=by
 unfold Aen at h;rw[AvF]at h;intro g hg;have hn:ents<2 ^ n:=Nat.blt_eq.mp h.1
 by_cases hgn:g<n
 .have:=AvJ.1 h.2 g (List.mem_range.2 hgn)
  rw[hg]at this;simpa using this
 .have:ents<2 ^ g:=Awp hn (Nat.pow_le_pow_right (by decide) (by omega))
  rw[Nat.testBit_lt_two_pow this]at hg
  cases hg
theorem Pb{α:Type}{f:Nat}:∀{A B:List (Nat × α)},BX f (A++B)=match BX f A with
  |some a=>some a
  |none=>BX f B
 |[],_=>rfl
 |(m,b)::r,B=>by
  have ih:=Pb (f:=f) (A:=r) (B:=B)
  show (match Av5 f m with
   |true=>some b
   |false=>BX f (r++B))=match (match Av5 f m with
   |true=>some b
   |false=>BX f r) with
   |some a=>some a
   |none=>BX f B
  cases Av5 f m with
  |true=>rfl
  |false=>exact ih
def Ac6(A B:List (Nat × MFn)):Bool:=B.all λp=>(BX p.1 A).isNone
theorem XA{A B:List (Nat × MFn)}(h:Ac6 A B=true){f:Nat}{mf:MFn}(hf:BX f B=some mf):BX f (A++B)=some mf:=by
 have:=AvJ.1 h _ (Fx hf);have h0:BX f A=none:=Ax9.1 this;rw[Pb,h0];exact hf
theorem Aa2{A B:List (Nat × MFn)}{f:Nat}{mf:MFn}(hf:BX f A=some mf):BX f (A++B)=some mf:=by
 rw[Pb,hf]
def JW(P:Program):List (Nat × DF)->Prop
 |[]=>True
 |p::r=>Ca (CW P p.1) p.2/\JW P r
theorem Rv{P:Program}:∀{L:List (Nat × DF)},JW P L->∀ f d,(f,d)∈L->Ca (CW P f) d
 |p::r,⟨h1,h2⟩,f,d,hm=>by
  rcases AvK.1 hm with rfl|hm
  .exact h1
  .exact Rv h2 f d hm
def JU(P:Program)(ents:Nat):List (List (Nat × MFn))->Prop
 |[]=>True
 |T::r=>OH P ents T/\JU P ents r
theorem Ui{P:Program}{ents:Nat}:∀{L:List (List (Nat × MFn))},JU P ents L->OH P ents L.flatten
 |[],_=>trivial
 |T::r,⟨h1,h2⟩=>by
  rw[Aww];exact Q4 h1 (Ui h2)
theorem Ik{P:Program}{ents:Nat}{own:List (Nat × Nat)}{L:List (List (Nat × MFn))}{X:List (Nat × DF)}(m:P.follows .mixedOrders=true)(e:JV P ents)(a:JU P ents L)(g:JW P X):SeatOk P ents (ID own L.flatten X) where
 mixed:=m
 ent:=e
 fns f mf h:=Q5 (Ui a) f mf (Fx h)
 ext f d h:=Rv g f d (Fx h)
def GK:List (List (Nat × MFn))->Bool
 |[]=>true
 |T::r=>Ac6 T r.flatten&&GK r
theorem Zb{f:Nat}{mf:MFn}:∀{L:List (List (Nat × MFn))} {i:Nat} {T:List (Nat × MFn)},GK L=true->L[i]? = some T->BX f T=some mf->BX f L.flatten=some mf
 |A::r,0,T,_,hi,h=>by
  injection hi with hi
  subst hi;rw[Aww];exact Aa2 h
 |A::r,i+1,T,ha,hi,h=>by
  unfold GK at ha;rw[AvF]at ha;rw[Aww];exact XA ha.1 (Zb ha.2 hi h)
theorem Afy:∀{L:List (List (Nat × MFn))} {i:Nat} {T:List (Nat × MFn)},L[i]? = some T->∀ p∈T,p∈L.flatten
 |A::r,0,T,hi,p,hp=>by
  injection hi with hi
  subst hi;rw[Aww];exact List.mem_append_left _ hp
 |A::r,i+1,T,hi,p,hp=>by
  rw[Aww];exact List.mem_append_right _ (Afy (L:=r) hi p hp)
theorem Bg{own:List (Nat × Nat)}{L:List (List (Nat × MFn))}{X:List (Nat × DF)}(h:(GK L&&NN L.flatten X)=true){i:Nat}{T:List (Nat × MFn)}(hi:L[i]? = some T):Knows own T (Bf Ai (ID own L.flatten X)):=by
 rw[AvF]at h;refine Afh (λf mf hf=>Zb h.1 hi hf) (AvJ.2 λp hp=>AvJ.1 h.2 p (Afy hi p hp))
def BI:Nat:=1989262591437705541604795875994989242731836106004175106551764689416051591154717805248508
abbrev Bj(h:Ld)(n:Nat):MFn:=I5 π BI h false false n
def mBg:Nat->Nat->List Bool
 | 0,_=>[]
 | k+1,n=>(match Av5 n 0 with
  | true=>[]
  | false=>Av5 (Nat.mod n 2) 1::mBg k (Nat.div n 2))
def mB(n:Nat):List Bool:=mBg 400 n
abbrev A8:List Sh:=[.int .i64,.ls,.ls,.int .i64,.str,.str,.ls]
abbrev Bk:List Sh:=[.bool,.ls]
abbrev BA:List Sh:=[.ls,.bool,.ls]
abbrev BM:List Sh:=[.int .i64,.bool,.ls]
abbrev BS:List Sh:=[.int .i64,.ls,.bool,.ls,.bool,.ls]
abbrev Cg:List Sh:=[.bool,.int .i64,.int .i64,.int .i64,.ls,.bool,.ls,.bool,.ls]
abbrev Cj:List Sh:=[.int .i64,.int .i64,.ls]
abbrev Fs:List Sh:=[.ls,.ls,.int .i64,.ls,.bool,.ls,.bool,.ls,.ls,.ls]
abbrev Mi:List Sh:=[.bool,.str,.str]
abbrev Mj:List Sh:=[.ls,.bool,.ls,.bool]
abbrev Qj:List Sh:=[.str,.ls,.ls]
abbrev Se:List Sh:=[.ls,.int .i64]
def Ak:List (Nat × Nat):=[(263,0),(152,0),(206,0),(242,0),(243,0),(260,0),(273,0),(156,0),(208,0)]
theorem X4:Tryz.prog.follows .mixedOrders=true:=by kernel_rfl
set_option maxRecDepth 100000 in
theorem HW:JV π BI:=Aeo (n:=600) (by kernel_rfl)
theorem JD{S:Mw}(hm:Nr S)(res:Ab->Option AV)
  (h:∀ args r,res args=some r->∀(μ:Mu) (F:AQ) (w:World) (us:AN),RepList μ F w args us->S us w λu w'=>Below w.heap.size w w'/\Rep μ (Aby F w w') w' r u):Ca S (CO res):=AeD hm res h
theorem O5{P:Program}{f:Nat}(h:∀(s:ByteArray) w,s.size<=9223372036854775807->Calls P f #[.string s] w λe w'=>e=.returned (.bool (Dy s.data.toList))/\Below w.heap.size w w'):Ca (CW P f) (CO BZ):=by
 refine JD (CV P f) _ λargs r hr μ F w us hus=>?_
 unfold BZ at hr;split at hr
 .rename_i s
  split at hr
  .rename_i hs
   injection hr with hr
   subst hr;obtain rfl:=TE hus;refine Calls.mono (h s w hs) ?_;rintro e w' ⟨rfl,hb⟩;exact⟨_,rfl,hb,Yn _⟩
  .cases hr
 .cases hr
theorem UB{P:Program}{f:Nat}(h:∀(s:ByteArray) w,s.size<=9223372036854775807->Calls P f #[.string s] w λe w'=>e=.returned (.bool (CA s.data.toList))/\Below w.heap.size w w'):Ca (CW P f) (CO CH):=by
 refine JD (CV P f) _ λargs r hr μ F w us hus=>?_
 unfold CH at hr;split at hr
 .rename_i s
  split at hr
  .rename_i hs
   injection hr with hr
   subst hr;obtain rfl:=TE hus;refine Calls.mono (h s w hs) ?_;rintro e w' ⟨rfl,hb⟩;exact⟨_,rfl,hb,Yn _⟩
  .cases hr
 .cases hr
def Sx(s:ByteArray)(ety:TypeId)(w:World)(e:Ending)(w':World):Prop:=match Ib s.data.toList with
 |.ok ts=>∃ v,e=.returned (.tuple #[v,.agg #[.int .i64 0,.int .i64 0],.int .i64 0])/\w'.ownsRow w.heap.size ety 4 v ts.length ((ts.map tkV).flatten)/\Below w.heap.size w w'
 |.err c ln co=>e=.returned (.tuple #[.slice none 0 0,.agg #[.int .i64 ln,.int .i64 co],.int .i64 c])/\Below w.heap.size w w'
theorem Aac{μ:Mu}{F:AQ}{w:World}{a:AV}{u:Value}{p q n:Int}(h:Rep μ F w a u):Rep μ F w (.tup [a,.agg [iv p,iv q],iv n]) (.tuple #[u,.agg #[.int .i64 p,.int .i64 q],.int .i64 n]):=by
 simp only[Rep,RepList];exact⟨_,rfl,_,_,rfl,h,_,_,rfl,⟨_,rfl,_,_,rfl,M5 _,_,_,rfl,M5 _,rfl⟩,_,_,rfl,M5 _,rfl⟩
theorem Aig{P:Program}{f:Nat}(ety:TypeId)(h:∀(s:ByteArray) w,s.size<=9223372036854775807->Calls P f #[.string s] w (Sx s ety w)):Ca (CW P f) (CO TG):=by
 refine JD (CV P f) _ λargs r hr μ F w us hus=>?_
 unfold TG at hr;split at hr
 .rename_i s
  split at hr
  .rename_i hs
   obtain rfl:=TE hus;have g:=h s w hs;unfold Sx at g
   cases ha:Ib s.data.toList with
   |ok ts=>
    rw[ha]at hr g;injection hr with hr
    subst hr;refine Calls.mono g ?_;rintro e w' ⟨v,rfl,ho,hb⟩;exact⟨_,rfl,hb,Aac (AjI ho)⟩
   |err c ln co=>
    rw[ha]at hr g;injection hr with hr
    subst hr;refine Calls.mono g ?_;rintro e w' ⟨rfl,hb⟩;refine⟨_,rfl,hb,Aac ?_⟩;unfold Rep;exact⟨rfl,none,0,rfl,η _,Awh _,λh=>absurd rfl h⟩
  .cases hr
 .cases hr
section
open Go.RowKit
def ArA:MFn:=Bj [] 60
def AqJ:Hnt:=⟨[(61,(.bool,[]))],[],[(3,Mi)]⟩
def ArB:MFn:=Bj [] 61
def AqK:Hnt:=⟨[(108,(.bool,[])),(109,(.bool,[]))],[],[(4,[.str]),(8,[.str]),(13,[.str]),(17,[.str]),(23,[.str]),(27,[.str])]⟩
def Zp:MFn:=Bj [⟨19,(mB 387),[],[],[(0,((mB 16),([],[]))),(1,([],([],[])))]⟩] 107
def UR:Hnt:=⟨[(60,(.bool,[]))],[(0,[(0,([.int .i64],[])),(1,([],[]))])],[(14,Mi),(15,Mi)]⟩
def Arz:MFn:=Bj [] 59
def AqI:Hnt:=⟨[(107,(.int .i64,[]))],[],[]⟩
def Arl:MFn:=Bj [] 23
def Aqv:Hnt:=⟨[(59,(.bool,[]))],[],[]⟩
def Ary:MFn:=Bj [] 57
def AqH:Hnt:=⟨[],[],[(4,[.str]),(8,[.str]),(12,[.str]),(15,[.str]),(18,[.str]),(20,[.str])]⟩
def Arv:MFn:=Bj [] 45
def AqE:Hnt:=⟨[],[],[(4,[.ls]),(9,[.ls]),(15,[.int .i64]),(20,[.str]),(25,[.str])]⟩
def Arw:MFn:=Bj [] 46
def AqF:Hnt:=⟨[(23,(.bool,[]))],[],[(4,[.int .i64]),(8,[.ls]),(13,[.ls]),(18,[.int .i64]),(23,[.int .i64]),(28,[.str]),(33,[.str]),(38,[.ls])]⟩
def Al8:MFn:=Bj [] 110
def AkQ:Hnt:=⟨[],[],[]⟩
def Al9:MFn:=Bj [] 111
def AkR:Hnt:=⟨[],[],[(11,[.int .i64]),(15,[.int .i64]),(21,[.int .i64]),(28,[.int .i64]),(38,[.int .i64])]⟩
def AiP:MFn:=Bj [⟨59,(mB 240518168582),[],[2],[(0,((mB 16),([],[2]))),(1,([],([],[2])))]⟩] 62
def AeT:Hnt:=⟨[(45,(.bool,[])),(46,(.bool,[])),(62,(.bool,[])),(110,(.int .i64,[])),(111,(.bool,[]))],[(0,[(0,([.bool],[.del])),(1,([],[.del]))])],[(9,[.int .i64]),(11,A8),(14,[.int .i64]),(18,A8),(23,[.ls]),(26,[.int .i64]),(35,[.ls]),(40,A8),(41,A8),(44,[.int .i64]),(46,A8),(53,A8)]⟩
def Arm:MFn:=Bj [] 24
def Aqw:Hnt:=⟨[(62,(.bool,[]))],[],[(3,A8)]⟩
def Fi:List (Nat × MFn):=[(60,ArA),(61,ArB),(107,Zp),(59,Arz),(23,Arl),(57,Ary),(45,Arv),(46,Arw),(110,Al8),(111,Al9),(62,AiP),(24,Arm)]
variable (A:Ar) (D:Orc)
theorem e60(x0_0:Bool)(x0_1 x0_2:ByteArray):Bp A D Ak AqJ .n 60 ArA [Φ [bv x0_0,sv x0_1,sv x0_2]] [] =
 Ah D (δ 61) [Φ [bv x0_0,sv x0_1,sv x0_2]] [] [.b,.E] λb=>
 br b
 (some ((bv false,[])))
 (some ((bv true,[]))):=by kernel_rfl
theorem e61(x0_0:Bool)(x0_1 x0_2:ByteArray):Bp A D Ak AqK (.b (.b .n (.b (.b (.b (.b .n (.b (.b .n (.b (.b (.b (.b (.t (.b (.b .n (.b .n (.b .n (.b (.b (.b (.b (.b (.b (.b (.b (.f .n) .n) .n) .n) .n) .n) .n) .n) .n)))) .n)) .n) .n) .n) .n)) .n)) .n) .n) .n)) (.b (.b .n (.b .n (.b .n (.b (.b (.b (.b (.b (.f .n) .n) .n) .n) .n) .n)))) .n)) 61 ArB [Φ [bv x0_0,sv x0_1,sv x0_2]] [] =
 let y1:=some (bv false,[]);br (A.seq x0_1 (Ag [])) (br (A.seq x0_2 (Ag [])) y1 (br (A.seq x0_1 (Ag [])) (br (A.seq x0_2 (Ag [])) none (AJ D (δ 109) [sv x0_2] [] λr o=>GU r λb=>CB o<|br b
 (some (bv true,[])) y1)) none)) (br (A.seq x0_1 (Ag [])) none (AJ D (δ 108) [sv x0_1] [] λr o=>GU r λb=>CB o<|br b (br (A.seq x0_2 (Ag [])) (some (bv true,[])) (Ah D (δ 109) [sv x0_2] []
 [.b,.E] λb1=>br b1 (some (bv true,[])) y1)) y1)):=by kernel_rfl
theorem AsB(x0:Rw):Bp A D Ak UR .n 107 Zp [Ξ x0,Av2 (Fn.func 60) [] []] [] =
 Ah D (ι 107 0) [Ξ x0,Av2 (Fn.func 60) [] [],iv ↑(AP x0),iv 0] [] [.t,.C,.x,.X,.Y] λc l o=>
 br (AT 0 c)
 (dk [.I,.N,.E] [.l l,.o o] λn=>
 some ((iv n,[])))
 (br (AT 1 c)
 (EB l<|
 CB o<|
 some ((iv (-1),[])))
 (none)):=by kernel_rfl
theorem AdD(x0:Rw)(t7 t8:Int):CT A D Ak UR .n 107 0 (AI Zp 0).fst (AI Zp 0).snd [Ξ x0,Av2 (Fn.func 60) [] [],iv t7,iv t8] [] =
 br (A.lt t8 t7)
 (unI t8 λi=>
 A4 x0 i λcs=>
 dk [.B,.S,.S,.N] [.l cs] λb s s1=>
 Ah D (δ 60) [Φ [bv b,sv s,sv s1]] [] [.b,.E] λb1=>
 br b1
 (some ((γ [bv true,iv t8],[])))
 (AJ D (ι 107 0) [Ξ x0,Av2 (Fn.func 60) [] [],iv t7,iv (A.add φ t8 1)] [] λr1 o1=>
 AG 0 [] (AH.mk [] 0 none) [] r1 o1))
 (some ((γ [iv 0],[]))):=by kernel_rfl
theorem e59(x0:Rw):Bp A D Ak AqI .n 59 Arz [Ξ x0,Av2 (Fn.func 60) [] []] [] =
 Ah D (δ 107) [Ξ x0,Av2 (Fn.func 60) [] []] [] [.i,.E] λn=>
 br (A.le 0 n)
 (some ((bv true,[])))
 (some ((bv false,[]))):=by kernel_rfl
theorem e23(x0:Rw):Bp A D Ak Aqv .n 23 Arl [Ξ x0] [] =
 br (A.lt 0 ↑(AP x0))
 (br (A.le (↑(AP x0)) 64)
 (Ah D (δ 59) [Ξ x0,Av2 (Fn.func 60) [] []] [] [.b,.E] λb=>
 br b
 (some ((bv false,[])))
 (some ((bv true,[]))))
 (some ((bv false,[]))))
 (some ((bv false,[]))):=by kernel_rfl
theorem e57(x0_0:Bool)(x0_1 x0_2:ByteArray):Bp A D Ak AqH .n 57 Ary [Φ [bv x0_0,sv x0_1,sv x0_2]] [] =
 let y1:=br ((A.slen x0_1+A.slen x0_2).ble 9223372036854775807) (some (sv (A.cat x0_1 x0_2),[])) none;br (A.seq x0_1 (Ag [])) y1 (br (A.seq x0_2 (Ag [])) y1 (br ((A.slen x0_1+A.slen (Ag [42])).ble
 9223372036854775807) (br ((A.slen (A.cat x0_1 (Ag [42]))+A.slen x0_2).ble 9223372036854775807) (some (sv (A.cat (A.cat x0_1 (Ag [42])) x0_2),[])) none) none)):=by kernel_rfl
theorem e45(x0_0:Int)(x0_1 x0_2:Rw)(x0_3:Int)(x0_4 x0_5:ByteArray)(x0_6:Rw):Bp A D Ak AqE .n 45 Arv [Φ [iv x0_0,Ξ x0_1,Ξ x0_2,iv x0_3,sv x0_4,sv x0_5,Ξ x0_6]] [] =
 let y1:=some (bv false,[]);br (A.eq (↑(AP x0_1)) 0) (br (A.eq (↑(AP x0_2)) 0) (br (A.eq x0_3 0) (br (A.seq x0_4 (Ag [])) (br (A.seq x0_5 (Ag [])) (some (bv true,[])) y1) y1) y1) y1) y1:=by kernel_rfl
theorem e46(x0_0:Int)(x0_1 x0_2:Rw)(x0_3:Int)(x0_4 x0_5:ByteArray)(x0_6:Rw):Bp A D Ak AqF .n 46 Arw [Φ [iv x0_0,Ξ x0_1,Ξ x0_2,iv x0_3,sv x0_4,sv x0_5,Ξ x0_6]] [] =
 let y1:=some (bv false,[]);br (A.eq x0_0 2) (Ah D (δ 23) [Ξ x0_1] [] [.b,.E] λb=>br b (Ah D (δ 23) [Ξ x0_2] [] [.b,.E] λb1=>br b1 (br (A.le 0 x0_3) (br (A.le x0_3 5) (br (A.seq x0_4 (Ag
 [])) (br (A.seq x0_5 (Ag [])) (br (A.eq (↑(AP x0_6)) 0) (some (bv true,[])) y1) y1) y1) y1) y1) y1) y1) y1:=by kernel_rfl
theorem AsC(x0:Int):Bp A D Ak AkQ .n 110 Al8 [iv x0] [] =
 br (A.eq x0 0)
 (some ((iv 0,[])))
 (br (A.eq x0 1)
 (some ((iv 0,[])))
 (br (A.eq x0 3)
 (some ((iv 1,[])))
 (br (A.eq x0 4)
 (some ((iv 2,[])))
 (br (A.eq x0 5)
 (some ((iv 2,[])))
 (some ((iv (-1),[]))))))):=by kernel_rfl
theorem AsD(x0 x1 x2_0:Int)(x2_1 x2_2:Rw)(x2_3:Int)(x2_4 x2_5:ByteArray)(x2_6:Rw):Bp A D Ak AkR .n 111 Al9 [iv x0,iv x1,Φ [iv x2_0,Ξ x2_1,Ξ x2_2,iv x2_3,sv x2_4,sv x2_5,Ξ x2_6]] [] =
 let y1:=some (bv false,[]);let y2:=some (bv true,[]);br (A.eq x0 3) (br (A.eq x2_0 4) y2 (br (A.eq x2_0 5) y2 y1)) (br (A.eq x0 4) (br (A.eq x2_0 5) y2 (br (A.eq x1 1) (br (A.eq x2_0 4) y2 y1) y1)) (br (A.eq x0 5) (br
 (A.eq x1 1) (br (A.eq x2_0 5) y2 y1) y1) y1)):=by kernel_rfl
theorem e62(x0_0:Int)(x0_1 x0_2:Rw)(x0_3:Int)(x0_4 x0_5:ByteArray)(x0_6:Rw)(x1:Int):Bp A D Ak AeT .n 62 AiP [Φ [iv x0_0,Ξ x0_1,Ξ x0_2,iv x0_3,sv x0_4,sv x0_5,Ξ x0_6],iv x1] [] =
 let y1:=[iv x0_0,Ξ x0_1,Ξ x0_2,iv x0_3,sv x0_4,sv x0_5,Ξ x0_6];let y3:=some (bv false,[]);br (A.eq x0_0 2) (Ah D (δ 46) [Φ y1] [] [.b,.E] λb=>br b (some (bv true,[])) y3)
 (let y2:=λz1 z2 z3=>br (AT 0 z1) (dk [.B,.N,.D,.E] [.l z2,.o z3] λb1=>some (bv b1,[])) (br (AT 1 z1) (dk [.N,.D,.E,.w] [.l z2,.o z3] λ_=>some (bv true,[])) none);br (A.eq x0_0 3) (Ah D (δ
 45) [Φ y1] [] [.b,.E] λb=>br b (Ah D (δ 110) [iv x0_0] [] [.i,.E] λn=>br (A.eq (↑(AP x0_6)) n) (br (A.lt 60 (A.add φ x1 1)) y3 (Ah D (ι 62 0) [iv (A.add φ x1 1),ψ 0 0,
 Ξ x0_6,iv ↑(AP x0_6),iv 0] [bk y1] [.t,.C,.x,.X,.Y] y2)) y3) y3) (Ah D (δ 45) [Φ y1] [] [.b,.E] λb=>br b (Ah D (δ 110) [iv x0_0] [] [.i,.E] λn=>br (A.eq (↑(AP x0_6)) n) (br (A.lt 60
 x1) y3 (Ah D (ι 62 0) [iv x1,ψ 0 0,Ξ x0_6,iv ↑(AP x0_6),iv 0] [bk y1] [.t,.C,.x,.X,.Y] y2)) y3) y3)):=by kernel_rfl
theorem AkA(t1 b2_0:Int)(b2_1 b2_2:Rw)(b2_3:Int)(b2_4 b2_5:ByteArray)(b2_6 t35:Rw)(t36 t37:Int):CT A D Ak AeT .n 62 0 (AI AiP 0).fst (AI AiP 0).snd [iv t1,ψ 0 0,Ξ t35,iv t36,iv t37] [bk [iv b2_0,Ξ b2_1,Ξ b2_2,iv b2_3,sv b2_4,sv b2_5,Ξ b2_6]] =
 br (A.lt t37 t36) (unI t37 λi=>A4 t35 i λcs=>dk [.I,.L,.L,.I,.S,.S,.L,.N] [.l cs] λn xs xs1 n1 s s1 xs2=>let y2:=[iv n,Ξ xs,Ξ xs1,iv n1,sv s,sv s1,Ξ xs2];Ah D (δ 111) [iv b2_0,
 iv t37,Φ y2] [] [.b,.E] λb=>let y3:=some (γ [bv true,bv false],[BO.del]);
 let y1:=λz1=>br z1 (let y4:=bk [iv b2_0,Ξ b2_1,Ξ b2_2,iv b2_3,sv b2_4,sv b2_5,Ξ b2_6];AJ D (ι 62 0) [iv t1,ψ 0 0,Ξ t35,iv t36,iv (A.add φ t37 1)] [y4] λr2 o2=>AG 1 [0] (AH.mk [(0,y4),(1,bk y2)] 2 none) [0] r2 o2) y3;
 br b (br (A.lt 60 (A.add φ t1 1)) y3 (Ah D (δ 62) [Φ y2,iv (A.add φ t1 1)] [] [.b,.E] y1)) (br (A.lt 60 t1) y3 (Ah D (δ 62) [Φ y2,iv t1] [] [.b,.E] y1))) (some (γ [iv 0],
 [BO.del])):=by kernel_rfl
theorem e24(x0_0:Int)(x0_1 x0_2:Rw)(x0_3:Int)(x0_4 x0_5:ByteArray)(x0_6:Rw):Bp A D Ak Aqw .n 24 Arm [Φ [iv x0_0,Ξ x0_1,Ξ x0_2,iv x0_3,sv x0_4,sv x0_5,Ξ x0_6]] [] =
 Ah D (δ 62) [Φ [iv x0_0,Ξ x0_1,Ξ x0_2,iv x0_3,sv x0_4,sv x0_5,Ξ x0_6],iv 0] [] [.b,.E] λb=>
 br b
 (some ((bv true,[])))
 (some ((bv false,[]))):=by kernel_rfl
end
def Aar:List (List (Nat × MFn)):=[Fi]
def Aes:List (Nat × DF):=[(109,CO CH),(108,CO BZ)]
def Ank:Seat:=ID Ak Aar.flatten Aes
def DT:Orc:=Bf Ai Ank
set_option maxRecDepth 100000 in
theorem Ast:JU π BI Aar:=by
 repeat' first|exact trivial|refine⟨⟨_,_,_,rfl⟩,by kernel_rfl,?_⟩|refine⟨?_,?_⟩
theorem Asu:(GK Aar&&NN Aar.flatten Aes)=true:=by kernel_rfl
theorem Aq2:Knows Ak Fi DT:=Bg Asu (i:=0) rfl
section
variable {args:Ab} {bs:List ABlk} {r:AV × List BO}
theorem Apz(h:(CO CH) args bs=some r):DT.ask (.fn 109) args bs=some r:=BB rfl h
theorem Ahr(h:(CO BZ) args bs=some r):DT.ask (.fn 108) args bs=some r:=BB rfl h
end
theorem Wh(h:JW π Aes):SeatOk π BI Ank:=Ik X4 HW Ast h
theorem ME{a b:Int}(h:a=b){x y:KR}:br (Ai.eq a b) x y=x:=by rw[Jh,Ba h];rfl
theorem Aw{a b:Int}{x y z:KR}(g:x=z)(h: a=b:=by omega):br (Ai.eq a b) x y=z:=(ME h).trans g
theorem MD{a b:Int}(h:¬ a=b){x y:KR}:br (Ai.eq a b) x y=y:=by rw[Jh,Bu h];rfl
theorem Ap{a b:Int}{x y z:KR}(g:y=z)(h:¬ a=b:=by omega):br (Ai.eq a b) x y=z:=(MD h).trans g
theorem AhT{a b:ByteArray}(h:a=b){x y:KR}:br (Ai.seq a b) x y=x:=by rw[J5,Ba h];rfl
theorem CI{a b:ByteArray}{x y z:KR}(h: a=b)(g:x=z):br (Ai.seq a b) x y=z:=(AhT h).trans g
theorem Dt{a b:ByteArray}(h:¬ a=b){x y:KR}:br (Ai.seq a b) x y=y:=by rw[J5,Bu h];rfl
theorem AnO{a b:Int}(h:a<b){x y:KR}:br (Ai.lt a b) x y=x:=by rw[V2,Ba h];rfl
theorem Ao{a b:Int}{x y z:KR}(g:x=z)(h: a<b:=by omega):br (Ai.lt a b) x y=z:=(AnO h).trans g
theorem W3{a b:Int}(h:¬ a<b){x y:KR}:br (Ai.lt a b) x y=y:=by rw[V2,Bu h];rfl
theorem Am{a b:Int}{x y z:KR}(g:y=z)(h:¬ a<b:=by omega):br (Ai.lt a b) x y=z:=(W3 h).trans g
theorem BL{a b:Nat}(h:a<=b)(x y:KR):br (a.ble b) x y=x:=by
 rw[Nat.ble_eq_true_of_le h];rfl
theorem AnN{a b:Int}(h:a<=b){x y:KR}:br (Ai.le a b) x y=x:=by rw[Tz,Ba h];rfl
theorem CL{a b:Int}{x y z:KR}(g:x=z)(h: a≤b:=by omega):br (Ai.le a b) x y=z:=(AnN h).trans g
theorem Adk{a b:Int}(h:¬ a<=b){x y:KR}:br (Ai.le a b) x y=y:=by rw[Tz,Bu h];rfl
theorem C7{a b:Int}{x y z:KR}(g:y=z)(h:¬ a≤b:=by omega):br (Ai.le a b) x y=z:=(Adk h).trans g
structure Toks (ts:List Tk):Prop where
 len:ts.length+300<4611686018427387904
 short:∀ i,(nx ts i).text.length<4611686018427387904
 fin:(ts.getLastD ⟨5,[],0,0⟩).kind=5
theorem Toks.past{ts:List Tk}(H:Toks ts){i:Nat}(h:ts.length<=i):(nx ts i).kind=5:=by
 unfold nx;rw[List.getElem?_eq_none h];exact H.fin
theorem Toks.isT{ts:List Tk}(H:Toks ts){i:Nat}{s:List UInt8}(h:isT ts i s=true):i<ts.length:=by
 by_cases hi:i<ts.length
 .exact hi
 .unfold Go.Proofs.YtlmhajfbpplpoaaGreat.isT at h
  rw[H.past (by omega)]at h;simp at h
theorem Toks.isN{ts:List Tk}(H:Toks ts){i:Nat}(h:isN ts i=true):i<ts.length:=by
 by_cases hi:i<ts.length
 .exact hi
 .unfold Go.Proofs.YtlmhajfbpplpoaaGreat.isN at h
  rw[H.past (by omega)]at h;simp at h
theorem Toks.num{ts:List Tk}(H:Toks ts){i:Nat}(h:(nx ts i).kind=3):i<ts.length:=by
 by_cases hi:i<ts.length
 .exact hi
 .rw[H.past (by omega)]at h
  simp at h
structure Far (ts:List Tk) (i j e:Nat):Prop where
 ge:i<=j
 le:j<=ts.length
 gt:e=0->i<j
theorem Far.trans{ts:List Tk}{i j e k e2:Nat}(h:Far ts i j e)(h2:Far ts j k e2):Far ts i k e2:=⟨by have:=h.ge;have:=h2.ge;omega,h2.le,λhe=>by have:=h.ge;have:=h2.gt he;omega⟩
section
open Go.RowKit
def AuJ:MFn:=I5 π BI [] false true 92
def AuN:MFn:=I5 π BI [] false true 96
def AuK:MFn:=I5 π BI [] false true 93
def Arn:MFn:=I5 π BI [] false true 248
def Arj:MFn:=I5 π BI [] false true 162
def Ark:MFn:=I5 π BI [] false true 163
def AuM:MFn:=I5 π BI [] false true 95
def AuL:MFn:=I5 π BI [] false true 94
def AuG:MFn:=I5 π BI [⟨41,(mB 49),[(4,3)],[],[(0,((mB 13),([2],[4])))]⟩] false true 49
def ArM:MFn:=Bj [] 90
def AqW:Hnt:=⟨[],[],[]⟩
def AfJ:MFn:=Bj [⟨19,(mB 387),[],[],[(0,((mB 16),([],[]))),(1,([],([],[])))]⟩] 88
def Ae0:Hnt:=⟨[],[(0,[(0,([.int .i64],[])),(1,([],[]))])],[(14,[.str]),(15,[.str])]⟩
def AmS:MFn:=Bj [] 219
def Qq:List (Nat × MFn):=[(92,AuJ),(96,AuN),(93,AuK),(248,Arn),(162,Arj),(163,Ark),(95,AuM),(94,AuL),(49,AuG),(90,ArM),(88,AfJ),(219,AmS)]
variable (A:Ar) (D:Orc)
theorem e90:Bp A D Ak AqW .n 90 ArM [] [] =
 some ((Ξ [[sv (Ag [61])],[sv (Ag [33,61])],[sv (Ag [60])],[sv (Ag [60,61])],[sv (Ag [62])],[sv (Ag [62,61])]],[])):=by kernel_rfl
theorem e88(x0:Rw)(x1:ByteArray):Bp A D Ak Ae0 .n 88 AfJ [Ξ x0,sv x1] [] =
 Ah D (ι 88 0) [Ξ x0,sv x1,iv ↑(AP x0),iv 0] [] [.t,.C,.x,.X,.Y] λc l o=>
 br (AT 0 c)
 (dk [.I,.N,.E] [.l l,.o o] λn=>
 some ((iv n,[])))
 (br (AT 1 c)
 (EB l<|
 CB o<|
 some ((iv (-1),[])))
 (none)):=by kernel_rfl
theorem AkH(t0:Rw)(t1:ByteArray)(t7 t8:Int):CT A D Ak Ae0 .n 88 0 (AI AfJ 0).fst (AI AfJ 0).snd [Ξ t0,sv t1,iv t7,iv t8] [] =
 br (A.lt t8 t7)
 (unI t8 λi=>
 A4 t0 i λcs=>
 dk [.S,.N] [.l cs] λs=>
 br (A.seq t1 s)
 (some ((γ [bv true,iv t8],[])))
 (AJ D (ι 88 0) [Ξ t0,sv t1,iv t7,iv (A.add φ t8 1)] [] λr o=>
 AG 0 [] (AH.mk [] 0 none) [] r o))
 (some ((γ [iv 0],[]))):=by kernel_rfl
end
section
variable {D:Orc}
structure NameF (D:Orc):Prop where
 name:∀ s:List UInt8,s.length<4611686018427387904->D.ask (.fn 109) [sv (Ag s)] []=some (bv (CA s),[])
def Dr:Option Nat->Int
 |some j=>j
 |none=>-1
def Ek(i:Nat):Option Nat->AV
 |some j=>.tup [bv true,iv ((i+j:Nat):Int)]
 |none=>.tup [iv 0]
end
section
open Go.RowKit
def Zq:MFn:=Bj [⟨19,(mB 35),[],[],[(0,((mB 16),([],[]))),(1,([],([],[])))]⟩] 121
def US:Hnt:=⟨[],[(0,[(0,([.int .i64],[])),(1,([],[]))])],[(14,[.str]),(15,[.str])]⟩
def Am1:MFn:=Bj [] 237
def AlI:Hnt:=⟨[],[],[]⟩
variable (A:Ar) (D:Orc)
theorem AsL(x0:Rw)(x1:ByteArray):Bp A D Ak US .n 121 Zq [Ξ x0,sv x1] [] =
 Ah D (ι 121 0) [Ξ x0,sv x1,iv 0] [] [.t,.C,.x,.X,.Y] λc l o=>
 br (AT 0 c)
 (dk [.I,.N,.E] [.l l,.o o] λn=>
 some ((iv n,[])))
 (br (AT 1 c)
 (EB l<|
 CB o<|
 some ((iv (-1),[])))
 (none)):=by kernel_rfl
theorem AdE(t0:Rw)(t1:ByteArray)(t5:Int):CT A D Ak US .n 121 0 (AI Zq 0).fst (AI Zq 0).snd [Ξ t0,sv t1,iv t5] [] =
 br (A.lt t5 ↑(AP t0))
 (unI t5 λi=>
 A4 t0 i λcs=>
 dk [.S,.N] [.l cs] λs=>
 br (A.seq s t1)
 (some ((γ [bv true,iv t5],[])))
 (AJ D (ι 121 0) [Ξ t0,sv t1,iv (A.add φ t5 1)] [] λr o=>
 AG 0 [] (AH.mk [] 0 none) [] r o))
 (some ((γ [iv 0],[]))):=by kernel_rfl
theorem AtT(x0:Int):Bp A D Ak AlI .n 237 Am1 [iv x0] [] =
 br (A.eq x0 0)
 (some ((sv (Ag [61]),[])))
 (br (A.eq x0 1)
 (some ((sv (Ag [33,61]),[])))
 (br (A.eq x0 2)
 (some ((sv (Ag [60]),[])))
 (br (A.eq x0 3)
 (some ((sv (Ag [60,61]),[])))
 (br (A.eq x0 4)
 (some ((sv (Ag [62]),[])))
 (some ((sv (Ag [62,61]),[]))))))):=by kernel_rfl
end
section
variable {D:Orc}
structure RNameF (D:Orc):Prop where
 name:∀ s:List UInt8,s.length<4611686018427387904->D.ask (.fn 77) [sv (Ag s)] []=some (bv (CA s),[])
end

section
open Go.RowKit
variable (A:Ar) (D:Orc)
end
section
variable {D:Orc}
def eOp(s:List UInt8):Ab:=[sv (Ag s)]
theorem Uv(K:Knows Ak Qq D):D.ask (.fn 90) [] []=some (.ls (M4.map eOp),[]):=
 K.fn' AqW _ rfl ((e90 ..).trans rfl)
end
set_option linter.unusedSectionVars false
section
variable {D:Orc}
def tz:ABlk:=ABlk.mk [.ls [],iv 0,.ls [],bv false] true false
end



section
open Go.RowKit
def AiK:MFn:=Bj [⟨31,(mB 102),[],[2],[(1,((mB 32),([],[2])))]⟩] 21
def Abd:Hnt:=⟨[(21,(.int .i64,[]))],[(0,[(1,([.int .i64],[.del]))])],[(9,[.ls]),(21,[.ls]),(23,A8),(24,A8)]⟩
def AuB:MFn:=Bj [⟨26,(mB 35),[],[],[(0,((mB 16),([],[]))),(1,([],([],[])))]⟩] 19
def AuC:MFn:=Bj [⟨76,(mB 44),[],[2,3],[(0,((mB 16),([],[2,3]))),(1,([],([],[2,3])))]⟩] 20
def Wp:List (Nat × MFn):=[(21,AiK),(19,AuB),(20,AuC)]
variable (A:Ar) (D:Orc)
theorem e21(x0_0:Int)(x0_1 x0_2:Rw)(x0_3:Int)(x0_4 x0_5:ByteArray)(x0_6:Rw)(x1:Int):Bp A D Ak Abd .n 21 AiK [Φ [iv x0_0,Ξ x0_1,Ξ x0_2,iv x0_3,sv x0_4,sv x0_5,Ξ x0_6],iv x1] [] =
 Ah D (ι 21 0) [iv x1,ψ 0 0,iv 1,iv 0] [bk [iv x0_0,Ξ x0_1,Ξ x0_2,iv x0_3,sv x0_4,sv x0_5,Ξ x0_6]] [.t,.C,.x,.X,.Y] λc l o=>
 br (AT 1 c)
 (dk [.I,.N,.D,.E] [.l l,.o o] λn=>
 some ((iv n,[])))
 (none):=by kernel_rfl
theorem AdW(t1 b2_0:Int)(b2_1 b2_2:Rw)(b2_3:Int)(b2_4 b2_5:ByteArray)(b2_6:Rw)(t5 t6:Int):CT A D Ak Abd .n 21 0 (AI AiK 0).fst (AI AiK 0).snd [iv t1,ψ 0 0,iv t5,iv t6] [bk [iv b2_0,Ξ b2_1,Ξ b2_2,iv b2_3,sv b2_4,sv b2_5,Ξ b2_6]] =
 br (A.lt t6 ↑(AP b2_6)) (br (A.le t5 t1) (unI t6 λi=>A4 b2_6 i λcs=>dk [.I,.L,.L,.I,.S,.S,.L,.N] [.l cs] λn xs xs1 n1 s s1 xs2=>Ah D (δ 21) [Φ [iv n,Ξ xs,Ξ xs1,iv n1,sv s,sv s1,
 Ξ xs2],iv (A.sub φ t1 t5)] [] [.i,.E] λn2=>let y1:=bk [iv b2_0,Ξ b2_1,Ξ b2_2,iv b2_3,sv b2_4,sv b2_5,Ξ b2_6];AJ D (ι 21 0) [iv t1,ψ 0 0,iv (A.add φ t5 n2),iv
 (A.add φ t6 1)] [y1] λr1 o1=>AG 1 [0] (AH.mk [(0,y1)] 1 none) [0] r1 o1) (some (γ [iv 0,iv t5],[BO.del]))) (some (γ [iv 0,iv t5],[BO.del])):=by kernel_rfl
end

def Bh(m:Mo):Bool:=(decide (m.num≠Ag [])||decide (m.var≠Ag []))&&(decide (m.num=Ag [])||Dy m.num.data.toList)&&(decide (m.var=Ag [])||CA m.var.data.toList)
def Ji(ms:List Mo):Bool:=decide (0<ms.length)&&decide (ms.length<=64)&&ms.all Bh
def C9(m:Mo):List UInt8:=if m.num≠Ag []/\m.var≠Ag [] then m.num.data.toList++[42]++m.var.data.toList else m.num.data.toList++m.var.data.toList
def Nc(i:Nat)(m:Mo):List UInt8:=if m.neg then(if i=0 then [45] else [32,45,32]) else if i=0 then [] else [32,43,32]
def CF:Nat->List Mo->List UInt8
 |_,[]=>[]
 |i,m::r=>Nc i m++C9 m++CF (i+1) r
theorem Qn(m:Mo):∀(l:List Mo) (i:Nat),CF i (l++[m])=CF i l++Nc (i+l.length) m++C9 m
 |[],i=>by simp[CF]
 |x::r,i=>by
  rw[List.cons_append,CF,CF,Qn m r (i+1)];simp[AvO,show i+1+r.length=i+(r.length+1) by omega]
theorem Qo(ms:List Mo)(k:Nat)(h:k<ms.length):CF 0 (ms.take (k+1))=CF 0 (ms.take k)++Nc k ms[k]++C9 ms[k]:=by
 rw[List.take_succ_eq_append_getElem h,Qn,List.length_take,AvW,Nat.min_eq_left (by omega)]
theorem LM{l:List UInt8}(h:Dy l=true):l.length<=60:=by
 unfold Dy at h;simp only[AvF,decide_eq_true_eq]at h;exact h.1.1.2
theorem Do{l:List UInt8}(h:CA l=true):l.length<=20:=by
 unfold CA Kd at h;simp only[AvF,decide_eq_true_eq]at h;exact h.1.1.1.2
theorem PD{m:Mo}(h:Bh m=true):(C9 m).length<=81:=by
 unfold Bh at h;simp only[AvF,AxU,decide_eq_true_eq]at h;have h1:m.num.data.toList.length<=60:=by
  rcases h.1.2 with h|h
  .rw[h];simp[Ag]
  .exact LM h
 have h2:m.var.data.toList.length<=20:=by
  rcases h.2 with h|h
  .rw[h];simp[Ag]
  .exact Do h
 unfold C9;split<;>simp only[ζ,ε,List.length_nil]<;>omega
theorem AgQ(i:Nat)(m:Mo):(Nc i m).length<=3:=by
 unfold Nc
 repeat' split
 all_goals simp
theorem D6:∀(l:List Mo) (i:Nat),l.all Bh=true->(CF i l).length<=84*l.length
 |[],_,_=>by simp[CF]
 |m::r,i,h=>by
  rw[Axc,AvF]at h;have h1:=PD h.1;have h2:=AgQ i m;have h3:=D6 r (i+1) h.2;simp only[CF,ζ,ε];omega
def CY(ms:List Mo):List UInt8:=if Ji ms then CF 0 ms else []
theorem AaI(s:ByteArray):Ag s.data.toList=s:=by
 obtain⟨s⟩:=s;simp[Ag]
theorem DA(a b:ByteArray):a++b=Ag (a.data.toList++b.data.toList):=by
 rw[←AaI (a++b)];simp
theorem BG(l:List UInt8):(Ag l).data.toList=l:=by simp[Ag]
theorem Bc(l:List UInt8):(Ag l).size=l.length:=by simp[Ag,ByteArray.size]
theorem JL(s:ByteArray):s.size=s.data.toList.length:=by simp
def WzM(m:Mo):Prop:=m.num.size<=9223372036854775807/\m.var.size<=9223372036854775807
section
variable {D:Orc}
structure LexN (D:Orc):Prop where
 name:∀ s:ByteArray,s.size<=9223372036854775807->D.ask (.fn 109) [sv s] []=some (bv (CA s.data.toList),[])
 num:∀ s:ByteArray,s.size<=9223372036854775807->D.ask (.fn 108) [sv s] []=some (bv (Dy s.data.toList),[])
variable (K:Knows Ak Fi D)
include K
theorem TK(L:LexN D)(m:Mo)(hm:WzM m):D.ask (.fn 61) [.agg (C4 m)] []=some (bv (Bh m),[]):=by
 obtain⟨ng,nu,va⟩:=m;obtain⟨h1,h2⟩:=hm;refine Aq K AqK (e61 ..) ?_;have g1:=L.num nu h1;have g2:=L.name va h2;unfold Bh;simp only at h1 h2 ⊢;simp only[J5]
 by_cases hn:nu=Ag []<;>by_cases hv:va=Ag []<;>simp only[hn,hv,decide_true,decide_false,Ae,not_true,not_false_eq_true,ne_eq,Bool.or_self,Awb,Bool.true_and,Bool.and_self,Bool.true_or,Bool.or_true,Bool.false_or,Axa]
 .refine Aa g2 ?_
  simp only[Ae]
  cases CA va.data.toList<;>rfl
 .refine Aa g1 ?_
  simp only[Ae]
  cases Dy nu.data.toList<;>rfl
 .refine Aa g1 ?_
  simp only[Ae]
  cases Dy nu.data.toList with
  |false=>rfl
  |true=>
   simp only[Ae];refine Aa g2 ?_;simp only[Ae]
   cases CA va.data.toList<;>rfl
theorem Apk(L:LexN D)(m:Mo)(hm:WzM m):D.ask (.fn 60) [.agg (C4 m)] []=some (bv (!Bh m),[]):=by
 have g:=TK K L m hm;obtain⟨ng,nu,va⟩:=m;refine Aq K AqJ (e60 ..) ?_;refine Aa g ?_;simp only[Ae]
 cases Bh ⟨ng,nu,va⟩<;>rfl
theorem Aoe(L:LexN D)(ms:List Mo)(hm:∀ m∈ms,WzM m)(hl:ms.length<4611686018427387904):∀(k i:Nat),ms.length-i=k->D.ask (.lp 107 0) [.ls (ms.map C4),.fn (.func 60) [] [],iv (ms.length:Int),iv (i:Int)] []=some (Ek i ((ms.drop i).findIdx? λm=>!Bh m),[]):=by
 intro k
 induction k with
 |zero=>
  intro i hi;refine Ax K UR (AdD ..) ?_;have:ms.drop i=[]:=List.drop_eq_nil_of_le (by omega);simp only[V2,this,EV];rw[Ad (by simp;omega)];rfl
 |succ k ih=>
  intro i hi;have hlt:i<ms.length:=by omega
  refine Ax K UR (AdD ..) ?_;have e1:ms.drop i=ms[i]::ms.drop (i+1):=ω hlt;have ih':=ih (i+1) (by omega);have g:=Apk K L ms[i] (hm _ (AvN hlt));refine Ao ?_;rw[AA,Az (Ω hlt),e1,List.findIdx?_cons];revert g;generalize ms[i]=m;obtain⟨ng,nu,va⟩:=m;intro g;simp only[C4,Ae];refine Aa g ?_;simp only[Ae]
  cases Bh ⟨ng,nu,va⟩ with
  |false=>
   simp only[Bool.not_false,if_true];rfl
  |true=>
   simp only[Bool.not_true,Bool.false_eq_true,if_false,Bn (show i<4611686018427387904 by omega)];refine Bm ?_;refine Aa ih' ?_
   cases (ms.drop (i+1)).findIdx? λm=>!Bh m with
   |none=>rfl
   |some j=>
    simp only[Ek,Option.map_some,show i+(j+1)=i+1+j by omega];rfl
theorem Aof(L:LexN D)(ms:List Mo)(hm:∀ m∈ms,WzM m)(hl:ms.length<4611686018427387904):D.ask (.fn 107) [.ls (ms.map C4),.fn (.func 60) [] []] []=some (iv (Dr (ms.findIdx? λm=>!Bh m)),[]):=by
 refine Aq K UR (AsB ..) ?_;rw[Aj];refine Aa (Aoe K L ms hm hl _ 0 rfl) ?_;rw[List.drop_zero]
 cases ms.findIdx? λm=>!Bh m with
 |none=>rfl
 |some j=>simp only[Ek,Ae,AvW];rfl
omit K in
theorem Yh(ms:List Mo):decide (0<=Dr (ms.findIdx? λm=>!Bh m)) = !ms.all Bh:=by
 cases e:ms.findIdx? λm=>!Bh m with
 |none=>
  have h:=List.findIdx?_eq_none_iff.1 e;have:ms.all Bh=true:=AvJ.2 λx hx=>by simpa using h x hx
  simp[Dr,this]
 |some j=>
  obtain⟨h,h2,_⟩:=List.findIdx?_eq_some_iff_getElem.1 e;have:ms.all Bh=false:=by
   rw[Bool.eq_false_iff];intro ha;have:=AvJ.1 ha _ (AvN h);rw[this]at h2
   cases h2
  simp[Dr,this]
theorem GC(L:LexN D)(ms:List Mo)(hm:∀ m∈ms,WzM m)(hl:ms.length<4611686018427387904):D.ask (.fn 23) [.ls (ms.map C4)] []=some (bv (Ji ms),[]):=by
 refine Aq K Aqv (e23 ..) ?_;rw[Aj];unfold Ji
 by_cases h0:0<ms.length
 .refine Ao ?_
  by_cases h1:ms.length<=64
  .rw[Tz,Ba (show (ms.length:Int)<=64 by omega),Ba h0,Ba h1]
   refine Af ?_;have g:D.ask (.fn 59) [.ls (ms.map C4),.fn (.func 60) [] []] []=some (bv (!ms.all Bh),[]):=by
    refine Aq K AqI (e59 ..) ?_;refine Aa (Aof K L ms hm hl) ?_;simp only[Ae,Tz,Yh]
    cases ms.all Bh<;>rfl
   refine Aa g ?_;simp only[Ae]
   cases ms.all Bh<;>rfl
  .rw[Tz,Bu (show ¬ (ms.length:Int)<=64 by omega),Bu h1,Bool.and_false,Awb]
   rfl
 .refine Am ?_
  rw[Bu h0,Awb,Awb]
theorem VE(m:Mo)(h:Bh m=true):D.ask (.fn 57) [.agg (C4 m)] []=some (sv (Ag (C9 m)),[]):=by
 obtain⟨ng,nu,va⟩:=m;refine Aq K AqH (e57 ..) ?_;unfold Bh at h;simp only[AvF,AxU,decide_eq_true_eq]at h;have h1:nu.size<=60:=by
  rw[JL];rcases h.1.2 with h|h
  .rw[h];simp[Ag]
  .exact LM h
 have h2:va.size<=20:=by
  rw[JL];rcases h.2 with h|h
  .rw[h];simp[Ag]
  .exact Do h
 have s1:(Ag [42]).size=1:=rfl;unfold C9;simp only[J5,BE,F5]
 by_cases hn:nu=Ag []
 .simp only[hn,decide_true,Ae,ne_eq,not_true,false_and,if_false]
  refine(BL (by rw[←hn];omega) _ _).trans ?_;rw[DA]
 .simp only[hn,decide_false,Ae,ne_eq,not_false_eq_true,true_and]
  by_cases hv:va=Ag []
  .simp only[hv,decide_true,Ae,not_true,if_false]
   refine(BL (by rw[←hv];omega) _ _).trans ?_;rw[DA]
  .simp only[hv,decide_false,Ae,not_false_eq_true,if_true]
   have s2:(nu++Ag [42]).size=nu.size+1:=by simp[s1]
   refine(BL (by rw[s1];omega) _ _).trans ?_;refine(BL (by rw[s2];omega) _ _).trans ?_;rw[DA (nu++Ag [42]),DA nu,BG,BG]
end
end
end Go.Proofs.YtlmhajfbpplpoaaGreat
