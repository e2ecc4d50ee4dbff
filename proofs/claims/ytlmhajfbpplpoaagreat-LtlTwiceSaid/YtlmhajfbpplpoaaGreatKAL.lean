/- The same run with what c -/
import Derived.Test.YtlmhajfbpplpoaaGreatKAK
import Derived.ProofKit
import Derived.Test.YtlmhajfbpplpoaaGreatChecked
set_option linter.all false
open Bool renaming and_eq_true->η,and_true->Ayl,false_and->Aw3,false_eq_true->Awx,or_eq_true->AxM
open List renaming all_cons->Axn,all_eq_true->Awu,append_assoc->Awr,append_nil->AwV,drop->Awv,drop_eq_getElem_cons->χ,drop_eq_nil_of_le->υ,drop_zero->κ,findIdx?_cons->AyT,findIdx?_eq_none_iff->Ay2,findIdx?_eq_some_iff_getElem->AwZ,flatten_cons->Axi,getElem?_eq_getElem->Ψ,getElem?_eq_none->Axj,getElem_mem->Awy,getLast?_eq_some_getLast->AyM,length_append->ζ,length_cons->π,length_map->Aw0,map_cons->AwP,mem_cons->Awt,nil_append->AwC,take->Aws,take_of_length_le->Axy
open Nat renaming beq->AwO,ble->Aww,blt->Axu,eq_of_beq_eq_true->AwH,le_refl->ω,le_succ->AyP,lt_of_lt_of_le->Axs,lt_succ_self->Awz,min->Axm,zero_add->AwJ,zero_le->Axb
open Option renaming isNone_iff_eq_none->Az1,map_some->AwE
namespace Go.Proofs.YtlmhajfbpplpoaaGreat
noncomputable section
open ABlk renaming mk->θ
open AV renaming agg->Φ,fn->AwG,ls->Ξ,ptr->ψ,sl->ο,tup->γ
open BO renaming set->Awp
open IntKind renaming i64->φ
open Key renaming fn->Ω,lp->Awq
open Option.some renaming injEq->δ
open Tryz renaming prog->ε
section
open Go.RowKit
abbrev KR:=Option (AV × List BO)
inductive Sh where
 |int (k:IntKind)
 |bool
 |str
 |ls
 |lp (l:List Sh)
 |agg (l:List Sh)
 |tup (l:List Sh)
 |sl (b e:Nat)
 |slo (b e:Nat)
 |ptr (b o:Nat)
 |cst (v:Value)
 |fnc (f:Nat)
 |any
inductive Os where
 |keep
 |del
 |row (st:Bool)
 |box (l:List Sh)
def br(b:Bool)(x y:KR):KR:=match b with
 |true=>x
 |false=>y
def unI(n:Int)(k:Nat->KR):KR:=match n with
 |.ofNat i=>k i
 |.negSucc _=>none
def Bt(xs:List Ad)(i:Nat)(k:Ad->KR):KR:=match Xi xs i with
 |some cs=>k cs
 |none=>none
def I5(cells:Ad)(o n:Nat)(k:Ad->KR):KR:=match Aww (o+n) cells.length with
 |true=>k ((cells.drop o).take n)
 |false=>none
def AN(D:Orc)(key:Key)(args:Ad)(bs:List ABlk)(k:AV->List BO->KR):KR:=match D.ask key args bs with
 |some r=>k r.1 r.2
 |none=>none
def KD(kd:IntKind)(x:AV)(k:Int->KR):KR:=match x with
 |.v (.int k' n)=>if k'=kd then k n else none
 |_=>none
def Hz(x:AV)(k:Bool->KR):KR:=match x with
 |.v (.bool b)=>k b
 |_=>none
def RJ(x:AV)(k:ByteArray->KR):KR:=match x with
 |.v (.string s)=>k s
 |_=>none
def NA(x:AV)(k:List Ad->KR):KR:=match x with
 |.ls xs=>k xs
 |_=>none
def Atc(x:AV)(k0:KR)(k:Ad->KR):KR:=match x with
 |.v (.pointer none)=>k0
 |.lp cs=>k cs
 |_=>none
def KC(x:AV)(k:Ad->KR):KR:=match x with
 |.agg cs=>k cs
 |_=>none
def Jr(x:AV)(k:Ad->KR):KR:=match x with
 |.tup cs=>k cs
 |_=>none
def Aaa(b e:Nat)(x:AV)(k:Nat->KR):KR:=match x with
 |.sl b' 0 n e'=>(match AwO b b',AwO e e' with
  |true,true=>k n
  |_,_=>none)
 |_=>none
def AoJ(b e:Nat)(x:AV)(k:Nat->Nat->KR):KR:=match x with
 |.sl b' o n e'=>(match AwO b b',AwO e e' with
  |true,true=>k o n
  |_,_=>none)
 |_=>none
def NB(b o:Nat)(x:AV)(k:KR):KR:=match x with
 |.ptr b' o'=>(match AwO b b',AwO o o' with
  |true,true=>k
  |_,_=>none)
 |_=>none
def Ad3(f:Nat)(x:AV)(k:KR):KR:=match x with
 |.fn (.func g) [] []=>(match AwO f g with
  |true=>k
  |false=>none)
 |_=>none
def Ane:Value->Value->Bool
 |.slice none 0 0,.slice none 0 0=>true
 |.pointer none,.pointer none=>true
 |_,_=>false
def XV(v:Value)(x:AV)(k:KR):KR:=match x with
 |.v u=>(match Ane v u with
  |true=>k
  |false=>none)
 |_=>none
def Dp(cs:Ad)(k:KR):KR:=match cs with
 |[]=>k
 |_::_=>none
def Ey(cs:Ad)(k:AV->Ad->KR):KR:=match cs with
 |[]=>none
 |c::r=>k c r
def FU(kd:IntKind)(cs:Ad)(k:Int->Ad->KR):KR:=match cs with
 |.v (.int k' n)::r=>if k'=kd then k n r else none
 |_=>none
def JE(cs:Ad)(k:Bool->Ad->KR):KR:=match cs with
 |.v (.bool b)::r=>k b r
 |_=>none
def Pd(cs:Ad)(k:ByteArray->Ad->KR):KR:=match cs with
 |.v (.string s)::r=>k s r
 |_=>none
def Pc(cs:Ad)(k:List Ad->Ad->KR):KR:=match cs with
 |.ls xs::r=>k xs r
 |_=>none
def El(o:List BO)(k:BO->List BO->KR):KR:=match o with
 |[]=>none
 |c::r=>k c r
def CG(o:List BO)(k:KR):KR:=match o with
 |[]=>k
 |_::_=>none
def Oq(o:BO)(k:KR):KR:=match o with
 |.keep=>k
 |_=>none
def TK(o:BO)(k:KR):KR:=match o with
 |.del=>k
 |_=>none
def E7(st ex:Bool)(o:BO)(k:Ad->KR):KR:=match o with
 |.set ⟨cs,st',ex'⟩=>if st'=st/\ex'=ex then k cs else none
 |_=>none
def Bf(k:Nat)(x:AV):Bool:=match k,x with
 |0,.v (.bool true)=>true
 |i+1,.v (.int .i64 (.ofNat j))=>AwO i j
 |_,_=>false
mutual
def D1:Sh->AV->(AV->KR)->KR
 |.int kd,x,K=>KD kd x λn=>K (.v (.int kd n))
 |.bool,x,K=>Hz x λb=>K (.v (.bool b))
 |.str,x,K=>RJ x λs=>K (.v (.string s))
 |.ls,x,K=>NA x λxs=>K (.ls xs)
 |.lp l,x,K=>Atc x (K (.v (.pointer none))) λcs=>CT l cs λcs=>K (.lp cs)
 |.agg l,x,K=>KC x λcs=>CT l cs λcs=>K (.agg cs)
 |.tup l,x,K=>Jr x λcs=>CT l cs λcs=>K (.tup cs)
 |.sl b e,x,K=>Aaa b e x λn=>K (.sl b 0 n e)
 |.slo b e,x,K=>AoJ b e x λo n=>K (.sl b o n e)
 |.ptr b o,x,K=>NB b o x (K (.ptr b o))
 |.cst v,x,K=>XV v x (K (.v v))
 |.fnc f,x,K=>Ad3 f x (K (.fn (.func f) [] []))
 |.any,x,K=>K x
def CT:List Sh->Ad->(Ad->KR)->KR
 |[],cs,K=>Dp cs (K [])
 |.int kd::l,cs,K=>FU kd cs λn r=>CT l r λr=>K (.v (.int kd n)::r)
 |.bool::l,cs,K=>JE cs λn r=>CT l r λr=>K (.v (.bool n)::r)
 |.str::l,cs,K=>Pd cs λn r=>CT l r λr=>K (.v (.string n)::r)
 |.ls::l,cs,K=>Pc cs λn r=>CT l r λr=>K (.ls n::r)
 |s::l,cs,K=>Ey cs λc r=>D1 s c λc=>CT l r λr=>K (c::r)
end
def G5:List Os->List BO->(List BO->KR)->KR
 |[],o,K=>CG o (K [])
 |s::l,o,K=>El o λc r=>(match s with
  |.keep=>Oq c (G5 l r λr=>K (.keep::r))
  |.del=>TK c (G5 l r λr=>K (.del::r))
  |.row st=>E7 st true c λcs=>G5 l r λr=>K (.set ⟨cs,st,true⟩::r)
  |.box m=>E7 true false c λcs=>CT m cs λcs=>G5 l r λr=>K (.set ⟨cs,true,false⟩::r))
inductive Sc where
 |n
 |b (x y:Sc)
 |t (x:Sc)
 |f (x:Sc)
def brS(s:Sc)(c:Bool)(x y:Sc->KR):KR:=match s with
 |.n=>br c (x .n) (y .n)
 |.b p q=>br c (x p) (y q)
 |.t p=>br c (x p) none
 |.f p=>br c none (y p)
def KM(α:Type):=AH->Sc->(α->AH->Foot->Sc->KR)->KR
namespace KM
variable {α β:Type}
def ret(a:α):KM α:=λH s k=>k a H ⟨[],[]⟩ s
def fail:KM α:=λ_ _ _=>none
def bind(m:KM α)(f:α->KM β):KM β:=λH s k=>m H s λa H1 f1 s=>f a H1 s λb H2 f2 s=>k b H2 ⟨f1.rd++f2.rd,f1.wr++f2.wr⟩ s
def gen(m:AM α):KM α:=λH s k=>match m H with
 |some (a,H',f)=>k a H' f s
 |none=>none
def opt:Option α->KM α
 |some a=>ret a
 |none=>fail
def brk(b:Bool)(x y:KM α):KM α:=λH s k=>brS s b (λs=>x H s k) (λs=>y H s k)
def test(b:Bool)(x:KM α):KM α:=λH s k=>br b (x H s k) none
def unI(n:Int)(f:Nat->KM α):KM α:=λH s k=>Go.Proofs.YtlmhajfbpplpoaaGreat.unI n λi=>f i H s k
def nth(xs:List Ad)(i:Nat)(f:Ad->KM α):KM α:=λH s k=>Bt xs i λcs=>f cs H s k
def rd(cells:Ad)(o n:Nat):KM Ad:=λH s k=>I5 cells o n λcs=>k cs H ⟨[],[]⟩ s
def exp(t:Sh)(x:AV):KM AV:=λH s k=>D1 t x λy=>k y H ⟨[],[]⟩ s
def expL(l:List Sh)(x:Ad):KM Ad:=λH s k=>CT l x λy=>k y H ⟨[],[]⟩ s
def expO(l:List Os)(x:List BO):KM (List BO):=λH s k=>G5 l x λy=>k y H ⟨[],[]⟩ s
def ask(D:Orc)(key:Key)(args:Ad)(bs:List ABlk):KM (AV × List BO):=λH s k=>AN D key args bs λr o=>k (r,o) H ⟨[],[]⟩ s
def idx(x:AV)(f:Nat->KM α):KM α:=match x with
 |.v (.int _ n)=>unI n f
 |_=>fail
def idxO(n:Nat)(x:Option AV)(f:Nat->KM α):KM α:=match x with
 |some x=>idx x f
 |none=>f n
end KM
def Bh(n bytes:Nat):Bool:=match Aww (n*bytes) 140737488355328 with
 |true=>Aww n maxLen
 |false=>false
def Lr(l h n:Nat):Bool:=match Aww l h with
 |true=>Aww h n
 |false=>false
structure Hnt where
 fn:List (Nat × (Sh × List Os))
 lp:List (Nat × List (Nat × (List Sh × List Os)))
 tm:List (Nat × List Sh)
def BY{α:Type}(n:Nat):List (Nat × α)->Option α
 |[]=>none
 |(m,a)::r=>match AwO n m with
  |true=>some a
  |false=>BY n r
section
variable (A:Ar) (D:Orc) (own:List (Nat × Nat)) (Hn:Hnt)
def tmK(d:Option Nat)(cs:Ad):KM Ad:=match d with
 |some d=>(match BY d Hn.tm with
  |some l=>KM.expL l cs
  |none=>KM.ret cs)
 |none=>KM.ret cs
def Abx(d:Option Nat)(a:AV)(n:Nat):KM Ad:=match a with
 |.ptr b o=>(KM.gen (AM.getB b)).bind λk=>(KM.rd k.cells o n).bind λcs=>match k.ex with
  |true=>tmK Hn d cs
  |false=>KM.ret cs
 |a=>KM.gen (rdAt a n)
def AgJ(d:Option Nat)(row:Bool)(n:Nat)(a:AV):KM AV:=match row with
 |true=>(Abx Hn d a n).bind λcs=>KM.ret (.agg cs)
 |false=>(Abx Hn d a 1).bind λcs=>KM.opt (ZI cs)
def Z2(n:Nat)(a x:AV):KM AV:=match a with
 |.ptr b o=>
  if x.cells.length=n/\x.cells.all AV.one=true then
   (KM.gen (AM.getB b)).bind λk=>if k.st=true/\(!k.ex||A4 x.cells)=true then KM.test (Aww (o+n) k.cells.length) ((KM.gen (AM.setB b { k with cells:=Bq k.cells o x.cells })).bind λ_=>KM.ret AV.undef) else KM.fail
  else KM.fail
 |_=>KM.fail
def Y7(d:Option Nat)(e:Nat)(x ix:AV):KM AV:=KM.idx ix λi=>match x with
 |.sl b o n e'=>KM.test (Axu i n) (if e'=e then KM.ret (.ptr b (o+i*e)) else KM.fail)
 |.ls xs=>KM.nth xs i λcs=>(tmK Hn d cs).bind λcs=>(match AwO cs.length e with
  |true=>KM.ret (.lp cs)
  |false=>KM.fail)
 |_=>KM.fail
def Yf(n e:Nat)(x ix:AV):KM AV:=KM.idx ix λi=>KM.test (Axu i n) (KM.opt (QU x (i*e)))
def Y9(d:Option Nat)(n e:Nat)(row:Bool)(sz:Nat)(x ix:AV):KM AV:=KM.idx ix λi=>match x with
 |.agg cs=>KM.test (Axu i n) ((KM.rd cs (i*e) (match row with
  |true=>sz
  |false=>1)).bind λxs=>(match row with
  |true=>KM.ret (.agg xs)
  |false=>KM.opt (ZI xs)))
 |_=>KM.fail
def ZY(e:Nat)(x:AV)(lo hi:Option AV):KM AV:=match x with
 |.sl b o n e'=>KM.idxO 0 lo λl=>KM.idxO n hi λh=>KM.test (Lr l h n) (match AwO e' e with
  |true=>KM.ret (.sl b (o+l*e) (h-l) e)
  |false=>KM.fail)
 |.ls xs=>KM.idxO 0 lo λl=>KM.idxO (AU xs) hi λh=>KM.test (Lr l h (AU xs)) (KM.test (Hk e xs) (KM.ret (.ls (JJ (Kz xs h) l))))
 |_=>KM.fail
def Ao5(b:BinOp)(x y:AV):KM AV:=match x,y with
 |.v (.int k a),.v (.int k' c)=>(match b with
  |.shl=>KM.brk (A.lt c 0) KM.fail (KM.ret (.v (.int k (A.shl k a c))))
  |.shr=>KM.brk (A.lt c 0) KM.fail (KM.ret (.v (.int k (A.shr k a c))))
  |.quo=>if k=k' then KM.brk (A.eq c 0) KM.fail (KM.ret (.v (.int k (A.quo k a c)))) else KM.fail
  |.rem=>if k=k' then KM.brk (A.eq c 0) KM.fail (KM.ret (.v (.int k (A.rem k a c)))) else KM.fail
  |.neq=>if k=k' then KM.brk (A.eq a c) (KM.ret (.v (.bool false))) (KM.ret (.v (.bool true))) else KM.fail
  |b=>KM.opt (ME A b (.v (.int k a)) (.v (.int k' c))))
 |.v (.string a),.v (.string c)=>(match b with
  |.add=>KM.test (Aww (A.slen a+A.slen c) 9223372036854775807) (KM.ret (.v (.string (A.cat a c))))
  |.neq=>KM.brk (A.seq a c) (KM.ret (.v (.bool false))) (KM.ret (.v (.bool true)))
  |b=>KM.opt (ME A b (.v (.string a)) (.v (.string c))))
 |x,y=>KM.opt (ME A b x y)
def Aii(x i:AV):KM AV:=match x with
 |.v (.string s)=>KM.idx i λi=>KM.test (Axu i (A.slen s)) (KM.ret (.v (.int .u8 (A.sat s i))))
 |_=>KM.fail
def Vf(x:AV)(lo hi:Option AV):KM AV:=match x with
 |.v (.string s)=>KM.idxO 0 lo λl=>KM.idxO (A.slen s) hi λh=>KM.test (Lr l h (A.slen s)) (KM.ret (.v (.string (A.ssub s l h))))
 |_=>KM.fail
def Abi(e:Nat)(x:AV):KM (Nat × Ad):=match x with
 |.sl b o n e'=>if e'=e then(KM.gen (AM.getB b)).bind λk=>KM.test (Aww (o+n*e) k.cells.length) (match (k.ex||A4 ((k.cells.drop o).take (n*e))) with
   |true=>KM.ret (n,(k.cells.drop o).take (n*e))
   |false=>KM.fail)
   else KM.fail
 |.ls xs=>KM.test (Hk e xs) (KM.ret (AU xs,LS xs))
 |.v (.slice none 0 0)=>KM.ret (0,[])
 |_=>KM.fail
def Al0(e bytes:Nat)(s:AV)(m:Nat)(xs:Ad):KM AV:=match s with
 |.v (.slice none 0 0)=>KM.test (Bh m bytes) ((KM.gen (AM.newB ⟨xs,true,true⟩)).bind λb=>KM.ret (.sl b 0 m e))
 |.sl b o n e'=>(match AwO e' e with
  |true=>KM.test (Bh (n+m) bytes) ((KM.gen (AM.getB b)).bind λk=>match k.ex,k.st with
   |true,true=>KM.test (Aww (o+n*e) k.cells.length) ((KM.gen (AM.delB b)).bind λ_=>(KM.gen (AM.newB ⟨(k.cells.take (o+n*e)).drop o++xs,true,true⟩)).bind λb'=>KM.ret (.sl b' 0 (n+m) e))
   |true,false=>KM.test (AwO (o+n*e) k.cells.length) ((KM.gen (AM.setB b { k with ex:=false })).bind λ_=>(KM.gen (AM.newB ⟨(k.cells.take (o+n*e)).drop o++xs,false,true⟩)).bind λb'=>KM.ret (.sl b' 0 (n+m) e))
   |_,_=>KM.fail)
  |false=>KM.fail)
 |_=>KM.fail
def Aah(e bytes:Nat)(s:AV)(r:Nat × Ad):KM AV:=KM.brk (AwO r.1 0) (if R3 s=true then KM.ret s else KM.fail) (KM.test (M9 r.2) (Al0 e bytes s r.1 r.2))
def AqO(e bytes:Nat)(s x:AV):KM AV:=(Abi e x).bind λr=>Aah e bytes s r
def Aew(z:AI)(e bytes:Nat)(s x:AV):KM AV:=KM.idx x λm=>KM.test (Aww m 9223372036854775807) (Aah e bytes s (m,Cx (z.map .v) (m*e)))
def Ag3(z:AI)(e bytes:Nat)(l c:AV):KM AV:=KM.idx l λn=>KM.idx c λm=>KM.test (Aww n m) (KM.test (Bh m bytes) ((KM.gen (AM.newB ⟨Cx (z.map .v) (n*e),true,true⟩)).bind λb=>KM.ret (.sl b 0 n e)))
def Ape(e:Nat)(d x:AV):KM AV:=match d with
 |.sl b o n e'=>(match AwO e' e with
  |true=>(Abi e x).bind λr=>KM.test (M9 (r.2.take (Axm r.1 n*e))) ((KM.gen (AM.getB b)).bind λk=>match k.st with
    |true=>KM.test (Aww (o+n*e) k.cells.length) ((KM.gen (AM.setB b { k with cells:=Bq k.cells o (r.2.take (Axm r.1 n*e)) })).bind λ_=>KM.ret (.v (.int .i64 (Int.ofNat (Axm r.1 n)))))
    |false=>KM.fail)
  |false=>KM.fail)
 |_=>KM.fail
def Apc(z:AI)(e:Nat)(x:AV):KM AV:=match x with
 |.sl b o n e'=>(match AwO e' e with
  |true=>(KM.gen (AM.getB b)).bind λk=>match k.st with
   |true=>KM.test (Aww (o+n*e) k.cells.length) ((KM.gen (AM.setB b { k with cells:=Bq k.cells o (Cx (z.map .v) (n*e)) })).bind λ_=>KM.ret (.tup []))
   |false=>KM.fail
  |false=>KM.fail)
 |_=>KM.fail
mutual
def V1:Nat->AV->KM AV
 |0,x=>KM.gen (frz0 x)
 |n+1,x=>match x with
  |.v z=>KM.ret (Aha z)
  |.sl b o m e=>(KM.gen (AM.getB b)).bind λk=>KM.test (Aww (o+m*e) k.cells.length) ((match k.st with
    |true=>KM.gen (AM.setB b { k with st:=false })
    |false=>KM.ret ()).bind λ_=>match (k.ex||A4 ((k.cells.drop o).take (m*e))) with
     |true=>KM.ret (.ls (By m e ((k.cells.drop o).take (m*e))))
     |false=>(MS n ((k.cells.drop o).take (m*e))).bind λcs=>match A4 cs with
      |true=>KM.ret (.ls (By m e cs))
      |false=>KM.fail)
  |.agg cs=>(MS n cs).bind λcs=>KM.ret (.agg cs)
  |.tup cs=>(MS n cs).bind λcs=>KM.ret (.tup cs)
  |x=>KM.ret x
def MS:Nat->Ad->KM Ad
 |_,[]=>KM.ret []
 |0,_::_=>KM.fail
 |n+1,x::r=>(V1 n x).bind λx=>(MS n r).bind λr=>KM.ret (x::r)
end
def AfJ(b:Nat):KM Unit:=(KM.gen (AM.getB b)).bind λk=>match k.ex,k.st with
 |false,true=>(MS 1000 k.cells).bind λcs=>(KM.gen (AM.getB b)).bind λk2=>(match k2.ex,AwO cs.length k2.cells.length with
  |false,true=>KM.gen (AM.setB b { k2 with cells:=cs })
  |_,_=>KM.fail)
 |_,_=>KM.ret ()
def MT:Aj->Ad->KM Ad
 |[],T=>KM.ret T
 |t::r,T=>match T[t]? with
  |some (.ptr b _)=>(AfJ b).bind λ_=>MT r T
  |some x=>(V1 1000 x).bind λy=>MT r (T.set t y)
  |none=>MT r T
def SD(f:Nat):Nat->Ad->KM Ad
 |_,[]=>KM.ret []
 |i,x::r=>match Ahs own f i with
  |true=>(SD f (i+1) r).bind λr=>KM.ret (x::r)
  |false=>(V1 1000 x).bind λx=>(SD f (i+1) r).bind λr=>KM.ret (x::r)
def Ud(key:Key)(e:AV × List BO->KM (AV × List BO))(args:Ad):KM AV:=
 (KM.gen (trav 4096 (FD args) [])).bind λL=>(KM.gen (readAll L)).bind λbs=>
  ((KM.ask D key (Jw (λb=>idx b L) args) (bs.map (ABlk.ren λb=>idx b L))).bind e).bind λr=>
    match RX r.2.length r.1.ids,VF r.2.length r.2 with
    |true,true=>(KM.gen nextB).bind λn=>(KM.gen (writeAll (Jk L n) L r.2)).bind λout=>(KM.gen (newAll (Jk L n) out)).bind λ_=>KM.ret (r.1.ren (Jk L n))
    |_,_=>KM.fail
def ansF(f:Nat)(r:AV × List BO):KM (AV × List BO):=match BY f Hn.fn with
 |some (s,l)=>(KM.exp s r.1).bind λx=>(KM.expO l r.2).bind λo=>KM.ret (x,o)
 |none=>KM.ret r
def Ue(f:FuncId)(args:Ad):KM AV:=(SD own f 0 args).bind λl=>Ud D (.fn f) (ansF Hn f) l
def AeB:Nat->AV
 |0=>.v (.bool true)
 |i+1=>.v (.int .i64 (Int.ofNat i))
def ansX:List (Nat × (List Sh × List Os))->AV->Ad->List BO->KM (AV × List BO)
 |[],_,_,_=>KM.fail
 |(k,s,l)::r,x,ys,o=>KM.brk (Bf k x) ((KM.expL s ys).bind λys=>(KM.expO l o).bind λo=>KM.ret (.tup (AeB k::ys),o)) (ansX r x ys o)
def ansL(i:Nat)(r:AV × List BO):KM (AV × List BO):=match BY i Hn.lp with
 |some l=>λH s k=>Jr r.1 λcs=>Ey cs λx ys=>ansX l x ys r.2 H s k
 |none=>KM.ret r
def Zs(f i:Nat)(xs:Ad):KM (AX × Ad):=(Ud D (.lp f i) (ansL Hn i) xs).bind λr=>match r with
 |.tup (x::ys)=>(match Yk x with
  |some ax=>KM.ret (ax,ys)
  |none=>KM.fail)
 |_=>KM.fail
def opK(d:Option Nat)(o:MO)(T:Ad):KM AV:=match o with
 |.pick c a b=>(match AT T c with
  |.v (.bool t)=>KM.brk t (KM.ret (AT T a)) (KM.ret (AT T b))
  |_=>KM.fail)
 |.ld row n a=>AgJ Hn d row n (AT T a)
 |.st n a x=>Z2 n (AT T a) (AT T x)
 |.bin ek b x y=>(match ek with
  |0=>Ao5 A b (AT T x) (AT T y)
  |ek=>KM.opt (Ajq A ek b (AT T x) (AT T y)))
 |.slice e x lo hi=>ZY e (AT T x) (lo.map (AT T)) (hi.map (AT T))
 |.iaddr e x i=>Y7 Hn d e (AT T x) (AT T i)
 |.aaddr n e x i=>Yf n e (AT T x) (AT T i)
 |.index n e row sz x i=>Y9 d n e row sz (AT T x) (AT T i)
 |.mksl z e bytes l c=>Ag3 z e bytes (AT T l) (AT T c)
 |.app e bytes s x=>AqO e bytes (AT T s) (AT T x)
 |.appz z e bytes s x=>Aew z e bytes (AT T s) (AT T x)
 |.cpy e d x=>Ape e (AT T d) (AT T x)
 |.clr z e x=>Apc z e (AT T x)
 |.sidx x i=>Aii A (AT T x) (AT T i)
 |.sslice x lo hi=>Vf A (AT T x) (lo.map (AT T)) (hi.map (AT T))
 |.callF f args=>Ue D own Hn f (R6 T args)
 |.callV ents x args=>(match AT T x with
  |.fn (.func g) a cs=>(match ents.testBit g with
   |true=>Ue D own Hn g (a++R6 T args++cs)
   |false=>KM.fail)
  |_=>KM.fail)
 |o=>KM.gen (mop A (λ_ _=>AM.fail) o T)
def AeV(o:MOp)(T:Ad):KM AV:=match o.g with
 |none=>opK A D own Hn o.dst o.op T
 |some (d,want)=>(match T[d]? with
  |some (.v (.bool b))=>KM.brk (match want with
   |true=>b
   |false=>A.not b) (opK A D own Hn o.dst o.op T) (KM.ret AV.undef)
  |some (.v (.tuple _))=>KM.ret AV.undef
  |_=>KM.fail)
def Apt(v:Value)(k:Value->KR):KR:=match v with
 |.int kd n=>k (.int kd n)
 |.bool b=>k (.bool b)
 |.string s=>k (.string s)
 |.tuple t=>k (.tuple t)
 |v=>k v
theorem AjN(v:Value)(k:Value->KR):Apt v k=k v:=by
 unfold Apt;split<;>rfl
def gL(f:AV->(AV->KR)->KR)(l:Ad)(k:Ad->KR):KR:=match l with
 |[]=>k []
 |x::r=>f x λx=>gL f r λr=>k (x::r)
theorem AlZ{f:AV->(AV->KR)->KR}(hf:∀ x k,f x k=k x):∀(l:Ad) (k:Ad->KR),gL f l k=k l
 |[],_=>rfl
 |x::r,k=>by simp only[gL,hf,AlZ hf r]
def gAV(d:Nat)(x:AV)(k:AV->KR):KR:=match d with
 |0=>k x
 |d+1=>match x with
  |.v x=>Apt x λx=>k (.v x)
  |.ptr b o=>k (.ptr b o)
  |.sl b o n e=>k (.sl b o n e)
  |.ls xs=>k (.ls xs)
  |.lp cs=>gL (gAV d) cs λcs=>k (.lp cs)
  |.agg cs=>gL (gAV d) cs λcs=>k (.agg cs)
  |.tup cs=>gL (gAV d) cs λcs=>k (.tup cs)
  |.fn f a c=>gL (gAV d) a λa=>gL (gAV d) c λc=>k (.fn f a c)
  |.any=>k .any
theorem AfM:∀(d:Nat) (x:AV) (k:AV->KR),gAV d x k=k x
 |0,_,_=>rfl
 |d+1,x,k=>by cases x<;>simp only[gAV,AjN,AlZ (AfM d)]
def gB(e:Bool)(x:AV)(s:Sc)(k:AV->Sc->KR):KR:=match e,x with
 |true,.v (.bool b)=>brS s b (λs=>k (.v (.bool true)) s) (λs=>k (.v (.bool false)) s)
 |_,x=>k x s
def Apr:MO->Bool
 |.mv _=>false
 |.ld _ _ _=>false
 |.field _ _ _ _=>false
 |.ext _ _=>false
 |_=>true
def gSp{β:Type}(l:List β)(k:List β->KR):KR:=match l with
 |[]=>k []
 |x::r=>gSp r λr=>k (x::r)
theorem YZ{β:Type}:∀(l:List β) (k:List β->KR),gSp l k=k l
 |[],_=>rfl
 |x::r,k=>by simp only[gSp,YZ r]
def gBl(l:List (Nat × ABlk))(k:List (Nat × ABlk)->KR):KR:=match l with
 |[]=>k []
 |(b,⟨cs,st,ex⟩)::r=>gBl r λr=>k ((b,⟨cs,st,ex⟩)::r)
theorem AfN:∀(l:List (Nat × ABlk)) (k:List (Nat × ABlk)->KR),gBl l k=k l
 |[],_=>rfl
 |(b,⟨cs,st,ex⟩)::r,k=>by simp only[gBl,AfN r]
def gH(H:AH)(k:AH->KR):KR:=match H with
 |⟨l,n,t⟩=>gBl l λl=>k ⟨l,n,t⟩
theorem Ari(H:AH)(k:AH->KR):gH H k=k H:=by
 simp_all [gH,AfN]
def gFt(f:Foot)(k:Foot->KR):KR:=match f with
 |⟨rd,wr⟩=>gSp rd λrd=>gSp wr λwr=>k ⟨rd,wr⟩
theorem Aps(f:Foot)(k:Foot->KR):gFt f k=k f:=by
 simp_all [gFt,YZ]
def AkV:List MOp->Ad->AH->Sc->(Ad->AH->List Foot->Sc->KR)->KR
 |[],T,H,s,k=>k T H [] s
 |o::r,T,H,s,k=>AeV A D own Hn o T H s λv H f s=>gAV 3 v λv=>gB (Apr o.op) v s λv s=>gSp (CH T o.dst v) λT=>gFt f λf=>gH H λH=>AkV r T H s λT H fs s=>k T H (f::fs) s
def Aqa(ops:List MOp)(bf:Option (Aj))(T:Ad):KM (AX × Ad):=λH s k=>AkV A D own Hn ops T H s λT H fs s=>match bf with
 |none=>k (.normal,T) H ⟨fs.flatMap (·.rd),fs.flatMap (·.wr)⟩ s
 |some bf=>(match FV bf fs with
  |true=>k (.normal,T) H ⟨fs.flatMap (·.rd),fs.flatMap (·.wr)⟩ s
  |false=>none)
def evK(f:Nat):MC->Ad->KM (AX × Ad)
 |.skip,T=>KM.ret (.normal,T)
 |.reg ops bf,T=>Aqa A D own Hn ops bf T
 |.seq a b,T=>(evK f a T).bind λr=>match r.1 with
  |.normal=>evK f b r.2
  |ax=>KM.ret (ax,r.2)
 |.cond c a b,T=>(match AT T c with
  |.v (.bool t)=>KM.brk t (evK f a T) (evK f b T)
  |_=>KM.fail)
 |.block id c,T=>(evK f c T).bind λr=>match r.1 with
  |.exit i=>if i=id then KM.ret (.normal,r.2) else KM.ret (.exit i,r.2)
  |ax=>KM.ret (ax,r.2)
 |.loop i h,T=>(KM.gen (adoptM h.ad T)).bind λT=>(MT h.fz T).bind λT=>match AwO T.length h.n with
  |true=>(Zs D Hn f i (CS h.live T)).bind λr=>KM.ret (r.1,Cj (h.out r.1) h.n r.2)
  |false=>KM.fail
 |.exit id,T=>KM.ret (.exit id,T)
 |.ret,T=>KM.ret (.ret,T)
 |.bad,_=>KM.fail
def AhO(T:Ad):List MRes->KM Ad
 |[]=>KM.ret []
 |.tmp t::r=>(AhO T r).bind λl=>KM.ret ((T[t]?).getD AV.undef::l)
 |.cell x row n::r=>(AgJ Hn none row n ((T[x]?).getD AV.undef)).bind λv=>(AhO T r).bind λl=>KM.ret (v::l)
def Qq(n:Nat)(r:AV)(H:AH)(ft:Foot):KR:=
 match (EQ 0 n).map (ZK H ft.wr)++(EQ n (H.next-n)).map (Aky H) with
 |out=>(match Hs n out 4096 (r.ids++Y8 (LF out n)) []with
  |none=>none
  |some acc=>some (r.ren (gcN n acc),AhM (gcN n acc) (LF out n)++Xq (gcN n acc) out acc))
def Bp(s:Sc)(f:Nat)(mf:MFn)(args:Ad)(bs:List ABlk):KR:=((evK A D own Hn f mf.body (Uv mf.nt args)).bind λr=>match r.1 with
 |.exit _=>KM.fail
 |.goto _=>KM.fail
 |_=>(AhO Hn r.2 mf.res).bind λl=>(match mf.own with
  |true=>KM.ret (Ll l)
  |false=>V1 1000 (Ll l)).bind λv=>match mf.tch with
   |true=>(KM.gen (touchI (FD args))).bind λ_=>KM.ret v
   |false=>KM.ret v) ⟨DV 0 bs,bs.length,none⟩ s λv H ft _=>Qq bs.length v H ft
def Ahg(n:Nat):Aj->Aj
 |[]=>[]
 |x::r=>match Axu x n,GW x r with
  |true,false=>x::Ahg n r
  |_,_=>Ahg n r
def AO(n:Nat)(L:Aj)(H:AH)(wr:Aj)(r:AV)(o:List BO):KR:=match RX o.length r.ids,VF o.length o with
 |true,true=>(match (nextB.bind λn=>(writeAll (Jk L n) L o).bind λout=>(newAll (Jk L n) out).bind λ_=>AM.ret (r.ren (Jk L n))) H with
  |some (.tup (x::ys),H',f)=>(match Yk x with
   |some ax=>Qq n (.tup (axA ax::ys)) H' ⟨[],wr++f.wr⟩
   |none=>none)
  |_=>none)
 |_,_=>none
def Ap9(f i:Nat)(xs:Ad)(H:AH)(ft:Foot)(n:Nat):KR:=match trav 4096 (FD xs) [] H with
 |some (L,_,f1)=>(match readAll L H with
  |some (bs,_,f2)=>AN D (.lp f i) (Jw (λb=>idx b L) xs) (bs.map (ABlk.ren λb=>idx b L)) λr o=>AO n L H (Ahg n (ft.wr++(f1.wr++f2.wr))) r o
  |none=>none)
 |none=>none
def DI(s:Sc)(f i:Nat)(h:LpH)(c:MC)(xs:Ad)(bs:List ABlk):KR:=evK A D own Hn f c (Cj h.live h.n xs) ⟨DV 0 bs,bs.length,none⟩ s λr H ft s=>match r.1 with
 |.normal=>MT h.fz r.2 H s λT H g _=>Ap9 D f i (CS h.live T) H ⟨ft.rd++g.rd,ft.wr++g.wr⟩ bs.length
 |.goto _=>none
 |ax=>((MT (h.fzo ax) r.2).bind λT=>(KM.gen (delT (h.dlo ax) T)).bind λ_=>(KM.gen (touchA (h.nt ax) (CS (h.out ax) T))).bind λys=>KM.ret (.tup (axA ax::ys))) H s λv H f _=>Qq bs.length v H ⟨ft.rd++f.rd,ft.wr++f.wr⟩
end
end
section
open Go.RowKit
def SK{α:Type}(m:AM α)(mK:KM α):Prop:=∀ H s k r,mK H s k=some r->∃ a H' f s',m H=some (a,H',f)/\k a H' f s'=some r
section
variable {α β:Type}
theorem SK.ret(a:α):SK (AM.ret a) (KM.ret a):=λH s k r h=>⟨a,H,⟨[],[]⟩,s,rfl,h⟩
theorem SK.fail(m:AM α):SK m (KM.fail):=λH s k r h=>by cases h
theorem SK.gen(m:AM α):SK m (KM.gen m):=λH s k r h=>by
 grind [KM.gen]
theorem SK.opt:∀ o:Option α,SK (AM.opt o) (KM.opt o)
 |some a=>SK.ret a
 |none=>SK.fail _
theorem SK.bind{m:AM α}{mK:KM α}{f:α->AM β}{fK:α->KM β}(hm:SK m mK)(hf:∀ a,SK (f a) (fK a)):SK (m.bind f) (mK.bind fK):=λH s k r h=>by
 obtain⟨a,H1,f1,s1,h1,h2⟩:=hm H s _ r h;obtain⟨b,H2,f2,s2,h3,h4⟩:=hf a H1 s1 _ r h2;refine⟨b,H2,_,s2,?_,h4⟩;unfold AM.bind;simp only[h1,h3]
theorem MG{b:Bool}{x y:KR}{r:AV × List BO}(h:br b x y=some r):(b=true/\x=some r)\/(b=false/\y=some r):=by
 cases b
 .exact .inr ⟨rfl,h⟩
 .exact .inl ⟨rfl,h⟩
theorem VG{s:Sc}{c:Bool}{x y:Sc->KR}{r:AV × List BO}(h:brS s c x y=some r):∃ s',(c=true/\x s'=some r)\/(c=false/\y s'=some r):=by
 unfold brS at h;split at h
 .grind [MG]
 .grind [MG]
 .grind [MG]
 .grind [MG]
theorem SK.brk{b:Bool}{m:AM α}{x y:KM α}(hx:b=true->SK m x)(hy:b=false->SK m y):SK m (KM.brk b x y):=λH s k r h=>by
 obtain⟨s',⟨e,h⟩|⟨e,h⟩⟩:=VG h
 .exact hx e H s' k r h
 .exact hy e H s' k r h
theorem SK.test{b:Bool}{m:AM α}{x:KM α}(hx:b=true->SK m x):SK m (KM.test b x):=λH s k r h=>by
 rcases MG h with⟨e,h⟩|⟨e,h⟩
 .exact hx e H s k r h
 .cases h
theorem SK.unI{n:Int}{m:AM α}{f:Nat->KM α}(hf:∀ i,n=.ofNat i->SK m (f i)):SK m (KM.unI n f):=λH s k r h=>by
 unfold KM.unI Go.Proofs.YtlmhajfbpplpoaaGreat.unI at h
 cases n with
 |ofNat i=>exact hf i rfl H s k r h
 |negSucc i=>cases h
theorem SK.idx{x:AV}{m:AM α}{f:Nat->KM α}(hf:∀ i,x.idx=some i->SK m (f i)):SK m (KM.idx x f):=by
 unfold KM.idx;split
 .exact SK.unI λi e=>hf i (by rw[e];rfl)
 .exact SK.fail _
theorem SK.idxO{n:Nat}{x:Option AV}{m:AM α}{f:Nat->KM α}(hf:∀ i,Pm n x=some i->SK m (f i)):SK m (KM.idxO n x f):=by
 unfold KM.idxO
 cases x with
 |none=>exact hf n rfl
 |some x=>exact SK.idx λi e=>hf i e
theorem SK.nth{xs:List Ad}{i:Nat}{m:AM α}{f:Ad->KM α}(hf:∀ cs,Xi xs i=some cs->SK m (f cs)):SK m (KM.nth xs i f):=λH s k r h=>by
 unfold KM.nth Bt at h;split at h
 .exact hf _ ‹_› H s k r h
 .cases h
theorem SK.rd{cells:Ad}{o n:Nat}{f:Ad->AM β}{fK:Ad->KM β}{m:AM β}(hm:o+n<=cells.length->m=f ((cells.drop o).take n))(hf:∀ cs,SK (f cs) (fK cs)):SK m ((KM.rd cells o n).bind fK):=λH s k r h=>by
 unfold KM.bind KM.rd I5 at h;split at h
 .rename_i e
  rw[hm (by simpa using e)];exact hf _ H s _ r (by simpa using h)
 .cases h
end
mutual
theorem OE:∀(s:Sh) (x:AV) {K:AV->KR} {r:AV × List BO},D1 s x K=some r->K x=some r
 |.int kd,x,K,r,h=>by
  simp only[D1,KD]at h;split at h
  .split at h
   .rename_i e;rw[←e]at h;exact h
   .cases h
  .cases h
 |.bool,x,K,r,h=>by
  simp only[D1,Hz]at h;split at h
  .exact h
  .cases h
 |.str,x,K,r,h=>by
  simp only[D1,RJ]at h;split at h
  .exact h
  .cases h
 |.ls,x,K,r,h=>by
  simp only[D1,NA]at h;split at h
  .exact h
  .cases h
 |.lp l,x,K,r,h=>by
  simp only[D1,Atc]at h;split at h
  .exact h
  .exact Cp l _ h
  .cases h
 |.agg l,x,K,r,h=>by
  simp only[D1,KC]at h;split at h
  .exact Cp l _ h
  .cases h
 |.tup l,x,K,r,h=>by
  simp only[D1,Jr]at h;split at h
  .exact Cp l _ h
  .cases h
 |.slo b e,x,K,r,h=>by
  simp only[D1,AoJ]at h;split at h
  .split at h
   .rename_i e1 e2
    have e1:b=_:=AwH e1;have e2:e=_:=AwH e2;rw[←e1,←e2];exact h
   .cases h
  .cases h
 |.sl b e,x,K,r,h=>by
  simp only[D1,Aaa]at h;split at h
  .split at h
   .rename_i e1 e2
    have e1:b=_:=AwH e1;have e2:e=_:=AwH e2;rw[←e1,←e2];exact h
   .cases h
  .cases h
 |.ptr b o,x,K,r,h=>by
  simp only[D1,NB]at h;split at h
  .split at h
   .rename_i e1 e2
    have e1:b=_:=AwH e1;have e2:o=_:=AwH e2;rw[←e1,←e2];exact h
   .cases h
  .cases h
 |.cst v,x,K,r,h=>by
  simp only[D1,XV]at h;split at h
  .rename_i u
   split at h
   .rename_i e
    have:v=u:=by
     unfold Ane at e;split at e
     .rfl
     .rfl
     .cases e
    rw[←this];exact h
   .cases h
  .cases h
 |.fnc f,x,K,r,h=>by
  simp only[D1,Ad3]at h;split at h
  .split at h
   .rename_i e
    have:=AwH e;subst this;exact h
   .cases h
  .cases h
 |.any,x,K,r,h=>by simpa only[D1]using h
theorem Cp:∀(l:List Sh) (cs:Ad) {K:Ad->KR} {r:AV × List BO},CT l cs K=some r->K cs=some r
 |[],cs,K,r,h=>by
  simp only[CT,Dp]at h;split at h
  .exact h
  .cases h
 |s::l,cs,K,r,h=>by
  have gen:(Ey cs λc r=>D1 s c λc=>CT l r λr=>K (c::r))=some r->K cs=some r:=λh=>by
   simp only[Ey]at h;split at h
   .cases h
   .have:=Cp l _ (OE s _ h)
    exact this
  cases s with
  |int kd=>
   simp only[CT,FU]at h;split at h
   .split at h
    .rename_i e
     have:=Cp l _ h;rw[←e]at this;exact this
    .cases h
   .cases h
  |bool=>
   simp only[CT,JE]at h;split at h
   .have:=Cp l _ h
    exact this
   .cases h
  |str=>
   simp only[CT,Pd]at h;split at h
   .have:=Cp l _ h
    exact this
   .cases h
  |ls=>
   simp only[CT,Pc]at h;split at h
   .have:=Cp l _ h
    exact this
   .cases h
  |_=>
   simp only[CT]at h;exact gen h
end
theorem EI:∀(l:List Os) (o:List BO) {K:List BO->KR} {r:AV × List BO},G5 l o K=some r->K o=some r
 |[],cs,K,r,h=>by
  simp only[G5,CG]at h;split at h
  .exact h
  .cases h
 |s::l,o,K,r,h=>by
  simp only[G5,El]at h;split at h
  .cases h
  .cases s with
   |keep=>
    simp only[Oq]at h;split at h
    .have:=EI l _ h
     exact this
    .cases h
   |del=>
    simp only[TK]at h;split at h
    .have:=EI l _ h
     exact this
    .cases h
   |row st=>
    simp only[E7]at h;split at h
    .split at h
     .rename_i e
      obtain⟨rfl,rfl⟩:=e;have:=EI l _ h;exact this
     .cases h
    .cases h
   |box m=>
    simp only[E7]at h;split at h
    .split at h
     .rename_i e
      obtain⟨rfl,rfl⟩:=e;have:=EI l _ (Cp m _ h);exact this
     .cases h
    .cases h
theorem SK.exp(t:Sh)(x:AV):SK (AM.ret x) (KM.exp t x):=λH s k r h=>⟨x,H,⟨[],[]⟩,s,rfl,OE t x h⟩
theorem SK.expL(t:List Sh)(x:Ad):SK (AM.ret x) (KM.expL t x):=λH s k r h=>⟨x,H,⟨[],[]⟩,s,rfl,Cp t x h⟩
theorem SK.expO(t:List Os)(x:List BO):SK (AM.ret x) (KM.expO t x):=λH s k r h=>⟨x,H,⟨[],[]⟩,s,rfl,EI t x h⟩
theorem SK.look{α β:Type}{x:α}{mK:KM α}(hm:SK (AM.ret x) mK){f:α->AM β}{fK:α->KM β}(hf:∀ a,SK (f a) (fK a)):SK (f x) (mK.bind fK):=λH s k r h=>by
 obtain⟨a,H1,f1,s1,h1,h2⟩:=hm H s _ r h;obtain⟨rfl,rfl⟩:=At h1;have e:f1=⟨[],[]⟩:=by
  grind [AM.ret]
 subst e;exact hf _ _ _ _ r (by simpa using h2)
section
variable {A:Ar} {D:Orc} {own:List (Nat × Nat)} {Hn:Hnt}
theorem SK.tm(d:Option Nat)(cs:Ad):SK (AM.ret cs) (tmK Hn d cs):=by
 unfold tmK;split
 .grind [SK.expL,SK.ret]
 .exact SK.ret _
theorem SK.rdAt(d:Option Nat)(a:AV)(n:Nat):SK (rdAt a n) (Abx Hn d a n):=by
 unfold Abx;split
 .unfold Go.Proofs.YtlmhajfbpplpoaaGreat.rdAt
  refine SK.bind (SK.gen _) λk=>SK.rd (f:=λcs=>AM.ret cs) (λh=>Ac h) λcs=>?_
  split
  .exact SK.tm _ _
  .exact SK.ret _
 .exact SK.gen _
theorem SK.load(d:Option Nat)(row:Bool)(n:Nat)(a:AV):SK (loadM row n a) (AgJ Hn d row n a):=by
 cases row with
 |true=>exact SK.bind (SK.rdAt _ _ _) λ_=>SK.ret _
 |false=>exact SK.bind (SK.rdAt _ _ _) λ_=>SK.opt _
theorem SK.store(n:Nat)(a x:AV):SK (storeM n a x) (Z2 n a x):=by
 unfold storeM Z2
 cases a with
 |ptr b o=>
  simp only;split
  .refine SK.bind (SK.gen _) λk=>?_
   by_cases h:k.st=true/\(!k.ex||A4 x.cells)=true
   .simp_all [SK.bind,SK.gen,SK.ret,SK.test,Ac]
   .rw[Ab h]
    exact SK.fail _
  .exact SK.fail _
 |_=>exact SK.fail _
theorem SK.iaddr(d:Option Nat)(e:Nat)(x ix:AV):SK (AM.opt (QC e x ix)) (Y7 Hn d e x ix):=by
 unfold Y7;refine SK.idx λi hi=>?_
 unfold QC;simp only[hi]
 cases x with
 |sl b o n e'=>
  simp only;refine SK.test λh=>?_
  rw[h];simp only;split
  .exact SK.ret _
  .exact SK.fail _
 |ls xs=>
  simp only;refine SK.nth λcs h=>?_
  rw[h];simp only;refine SK.look (f:=λ(cs:Ad)=>AM.opt (match AwO cs.length e with
   |true=>some (AV.lp cs)
   |false=>none)) (SK.tm d cs) λcs=>?_
  cases AwO cs.length e with
  |true=>exact SK.ret _
  |false=>exact SK.fail _
 |_=>exact SK.fail _
theorem SK.aaddr(n e:Nat)(x ix:AV):SK (AM.opt (TW n e x ix)) (Yf n e x ix):=by
 grind [Yf,TW,SK.idx,SK.opt,SK.test]
theorem Aiz{cs:Ad}{o:Nat}(h:o+1<=cs.length):ZI ((cs.drop o).take 1)=cs[o]?:=by
 have h1:o<cs.length:=h;rw[Ψ h1,χ h1];rfl
theorem SK.index(d:Option Nat)(n e:Nat)(row:Bool)(sz:Nat)(x ix:AV):SK (AM.opt (QE n e row sz x ix)) (Y9 d n e row sz x ix):=by
 unfold Y9;refine SK.idx λi hi=>?_
 unfold QE
 cases x with
 |agg cs=>
  simp only[hi];refine SK.test λh=>?_
  rw[h];simp only;unfold Xp
  cases row with
  |true=>exact SK.rd (f:=λxs=>AM.ret (.agg xs)) (λ_=>rfl) λ_=>SK.ret _
  |false=>exact SK.rd (f:=λxs=>AM.opt (ZI xs)) (λh=>by rw[Aiz h]) λ_=>SK.opt _
 |_=>exact SK.fail _
theorem QD{l h n:Nat}(e:Lr l h n=true):Aww l h=true/\Aww h n=true:=by
 grind [Lr]
theorem LZ{n b:Nat}(e:Bh n b=true):Aww (n*b) 140737488355328=true/\Aww n maxLen=true:=by
 grind [Bh]
theorem SK.slice(e:Nat)(x:AV)(lo hi:Option AV):SK (AM.opt (Ru e x lo hi)) (ZY e x lo hi):=by
 unfold ZY Ru
 cases x with
 |sl b o n e'=>
  simp only;refine SK.idxO λl hl=>SK.idxO λh hh=>SK.test λhb=>?_
  rw[hl,hh];obtain⟨h1,h2⟩:=QD hb;simp only[h1,h2]
  cases AwO e' e with
  |true=>exact SK.ret _
  |false=>exact SK.fail _
 |ls xs=>
  simp only;refine SK.idxO λl hl=>SK.idxO λh hh=>SK.test λhb=>SK.test λhw=>?_
  rw[hl,hh];obtain⟨h1,h2⟩:=QD hb;simp only[h1,h2,hw];exact SK.ret _
 |_=>exact SK.fail _
theorem SK.bin(b:BinOp)(x y:AV):SK (AM.opt (ME A b x y)) (Ao5 A b x y):=by
 unfold Ao5;split
 .rename_i k a k' c
  cases b with
  |shl=>
   simp only;refine SK.brk (λ_=>SK.fail _) λh=>?_
   simp only[ME,h];exact SK.ret _
  |shr=>
   simp only;refine SK.brk (λ_=>SK.fail _) λh=>?_
   simp only[ME,h];exact SK.ret _
  |quo=>
   simp only;split
   .rename_i e
    refine SK.brk (λ_=>SK.fail _) λh=>?_
    simp only[ME,h,Ac e];exact SK.ret _
   .exact SK.fail _
  |rem=>
   simp only;split
   .rename_i e
    refine SK.brk (λ_=>SK.fail _) λh=>?_
    simp only[ME,h,Ac e];exact SK.ret _
   .exact SK.fail _
  |neq=>
   simp only;split
   .rename_i e
    refine SK.brk (λh=>?_) λh=>?_<;>(simp only[ME,h,Ac e];exact SK.ret _)
   .exact SK.fail _
  |_=>exact SK.opt _
 .cases b with
  |neq=>
   simp only;refine SK.brk (λh=>?_) λh=>?_<;>(simp only[ME,h];exact SK.ret _)
  |add=>
   simp only;refine SK.test λh=>?_
   simp only[ME,h];exact SK.ret _
  |_=>exact SK.opt _
 .exact SK.opt _
theorem SK.sidx(x i:AV):SK (AM.opt (XG A x i)) (Aii A x i):=by
 unfold Aii;split
 .refine SK.idx λj hj=>SK.test λh=>?_
  simp only[XG,hj,h];exact SK.ret _
 .exact SK.fail _
theorem SK.sslice(x:AV)(lo hi:Option AV):SK (AM.opt (Nt A x lo hi)) (Vf A x lo hi):=by
 unfold Vf;split
 .refine SK.idxO λl hl=>SK.idxO λh hh=>SK.test λhb=>?_
  obtain⟨h1,h2⟩:=QD hb;simp only[Nt,hl,hh,h1,h2];exact SK.ret _
 .exact SK.fail _
theorem SK.news(e:Nat)(x:AV):SK (newsM e x) (Abi e x):=by
 unfold Abi newsM
 cases x with
 |sl b o n e'=>
  simp only;split
  .grind [SK.bind,SK.fail,SK.gen,SK.ret,SK.test]
  .exact SK.fail _
 |ls xs=>
  simp only;refine SK.test λh=>?_
  rw[h];exact SK.ret _
 |v z=>
  cases z with
  |slice a n c=>
   cases a with
   |none=>
    cases n with
    |zero=>
     cases c with
     |zero=>exact SK.ret _
     |succ c=>exact SK.fail _
    |succ n=>exact SK.fail _
   |some a=>exact SK.fail _
  |_=>exact SK.fail _
 |_=>exact SK.fail _
theorem SK.appR(e bytes:Nat)(s:AV)(r:Nat × Ad):SK (appR e bytes s r) (Aah e bytes s r):=by
 unfold Aah Go.Proofs.YtlmhajfbpplpoaaGreat.appR;refine SK.brk (λh=>?_) λh=>SK.test λh2=>?_
 .grind [SK.fail,SK.ret]
 .rw[h,h2]
  simp only;unfold Al0
  cases s with
  |sl b o n e'=>
   simp only
   cases he:AwO e' e with
   |false=>exact SK.fail _
   |true=>
    simp only;refine SK.test λh3=>?_
    obtain⟨h4,h5⟩:=LZ h3;simp only[h4,h5];refine SK.bind (SK.gen _) λk=>?_
    cases k.ex with
    |false=>exact SK.fail _
    |true=>
     cases k.st with
     |true=>
      simp only;refine SK.test λh6=>?_
      cases AwO (o+n*e) k.cells.length with
      |true=>exact SK.bind (SK.gen _) λ_=>SK.bind (SK.gen _) λ_=>SK.ret _
      |false=>
       simp only[h6];exact SK.bind (SK.gen _) λ_=>SK.bind (SK.gen _) λ_=>SK.ret _
     |false=>
      simp only;refine SK.test λh6=>?_
      rw[h6];exact SK.bind (SK.gen _) λ_=>SK.bind (SK.gen _) λ_=>SK.ret _
  |v z=>
   cases z with
   |slice a n c=>
    cases a with
    |none=>
     cases n with
     |zero=>
      cases c with
      |zero=>
       refine SK.test λh3=>?_
       obtain⟨h4,h5⟩:=LZ h3;simp only[h4,h5];exact SK.bind (SK.gen _) λ_=>SK.ret _
      |succ c=>exact SK.fail _
     |succ n=>exact SK.fail _
    |some a=>exact SK.fail _
   |_=>exact SK.fail _
  |_=>exact SK.fail _
theorem SK.app(e bytes:Nat)(s x:AV):SK (appM e bytes s x) (AqO e bytes s x):=SK.bind (SK.news e x) λr=>SK.appR e bytes s r
theorem SK.appz(z:AI)(e bytes:Nat)(s x:AV):SK (appzM z e bytes s x) (Aew z e bytes s x):=by
 unfold Aew appzM UQ;refine SK.idx λm hm=>SK.test λh1=>?_
 rw[hm];dsimp only;rw[h1];exact SK.bind (mK:=KM.ret (m,Cx (z.map .v) (m*e))) (SK.ret _) λr=>SK.appR e bytes s r
theorem SK.mksl(z:AI)(e b:Nat)(l c:AV):SK (mkslM z e b l c) (Ag3 z e b l c):=by
 grind [Ag3,mkslM,SK.bind,SK.gen,SK.idx,SK.ret,SK.test,LZ]
theorem SK.cpy(e:Nat)(d x:AV):SK (cpyM e d x) (Ape e d x):=by
 unfold Ape cpyM
 cases d with
 |sl b o n e'=>
  simp only
  cases AwO e' e with
  |false=>exact SK.fail _
  |true=>
   simp only;refine SK.bind (SK.news e x) λr=>SK.test λh=>?_
   rw[h];simp only;refine SK.bind (SK.gen _) λk=>?_
   cases k.st with
   |false=>exact SK.fail _
   |true=>
    simp only;refine SK.test λh2=>?_
    rw[h2];exact SK.bind (SK.gen _) λ_=>SK.ret _
 |_=>exact SK.fail _
theorem SK.clr(z:AI)(e:Nat)(x:AV):SK (clrM z e x) (Apc z e x):=by
 unfold Apc clrM
 cases x with
 |sl b o n e'=>
  simp only
  cases AwO e' e with
  |false=>exact SK.fail _
  |true=>
   simp only;refine SK.bind (SK.gen _) λk=>?_
   cases k.st with
   |false=>exact SK.fail _
   |true=>
    simp only;refine SK.test λh2=>?_
    rw[h2];exact SK.bind (SK.gen _) λ_=>SK.ret _
 |_=>exact SK.fail _
mutual
theorem SK.frz:∀(n:Nat) (x:AV),SK (frz n x) (V1 n x)
 |0,x=>by
  unfold V1 Go.Proofs.YtlmhajfbpplpoaaGreat.frz;exact SK.gen _
 |n+1,x=>by
  unfold V1 Go.Proofs.YtlmhajfbpplpoaaGreat.frz
  cases x with
  |v z=>exact SK.ret _
  |sl b o m e=>
   simp only;refine SK.bind (SK.gen _) λk=>SK.test λh=>?_
   rw[h];simp only;refine SK.bind ?_ λ_=>?_
   .cases k.st with
    |true=>exact SK.gen _
    |false=>exact SK.ret _
   .cases (k.ex||A4 ((k.cells.drop o).take (m*e))) with
    |true=>exact SK.ret _
    |false=>
     simp only;refine SK.bind (SK.frzL n _) λcs=>?_
     cases A4 cs with
     |true=>exact SK.ret _
     |false=>exact SK.fail _
  |agg cs=>exact SK.bind (SK.frzL n _) λ_=>SK.ret _
  |tup cs=>exact SK.bind (SK.frzL n _) λ_=>SK.ret _
  |_=>exact SK.ret _
theorem SK.frzL:∀(n:Nat) (l:Ad),SK (frzL n l) (MS n l)
 |n,[]=>by
  unfold MS Go.Proofs.YtlmhajfbpplpoaaGreat.frzL;exact SK.ret _
 |0,_::_=>by
  unfold MS;exact SK.fail _
 |n+1,x::r=>by
  unfold MS Go.Proofs.YtlmhajfbpplpoaaGreat.frzL;exact SK.bind (SK.frz n x) λ_=>SK.bind (SK.frzL n r) λ_=>SK.ret _
end
theorem SK.frzB(b:Nat):SK (frzB b) (AfJ b):=by
 grind [Go.Proofs.YtlmhajfbpplpoaaGreat.frzB,AwO,AfJ,SK.bind,SK.fail,SK.frzL,SK.gen,SK.ret]
theorem SK.frzT:∀(l:Aj) (T:Ad),SK (frzT l T) (MT l T)
 |[],T=>SK.ret _
 |t::r,T=>by
  unfold MT Go.Proofs.YtlmhajfbpplpoaaGreat.frzT
  cases T[t]? with
  |none=>exact SK.frzT r T
  |some x=>
   cases x with
   |ptr b o=>exact SK.bind (SK.frzB b) λ_=>SK.frzT r T
   |_=>exact SK.bind (SK.frz _ _) λ_=>SK.frzT r _
theorem SK.frzA(f:Nat):∀(i:Nat) (l:Ad),SK (frzA own f i l) (SD own f i l)
 |i,[]=>by
  unfold SD Go.Proofs.YtlmhajfbpplpoaaGreat.frzA;exact SK.ret _
 |i,x::r=>by
  unfold SD Go.Proofs.YtlmhajfbpplpoaaGreat.frzA
  cases Ahs own f i with
  |true=>exact SK.bind (SK.frzA f (i+1) r) λ_=>SK.ret _
  |false=>exact SK.bind (SK.frz 1000 x) λ_=>SK.bind (SK.frzA f (i+1) r) λ_=>SK.ret _
theorem SK.ask(key:Key)(args:Ad)(bs:List ABlk):SK (AM.opt (D.ask key args bs)) (KM.ask D key args bs):=λH s k r h=>by
 unfold KM.ask AN at h;split at h
 .rename_i q e
  rw[e];exact⟨q,H,⟨[],[]⟩,s,rfl,h⟩
 .cases h
theorem SK.callD(key:Key){e:AV × List BO->KM (AV × List BO)}(he:∀ q,SK (AM.ret q) (e q))(args:Ad):SK (callD (D.ask key) args) (Ud D key e args):=by
 unfold Ud Go.Proofs.YtlmhajfbpplpoaaGreat.callD;refine SK.bind (SK.gen _) λL=>SK.bind (SK.gen _) λbs=>SK.bind ?_ λr=>?_
 .intro H s k r h
  obtain⟨a,H1,f1,s1,h1,h2⟩:=SK.ask key _ _ H s _ r h;obtain⟨b,H2,f2,s2,h3,h4⟩:=he a H1 s1 _ r h2;obtain⟨rfl,rfl⟩:=At h3;refine⟨_,_,_,s2,h1,?_⟩;simp only[AM.ret,δ,Prod.mk.injEq]at h3;rw[←h3.2.2]at h4;simpa using h4
 .grind [SK.bind,SK.fail,SK.gen,SK.ret]
theorem SK.ansF(f:Nat)(q:AV × List BO):SK (AM.ret q) (ansF Hn f q):=by
 unfold Go.Proofs.YtlmhajfbpplpoaaGreat.ansF;split
 .exact SK.look (f:=λx=>AM.ret (x,q.2)) (SK.exp _ _) λx=>SK.look (f:=λo=>AM.ret (x,o)) (SK.expO _ _) λ_=>SK.ret _
 .exact SK.ret _
theorem SK.calls(f:FuncId)(args:Ad):SK (callsM D own f args) (Ue D own Hn f args):=by
 grind [Ue,callsM,SK.ansF,SK.bind,SK.callD,SK.frzA]
theorem Ajf{k:Nat}{x:AV}(h:Bf k x=true):x=AeB k:=by
 unfold Bf at h;split at h
 .rfl
 .rename_i i j
  have:i=j:=AwH h;rw[this];rfl
 .cases h
theorem SK.ansX:∀(l:List (Nat × (List Sh × List Os))) (x:AV) (ys:Ad) (o:List BO),SK (AM.ret (.tup (x::ys),o)) (ansX l x ys o)
 |[],_,_,_=>SK.fail _
 |(k,s,l)::r,x,ys,o=>by
  unfold Go.Proofs.YtlmhajfbpplpoaaGreat.ansX;refine SK.brk (λh=>?_) λ_=>SK.ansX r x ys o
  have hx:x=AeB k:=Ajf h;rw[←hx];exact SK.look (f:=λys=>AM.ret (γ (x::ys),o)) (SK.expL _ _) λys=>SK.look (f:=λo=>AM.ret (γ (x::ys),o)) (SK.expO _ _) λ_=>SK.ret _
theorem SK.ansL(i:Nat)(q:AV × List BO):SK (AM.ret q) (ansL Hn i q):=by
 unfold Go.Proofs.YtlmhajfbpplpoaaGreat.ansL;split
 .rename_i l _
  intro H s k r h;obtain⟨v,o⟩:=q
  cases v with
  |tup cs=>
   cases cs with
   |nil=>cases h
   |cons x ys=>exact SK.ansX l x ys o H s k r h
  |_=>cases h
 .exact SK.ret _
theorem SK.loops(f i:Nat)(xs:Ad):SK (loopsM D f i xs) (Zs D Hn f i xs):=by
 grind [Yk,Zs,loopsM,SK.ansL,SK.bind,SK.callD,SK.fail,SK.ret]
theorem SK.op(d:Option Nat)(o:MO)(T:Ad):SK (mop A (callsM D own) o T) (opK A D own Hn d o T):=by
 cases o with
 |pick c a b=>
  simp only[opK,mop]
  cases AT T c with
  |v u=>
   cases u with
   |bool t=>
    simp only;refine SK.brk (λh=>?_) λh=>?_<;>(subst h;exact SK.ret _)
   |_=>exact SK.fail _
  |_=>exact SK.fail _
 |ld row n a=>exact SK.load _ _ _ _
 |st n a x=>exact SK.store _ _ _
 |bin ek b x y=>
  cases ek with
  |zero=>exact SK.bin _ _ _
  |succ n=>exact SK.opt _
 |slice e x lo hi=>exact SK.slice _ _ _ _
 |iaddr e x i=>exact SK.iaddr _ _ _ _
 |aaddr n e x i=>exact SK.aaddr _ _ _ _
 |index n e row sz x i=>exact SK.index d _ _ _ _ _ _
 |mksl z e b l c=>exact SK.mksl _ _ _ _ _
 |app e b s x=>exact SK.app _ _ _ _
 |appz z e b s x=>exact SK.appz _ _ _ _ _
 |cpy e d x=>exact SK.cpy _ _ _
 |clr z e x=>exact SK.clr _ _ _
 |sidx x i=>exact SK.sidx _ _
 |sslice x lo hi=>exact SK.sslice _ _ _
 |callF f args=>exact SK.calls _ _
 |callV ents x args=>
  simp only[opK,mop]
  cases AT T x with
  |fn f a cs=>
   cases f with
   |func g=>
    simp only
    cases ents.testBit g with
    |true=>exact SK.calls _ _
    |false=>exact SK.fail _
   |_=>exact SK.fail _
  |_=>exact SK.fail _
 |_=>exact SK.gen _
theorem SK.core(o:MOp)(T:Ad):SK (coreM A (callsM D own) o T) (AeV A D own Hn o T):=by
 grind [bool,AeV,coreM,X1,SK.brk,SK.fail,SK.op,SK.ret]
theorem AjM{e:Bool}{x:AV}{s:Sc}{k:AV->Sc->KR}{r:AV × List BO}(h:gB e x s k=some r):∃ s',k x s'=some r:=by
 unfold gB at h;split at h
 .grind [VG]
 .exact⟨s,h⟩
theorem SK.run:∀(l:List MOp) (T:Ad) (H:AH) (s:Sc) (k:Ad->AH->List Foot->Sc->KR) (r:AV × List BO),AkV A D own Hn l T H s k=some r->∃ T' H' fs s',runM A (callsM D own) l T H=some (T',H',fs)/\k T' H' fs s'=some r
 |[],T,H,s,k,r,h=>⟨T,H,[],s,rfl,h⟩
 |o::l,T,H,s,k,r,h=>by
  simp only[AkV]at h;obtain⟨v,H1,f,s1,h1,h2⟩:=SK.core o T H s _ r h;simp only[AfM,YZ,Aps,Ari]at h2;obtain⟨s2,h2⟩:=AjM h2;obtain⟨T',H',fs,s3,h3,h4⟩:=SK.run l _ _ _ _ r h2;refine⟨T',H',f::fs,s3,?_,h4⟩;simp only[runM,h1,h3]
theorem SK.reg(ops:List MOp)(bf:Option (Aj))(T:Ad):SK (regM A (callsM D own) ops bf T) (Aqa A D own Hn ops bf T):=λH s k r h=>by
 unfold Aqa at h;obtain⟨T',H',fs,s',h1,h2⟩:=SK.run ops T H s _ r h;unfold regM;rw[h1]
 cases bf with
 |none=>exact⟨_,_,_,s',rfl,h2⟩
 |some bf=>
  simp only at h2 ⊢;split at h2
  .grind
  .cases h2
theorem SK.ev(f:Nat):∀(c:MC) (T:Ad),SK (evC A (callsM D own) (loopsM D f) c T) (evK A D own Hn f c T)
 |.skip,T=>SK.ret _
 |.reg ops bf,T=>SK.reg _ _ _
 |.seq a b,T=>by
  unfold evK evC;refine SK.bind (SK.ev f a T) λr=>?_
  obtain⟨ax,T1⟩:=r
  cases ax with
  |normal=>exact SK.ev f b _
  |_=>exact SK.ret _
 |.cond c a b,T=>by
  unfold evK evC
  cases AT T c with
  |v u=>
   cases u with
   |bool t=>
    simp only;refine SK.brk (λh=>?_) λh=>?_<;>subst h
    .exact SK.ev f a T
    .exact SK.ev f b T
   |_=>exact SK.fail _
  |_=>exact SK.fail _
 |.block id c,T=>by
  unfold evK evC;refine SK.bind (SK.ev f c T) λr=>?_
  obtain⟨ax,T1⟩:=r
  cases ax with
  |exit i=>
   simp only
   by_cases e:i=id
   .simp_all [SK.ret,Ac]
   .simp_all [SK.ret,Ab]
  |_=>exact SK.ret _
 |.loop i h,T=>by
  grind [AwO,evC,evK,SK.bind,SK.fail,SK.frzT,SK.gen,SK.loops,SK.ret]
 |.exit id,T=>SK.ret _
 |.ret,T=>SK.ret _
 |.bad,T=>SK.fail _
theorem SK.res(T:Ad):∀ l,SK (resM T l) (AhO Hn T l)
 |[]=>SK.ret _
 |.tmp _::r=>SK.bind (SK.res T r) λ_=>SK.ret _
 |.cell _ _ _::r=>SK.bind (SK.load _ _ _ _) λ_=>SK.bind (SK.res T r) λ_=>SK.ret _
theorem Apn{m:Ad->AM AV}{mK:KM AV}{args:Ad}{bs:List ABlk}{r:AV × List BO}(hm:SK (m args) mK)(s:Sc)(h:mK ⟨DV 0 bs,bs.length,none⟩ s (λv H ft _=>Qq bs.length v H ft)=some r):RQ (Ga m) args bs=some r:=by
 obtain⟨v,H',ft,s',h1,h2⟩:=hm _ _ _ _ h;unfold RQ Ga;rw[h1];exact h2
theorem Apq{f:Nat}{mf:MFn}{args:Ad}{bs:List ABlk}{r:AV × List BO}(s:Sc)(h:Bp A D own Hn s f mf args bs=some r):RQ (Ga (fnM A D own f mf)) args bs=some r:=by
 unfold Bp at h;refine Apn ?_ s h;unfold fnM;have fin:∀ T,SK ((resM T mf.res).bind λl=>(match mf.own with
   |true=>AM.ret (Ll l)
   |false=>frz 1000 (Ll l)).bind λv=>match mf.tch with
    |true=>(touchI (FD args)).bind λ_=>AM.ret v
    |false=>AM.ret v) ((AhO Hn T mf.res).bind λl=>(match mf.own with
   |true=>KM.ret (Ll l)
   |false=>V1 1000 (Ll l)).bind λv=>match mf.tch with
    |true=>(KM.gen (touchI (FD args))).bind λ_=>KM.ret v
    |false=>KM.ret v):=λT=>by
  grind [SK.bind,SK.frz,SK.gen,SK.res,SK.ret]
 refine SK.bind (SK.ev f _ _) λr=>?_
 obtain⟨ax,T1⟩:=r
 cases ax with
 |exit i=>exact SK.fail _
 |goto l=>exact SK.fail _
 |normal=>exact fin T1
 |ret=>exact fin T1
theorem Px{α β:Type}{m:AM α}{f:α->AM β}{H H1 H2:AH}{a:α}{b:β}{f1 f2:Foot}(h1:m H=some (a,H1,f1))(h2:f a H1=some (b,H2,f2)):(m.bind f) H=some (b,H2,⟨f1.rd++f2.rd,f1.wr++f2.wr⟩):=by
 grind [AM.bind]
theorem V9(n b:Nat)(hb:b<n):∀ l,GW b (Ahg n l)=GW b l
 |[]=>rfl
 |x::r=>by
  have ih:=V9 n b hb r;unfold Ahg;split
  .unfold GW
   rw[ih]
  .rename_i h
   rw[ih]
   conv=>rhs;unfold GW
   cases e:AwO b x with
   |false=>rfl
   |true=>
    have e:b=x:=AwH e;subst e;have h1:Axu b n=true:=by rw[Aca];simpa using hb
    cases h2:GW b r with
    |true=>rfl
    |false=>exact absurd h2 (h h1)
theorem V8(b:Nat)(l m:Aj):GW b (l++m)=(GW b l||GW b m):=by
 simp only[Ux];simp
theorem YV{n:Nat}{r:AV}{H:AH}{f1 f2:Foot}(h:∀ b,b<n->GW b f1.wr=GW b f2.wr):Qq n r H f1=Qq n r H f2:=by
 have:(EQ 0 n).map (ZK H f1.wr)=(EQ 0 n).map (ZK H f2.wr):=by
  refine List.map_congr_left λb hb=>?_
  obtain⟨i,hi⟩:=List.getElem?_of_mem hb;rw[L8]at hi;split at hi
  .grind [ZK]
  .cases hi
 unfold Qq;rw[this]
theorem AkL{f i n:Nat}{xs:Ad}{H:AH}{ft:Foot}{r:AV × List BO}(h:Ap9 D f i xs H ft n=some r):∃ q H' f',loopsM D f i xs H=some (q,H',f')/\Qq n (.tup (axA q.1::q.2)) H' ⟨ft.rd++f'.rd,ft.wr++f'.wr⟩=some r:=by
 unfold Ap9 at h;split at h
 .rename_i L H1 f1 e1
  split at h
  .rename_i bs H2 f2 e2
   unfold AN at h;split at h
   .rename_i q e3
    obtain⟨v,o⟩:=q;simp only at h;unfold AO at h
    cases c1:RX o.length v.ids<;>cases c2:VF o.length o<;>rw[c1,c2]at h<;>try (cases h;done)
    simp only at h;split at h
    .rename_i x ys H' f' e4
     split at h
     .rename_i ax e5
      have t1:=(PS _ _ _ _ e1).1;have t2:=(Mj _ e2).1;rw[t1]at e1;rw[t2]at e2;refine⟨(ax,ys),H',_,Px (Px e1 (Px e2 (Px (a:=(v,o)) (H1:=H) (f1:=⟨[],[]⟩) (by rw[e3];rfl) (b:=.tup (x::ys)) (H2:=H') (f2:=f') ?_))) (b:=(ax,ys)) (H2:=H') (f2:=⟨[],[]⟩) ?_,?_⟩
      .simp only[c1,c2]
       exact e4
      .simp only[e5]
       rfl
      .rw[←h]
       refine YV λb hb=>?_
       simp only[V8,V9 n b hb,AwV,AwC,Bool.or_assoc]
     .cases h
    .cases h
   .cases h
  .cases h
 .cases h
theorem ApU{f i:Nat}{q:LpH}{c:MC}{xs:Ad}{bs:List ABlk}{r:AV × List BO}(s:Sc)(h:DI A D own Hn s f i q c xs bs=some r):RQ (Ga (lpM A D own f i q c)) xs bs=some r:=by
 have key:∀ v H' ft,lpM A D own f i q c xs ⟨DV 0 bs,bs.length,none⟩=some (v,H',ft)->Qq bs.length v H' ft=some r->RQ (Ga (lpM A D own f i q c)) xs bs=some r:=λv H' ft h1 h2=>by
  unfold RQ Ga;rw[h1];exact h2
 unfold DI at h;obtain⟨⟨ax,T1⟩,H1,f1,s1,h1,h2⟩:=SK.ev f c _ _ s _ r h;have out:∀(ax:AX),((MT (q.fzo ax) T1).bind λT=>(KM.gen (delT (q.dlo ax) T)).bind λ_=>(KM.gen (touchA (q.nt ax) (CS (q.out ax) T))).bind λys=>KM.ret (.tup (axA ax::ys))) H1 s1 (λv H f _=>Qq bs.length v H ⟨f1.rd++f.rd,f1.wr++f.wr⟩)=some r->∃ v H' f,((frzT (q.fzo ax) T1).bind λT=>(delT (q.dlo ax) T).bind λ_=>(touchA (q.nt ax) (CS (q.out ax) T)).bind λys=>AM.ret (.tup (axA ax::ys))) H1=some (v,H',f)/\Qq bs.length v H' ⟨f1.rd++f.rd,f1.wr++f.wr⟩=some r:=λax h=>by
  obtain⟨v,H',f,s2,h3,h4⟩:=(SK.bind (SK.frzT (q.fzo ax) T1) λT=>SK.bind (SK.gen _) λ_=>SK.bind (SK.gen _) λys=>SK.ret (γ (axA ax::ys))) H1 s1 _ r h;exact⟨v,H',f,h3,h4⟩
 cases ax with
 |normal=>
  obtain⟨T2,H2,f2,s2,h5,h6⟩:=SK.frzT q.fz T1 H1 s1 _ r h2;obtain⟨p,H',f',h3,h4⟩:=AkL h6;refine key _ H' _ ?_ h4;unfold lpM;simp only[AM.bind,h1,h5,h3,AM.ret,AwV,Awr]
 |goto l=>cases h2
 |exit k=>
  obtain⟨v,H',f',h3,h4⟩:=out _ h2;refine key v H' _ ?_ h4;unfold lpM;rw[AM.bind,h1];simp only;rw[h3]
 |ret=>
  obtain⟨v,H',f',h3,h4⟩:=out _ h2;refine key v H' _ ?_ h4;unfold lpM;rw[AM.bind,h1];simp only;rw[h3]
end
section
variable {A:Ar} {M:Seat}
theorem AoY(Hn:Hnt)(s:Sc){f:Nat}{mf:MFn}(he:M.ext f=none)(hf:M.fns f=some mf){args:Ad}{bs:List ABlk}{r:AV × List BO}(h:Bp A (BJ A M) M.own Hn s f mf args bs=some r):(BJ A M).ask (.fn f) args bs=some r:=Ak3 he hf (Apq s h)
theorem AoZ(Hn:Hnt)(s:Sc){f i:Nat}{mf:MFn}{q:LpH}{c:MC}(hf:M.fns f=some mf)(hl:mf.loops[i]? = some (q,c)){args:Ad}{bs:List ABlk}{r:AV × List BO}(h:DI A (BJ A M) M.own Hn s f i q c args bs=some r):(BJ A M).ask (.lp f i) args bs=some r:=Ak4 hf hl (ApU s h)
end
end
open Go.RowKit
def iv(n:Int):AV:=.v (.int .i64 n)
def bv(b:Bool):AV:=.v (.bool b)
def sv(s:ByteArray):AV:=.v (.string s)
def Ai(l:List UInt8):ByteArray:=⟨l.toArray⟩
def Ahm(P:Program)(f:Nat):Bool:=match P.funcs[f]? with
 |some fn=>(match fn.body with
  |some c=>NE c&&okR P fn.results.toList
  |none=>false)
 |none=>false
def IZ(P:Program)(ents:Nat)(hs:Mx)(ownR tch:Bool)(f:Nat):MFn:=match P.funcs[f]? with
 |some fn=>(match fn.body with
  |some c=>⟨fn.ntmps,Lq P fn.results.toList,(BA P ents hs c 0).1,(BA P ents hs c 0).2,ownR,tch⟩
  |none=>⟨0,[],.bad,[],false,false⟩)
 |none=>⟨0,[],.bad,[],false,false⟩
theorem AjJ{P:Program}{ents:Nat}{hs:Mx}{ownR tch:Bool}{f:Nat}(h:Ahm P f=true):FnOk P ents f (IZ P ents hs ownR tch f):=by
 unfold Ahm at h
 cases e1:P.funcs[f]? with
 |none=>rw[e1]at h;cases h
 |some fn=>
  rw[e1]at h;simp only at h
  cases e2:fn.body with
  |none=>rw[e2]at h;cases h
  |some c=>
   rw[e2]at h;simp only[η]at h;refine⟨fn,c,hs,e1,e2,h.1,h.2,?_⟩;unfold IZ;rw[e1];simp only[e2];exact⟨trivial,trivial,trivial,trivial⟩
structure Knows (own:List (Nat × Nat)) (L:List (Nat × MFn)) (D:Orc):Prop where
 fn:∀(Hn:Hnt) (s:Sc) (f:Nat) (mf:MFn) (args:Ad) (bs:List ABlk) (r:AV × List BO),BY f L=some mf->Bp Ak D own Hn s f mf args bs=some r->D.ask (.fn f) args bs=some r
 lp:∀(Hn:Hnt) (s:Sc) (f i:Nat) (mf:MFn) (q:LpH) (c:MC) (args:Ad) (bs:List ABlk) (r:AV × List BO),BY f L=some mf->mf.loops[i]? = some (q,c)->DI Ak D own Hn s f i q c args bs=some r->D.ask (.lp f i) args bs=some r
def AK(mf:MFn)(i:Nat):LpH × MC:=(mf.loops[i]?).getD (⟨0,[],[],[],[]⟩,.bad)
theorem Knows.fn'{own:List (Nat × Nat)}{L:List (Nat × MFn)}{D:Orc}(K:Knows own L D)(Hn:Hnt)(s:Sc){f:Nat}{mf:MFn}{args:Ad}{bs:List ABlk}{r:AV × List BO}(h1:BY f L=some mf)(h:Bp Ak D own Hn s f mf args bs=some r):D.ask (.fn f) args bs=some r:=K.fn Hn s f mf args bs r h1 h
theorem Ao{own:List (Nat×Nat)}{L:List (Nat×MFn)}{D:Orc}(K:Knows own L D)(Hn:Hnt){s:Sc}{f:Nat}{mf:MFn}{args:Ad}{bs:List ABlk}{r:AV×List BO}{x:KR}(e:Bp Ak D own Hn s f mf args bs=x)(g:x=some r)(h1:BY f L=some mf:=by rfl):D.ask (.fn f) args bs=some r:=K.fn' Hn s h1 (e.trans g)
theorem Knows.lp'{own:List (Nat × Nat)}{L:List (Nat × MFn)}{D:Orc}(K:Knows own L D)(Hn:Hnt)(s:Sc){f i:Nat}{mf:MFn}{args:Ad}{bs:List ABlk}{r:AV × List BO}(h1:BY f L=some mf)(h2:(mf.loops[i]?).isSome=true)(h:DI Ak D own Hn s f i (AK mf i).1 (AK mf i).2 args bs=some r):D.ask (.lp f i) args bs=some r:=by
 obtain⟨⟨q,c⟩,e⟩:=Option.isSome_iff_exists.1 h2;refine K.lp Hn s f i mf q c args bs r h1 e ?_;unfold AK at h;rw[e]at h;exact h
theorem Ax{own:List (Nat×Nat)}{L:List (Nat×MFn)}{D:Orc}(K:Knows own L D)(Hn:Hnt){s:Sc}{f i:Nat}{mf:MFn}{args:Ad}{bs:List ABlk}{r:AV×List BO}{x:KR}(e:DI Ak D own Hn s f i (AK mf i).1 (AK mf i).2 args bs=x)(g:x=some r)(h1:BY f L=some mf:=by rfl)(h2:(mf.loops[i]?).isSome=true:=by kernel_rfl):D.ask (.lp f i) args bs=some r:=K.lp' Hn s h1 h2 (e.trans g)
theorem Gg{α:Type}{f:Nat}{a:α}:∀{L:List (Nat × α)},BY f L=some a->(f,a)∈L
 |[],h=>by cases h
 |(m,b)::r,h=>by
  unfold BY at h
  cases e:AwO f m with
  |true=>
   rw[e]at h;simp only[δ]at h;have:=AwH e;subst this;subst h;exact List.mem_cons_self
  |false=>
   rw[e]at h;exact List.mem_cons_of_mem _ (Gg h)
def Nm(own:List (Nat × Nat))(L:List (Nat × MFn))(X:List (Nat × DF)):Seat:=⟨λf=>BY f L,own,λf=>BY f X⟩
def Tg(L:List (Nat × MFn))(X:List (Nat × DF)):Bool:=L.all λp=>(BY p.1 X).isNone
theorem Ags{own:List (Nat × Nat)}{L L':List (Nat × MFn)}{X:List (Nat × DF)}(hs:∀ f mf,BY f L'=some mf->BY f L=some mf)(hx:Tg L' X=true):Knows own L' (BJ Ak (Nm own L X)) where
 fn Hn s f mf args bs r h1 h2:=AoY (M:=Nm own L X) Hn s (by
  have:=Awu.1 hx _ (Gg h1);exact Az1.1 this) (hs f mf h1) h2
 lp Hn s f i mf q c args bs r h1 h2 h3:=AoZ (M:=Nm own L X) Hn s (hs f mf h1) h2 h3
section
variable {μ:Mu} {F:AP} {w w':World}
theorem E9(F:AP)(h:Below w.heap.size w w'):WStep F w w':=
 ⟨h.os,h.tape,h.output,h.size,λg o ho=>⟨o,by
  have hg:g<w.heap.size:=by
   grind
  exact(h.block g hg).trans ho,ObjStep.refl _ o⟩⟩
def Ade(F:AP)(w w':World):AP:=λg o=>F g o\/(w.heap.size<=g/\g<w'.heap.size)
theorem ON{H:Nat->Option ABlk}(hH:HRep μ F w H)(h:Below w.heap.size w w'):Later μ μ F (Ade F w w') w w':=
 ⟨λ_ _ h=>h,λg o hg=>⟨.inl hg,(E9 F h).cell hg (hH.prot g o hg)⟩⟩
theorem Y6{H:Nat->Option ABlk}(hH:HRep μ F w H)(h:Below w.heap.size w w'):HRep μ (Ade F w w') w' H:=by
 have hl:=ON hH h;have same:∀ g o,g<w.heap.size->w'.cell? ⟨g,o,none⟩=w.cell? ⟨g,o,none⟩:=λg o hg=>h.cell (p:=⟨g,o,none⟩) hg
 have st:=E9 (λ_ _=>False) h;refine⟨λb k hb=>?_,hH.apart,λg o hg=>?_⟩
 .obtain⟨p,hp,B⟩:=hH.blk b k hb
  refine⟨p,hp,?_,B.room,?_,λh0 i hi=>.inl (B.kept h0 i hi),?_,B.pure⟩
  .intro i x hx
   obtain⟨u,h1,h2⟩:=B.cell i x hx;exact⟨u,(same _ _ (En h1)).trans h1,h2.later hl⟩
  .intro i hi
   obtain⟨⟨u,h1⟩,h2⟩:=B.there i hi;exact⟨⟨u,(same _ _ (En h1)).trans h1⟩,(st.frozen (En h1)).trans h2⟩
  .rintro i hi (hf|⟨hf,_⟩)
   .exact B.free i hi hf
   .have hr:i<p.room:=by
     rcases hi with⟨h1,_⟩|⟨_,h1,_⟩
     .exact Axs h1 B.room
     .exact h1
    obtain⟨⟨u,h1⟩,_⟩:=B.there i hr;have:=En h1;omega
 .rcases hg with hg|hg
  .exact Axs (hH.prot g o hg) h.size
  .exact hg.2
end
theorem AfV{S:O8}(hm:PZ S)(res:Ad->Option AV)
  (h:∀ args r,res args=some r->∀(μ:Mu) (F:AP) (w:World) (us:AI),RepList μ F w args us->S us w λu w'=>Below w.heap.size w w'/\Rep μ (Ade F w w') w' r u) :
  CE S λargs bs=>match bs with
   |[]=>(res args).map λr=>(r,[])
   |_=>none:=by
 intro args bs r out hd
 cases bs with
 |cons=>cases hd
 |nil=>
  obtain⟨r',hr,he⟩:=Option.map_eq_some_iff.1 hd;obtain⟨rfl,rfl⟩:r'=r/\[]=out:=by simpa using he
  refine⟨ω _,0,ω _,λt _ μ F w KL us hKL hus hH hμ=>?_⟩;refine hm _ _ _ _ (h args r' hr μ F w us hus) λu w' ⟨hb,hu⟩=>?_
  refine⟨μ,Ade F w w',hu,?_,ON hH hb,E9 F hb,λ_ _=>rfl⟩;have:=Y6 hH hb;have e:(λb=>if b<t then([]:List ABlk)[b]? else look b KL)=λb=>if b<t then FJ [] [] b else look b KL:=by
   funext b
   by_cases hbt:b<t
   .rw[Ac hbt,Ac hbt]
    rfl
   .grind
  rw[←e];exact this
theorem U4{μ:Mu}{F:AP}{w:World}{s:ByteArray}{us:AI}(h:RepList μ F w [sv s] us):us=[.string s]:=by
 obtain⟨u,t,rfl,hu,ht⟩:=h;have hu:u=_/\_:=hu;have ht:t=[]:=ht;rw[hu.1,ht]
inductive Ki
 |b
 |i
 |j (kd:IntKind)
 |s
 |l
 |q (bb ee:Nat)
 |t
 |a
 |p (bb oo:Nat)
 |f (g:Nat)
 |c (u:Value)
 |x
 |B
 |I
 |J (kd:IntKind)
 |S
 |L
 |C
 |N
 |X
 |O
 |E
 |Y
 |T
 |R
 |D
 |K
 |A
 |P (bb oo:Nat)
 |Z
 |w
inductive It
 |v (x:AV)
 |l (x:Ad)
 |o (x:List BO)
 |c (x:BO)
abbrev Ct:List Ki->Type
 |[]=>KR
 |.b::r=>Bool->Ct r
 |.i::r=>Int->Ct r
 |.j _::r=>Int->Ct r
 |.s::r=>ByteArray->Ct r
 |.l::r=>List Ad->Ct r
 |.q _ _::r=>Nat->Ct r
 |.t::r=>Ct r
 |.a::r=>Ct r
 |.p _ _::r=>Ct r
 |.f _::r=>Ct r
 |.c _::r=>Ct r
 |.x::r=>AV->Ct r
 |.B::r=>Bool->Ct r
 |.I::r=>Int->Ct r
 |.J _::r=>Int->Ct r
 |.S::r=>ByteArray->Ct r
 |.L::r=>List Ad->Ct r
 |.C::r=>Ct r
 |.N::r=>Ct r
 |.X::r=>Ad->Ct r
 |.O::r=>Ct r
 |.E::r=>Ct r
 |.Y::r=>List BO->Ct r
 |.T::r=>Ct r
 |.R::r=>Ct r
 |.D::r=>Ct r
 |.K::r=>Ct r
 |.A::r=>Ct r
 |.P _ _::r=>Ct r
 |.Z::r=>BO->Ct r
 |.w::r=>Unit->Ct r
def itV(s:List It)(k:AV->List It->KR):KR:=match s with
 |.v x::r=>k x r
 |_=>none
def itL(s:List It)(k:Ad->List It->KR):KR:=match s with
 |.l x::r=>k x r
 |_=>none
def itO(s:List It)(k:List BO->List It->KR):KR:=match s with
 |.o x::r=>k x r
 |_=>none
def itC(s:List It)(k:BO->List It->KR):KR:=match s with
 |.c x::r=>k x r
 |_=>none
def dk:(p:List Ki)->List It->Ct p->KR
 |[],_,k=>k
 |.b::r,s,k=>itV s λx s=>Hz x λn=>dk r s (k n)
 |.i::r,s,k=>itV s λx s=>KD .i64 x λn=>dk r s (k n)
 |.j kd::r,s,k=>itV s λx s=>KD kd x λn=>dk r s (k n)
 |.s::r,s,k=>itV s λx s=>RJ x λn=>dk r s (k n)
 |.l::r,s,k=>itV s λx s=>NA x λn=>dk r s (k n)
 |.q bb ee::r,s,k=>itV s λx s=>Aaa bb ee x λn=>dk r s (k n)
 |.t::r,s,k=>itV s λx s=>Jr x λy=>dk r (.l y::s) k
 |.a::r,s,k=>itV s λx s=>KC x λy=>dk r (.l y::s) k
 |.p bb oo::r,s,k=>itV s λx s=>NB bb oo x<|dk r s k
 |.f g::r,s,k=>itV s λx s=>Ad3 g x<|dk r s k
 |.c u::r,s,k=>itV s λx s=>XV u x<|dk r s k
 |.x::r,s,k=>itV s λx s=>dk r s (k x)
 |.B::r,s,k=>itL s λx s=>JE x λn y=>dk r (.l y::s) (k n)
 |.I::r,s,k=>itL s λx s=>FU .i64 x λn y=>dk r (.l y::s) (k n)
 |.J kd::r,s,k=>itL s λx s=>FU kd x λn y=>dk r (.l y::s) (k n)
 |.S::r,s,k=>itL s λx s=>Pd x λn y=>dk r (.l y::s) (k n)
 |.L::r,s,k=>itL s λx s=>Pc x λn y=>dk r (.l y::s) (k n)
 |.C::r,s,k=>itL s λx s=>Ey x λz y=>dk r (.v z::.l y::s) k
 |.N::r,s,k=>itL s λx s=>Dp x<|dk r s k
 |.X::r,s,k=>itL s λx s=>dk r s (k x)
 |.O::r,s,k=>itO s λx s=>El x λz y=>dk r (.c z::.o y::s) k
 |.E::r,s,k=>itO s λx s=>CG x<|dk r s k
 |.Y::r,s,k=>itO s λx s=>dk r s (k x)
 |.T::r,s,k=>itO s λx s=>El x λc y=>E7 true false c λz=>dk r (.l z::.o y::s) k
 |.R::r,s,k=>itO s λx s=>El x λc y=>E7 true true c λz=>dk r (.l z::.o y::s) k
 |.D::r,s,k=>itO s λx s=>El x λc y=>TK c<|dk r (.o y::s) k
 |.K::r,s,k=>itO s λx s=>El x λc y=>Oq c<|dk r (.o y::s) k
 |.A::r,s,k=>itL s λx s=>Ey x λc y=>KC c λz=>dk r (.l z::.l y::s) k
 |.P bb oo::r,s,k=>itL s λx s=>Ey x λc y=>NB bb oo c<|dk r (.l y::s) k
 |.Z::r,s,k=>itC s λx s=>dk r s (k x)
 |.w::r,s,k=>dk r s (k ())
abbrev bk(cs:Ad):ABlk:=⟨cs,true,false⟩
abbrev Rw:=List Ad
abbrev Ag(D:Orc)(key:Key)(args:Ad)(bs:List ABlk)(p:List Ki)(k:Ct p):KR:=AN D key args bs λr o=>dk p [.v r,.o o] k
theorem DK:(∀(s:List It) (k:Ct []),dk [] s k=k)/\(∀(r:List Ki) (x:AV) (s:List It) (k:Ct (.b::r)),dk (.b::r) (.v x::s) k=Hz x λn=>dk r s (k n))/\(∀(r:List Ki) (x:AV) (s:List It) (k:Ct (.i::r)),dk (.i::r) (.v x::s) k=KD .i64 x λn=>dk r s (k n))/\(∀(kd:IntKind) (r:List Ki) (x:AV) (s:List It) (k:Ct (.j kd::r)),dk (.j kd::r) (.v x::s) k=KD kd x λn=>dk r s (k n))/\(∀(r:List Ki) (x:AV) (s:List It) (k:Ct (.s::r)),dk (.s::r) (.v x::s) k=RJ x λn=>dk r s (k n))/\(∀(r:List Ki) (x:AV) (s:List It) (k:Ct (.l::r)),dk (.l::r) (.v x::s) k=NA x λn=>dk r s (k n))/\(∀(bb ee:Nat) (r:List Ki) (x:AV) (s:List It) (k:Ct (.q bb ee::r)),dk (.q bb ee::r) (.v x::s) k=Aaa bb ee x λn=>dk r s (k n))/\(∀(r:List Ki) (x:AV) (s:List It) (k:Ct (.t::r)),dk (.t::r) (.v x::s) k=Jr x λy=>dk r (.l y::s) k)/\(∀(r:List Ki) (x:AV) (s:List It) (k:Ct (.a::r)),dk (.a::r) (.v x::s) k=KC x λy=>dk r (.l y::s) k)/\(∀(bb oo:Nat) (r:List Ki) (x:AV) (s:List It) (k:Ct (.p bb oo::r)),dk (.p bb oo::r) (.v x::s) k=NB bb oo x (dk r s k))/\(∀(g:Nat) (r:List Ki) (x:AV) (s:List It) (k:Ct (.f g::r)),dk (.f g::r) (.v x::s) k=Ad3 g x (dk r s k))/\(∀(u:Value) (r:List Ki) (x:AV) (s:List It) (k:Ct (.c u::r)),dk (.c u::r) (.v x::s) k=XV u x (dk r s k))/\(∀(r:List Ki) (x:AV) (s:List It) (k:Ct (.x::r)),dk (.x::r) (.v x::s) k=dk r s (k x))/\(∀(r:List Ki) (x:Ad) (s:List It) (k:Ct (.B::r)),dk (.B::r) (.l x::s) k=JE x λn y=>dk r (.l y::s) (k n))/\(∀(r:List Ki) (x:Ad) (s:List It) (k:Ct (.I::r)),dk (.I::r) (.l x::s) k=FU .i64 x λn y=>dk r (.l y::s) (k n))/\(∀(kd:IntKind) (r:List Ki) (x:Ad) (s:List It) (k:Ct (.J kd::r)),dk (.J kd::r) (.l x::s) k=FU kd x λn y=>dk r (.l y::s) (k n))/\(∀(r:List Ki) (x:Ad) (s:List It) (k:Ct (.S::r)),dk (.S::r) (.l x::s) k=Pd x λn y=>dk r (.l y::s) (k n))/\(∀(r:List Ki) (x:Ad) (s:List It) (k:Ct (.L::r)),dk (.L::r) (.l x::s) k=Pc x λn y=>dk r (.l y::s) (k n))/\(∀(r:List Ki) (x:Ad) (s:List It) (k:Ct (.C::r)),dk (.C::r) (.l x::s) k=Ey x λz y=>dk r (.v z::.l y::s) k)/\(∀(r:List Ki) (x:Ad) (s:List It) (k:Ct (.N::r)),dk (.N::r) (.l x::s) k=Dp x (dk r s k))/\(∀(r:List Ki) (x:Ad) (s:List It) (k:Ct (.X::r)),dk (.X::r) (.l x::s) k=dk r s (k x))/\(∀(r:List Ki) (x:List BO) (s:List It) (k:Ct (.O::r)),dk (.O::r) (.o x::s) k=El x λz y=>dk r (.c z::.o y::s) k)/\(∀(r:List Ki) (x:List BO) (s:List It) (k:Ct (.E::r)),dk (.E::r) (.o x::s) k=CG x (dk r s k))/\(∀(r:List Ki) (x:List BO) (s:List It) (k:Ct (.Y::r)),dk (.Y::r) (.o x::s) k=dk r s (k x))/\(∀(r:List Ki) (x:List BO) (s:List It) (k:Ct (.T::r)),dk (.T::r) (.o x::s) k=El x λc y=>E7 true false c λz=>dk r (.l z::.o y::s) k)/\(∀(r:List Ki) (x:List BO) (s:List It) (k:Ct (.R::r)),dk (.R::r) (.o x::s) k=El x λc y=>E7 true true c λz=>dk r (.l z::.o y::s) k)/\(∀(r:List Ki) (x:List BO) (s:List It) (k:Ct (.D::r)),dk (.D::r) (.o x::s) k=El x λc y=>TK c<|dk r (.o y::s) k)/\(∀(r:List Ki) (x:List BO) (s:List It) (k:Ct (.K::r)),dk (.K::r) (.o x::s) k=El x λc y=>Oq c<|dk r (.o y::s) k)/\(∀(r:List Ki) (x:Ad) (s:List It) (k:Ct (.A::r)),dk (.A::r) (.l x::s) k=Ey x λc y=>KC c λz=>dk r (.l z::.l y::s) k)/\(∀(bb oo:Nat) (r:List Ki) (x:Ad) (s:List It) (k:Ct (.P bb oo::r)),dk (.P bb oo::r) (.l x::s) k=Ey x λc y=>NB bb oo c<|dk r (.l y::s) k)/\(∀(r:List Ki) (x:BO) (s:List It) (k:Ct (.Z::r)),dk (.Z::r) (.c x::s) k=dk r s (k x))/\(∀(r:List Ki) (s:List It) (k:Ct (.w::r)),dk (.w::r) s k=dk r s (k ())):=by
 and_intros<;>intros<;>rfl
section
variable {D:Orc}
theorem AeJ(x y:KR):br true x y=x:=Eq.trans (b:=x) rfl (Eq.refl x)
theorem Af{x y z:KR}(g:x=z):br true x y=z:=(AeJ x y).trans g
theorem AeH(x y:KR):br false x y=y:=Eq.trans (b:=y) rfl (Eq.refl y)
theorem BF{x y z:KR}(g:y=z):br false x y=z:=(AeH x y).trans g
theorem FX(b:Bool)(x y:KR):br b x y=if b=true then x else y:=by cases b<;>rfl
theorem AD(n:Nat)(k:Nat->KR):unI (n:Int) k=k n:=rfl
theorem Im{α:Type}(f:α->Ad)(xs:List α)(i:Nat)(k:Ad->KR):Bt (xs.map f) i k=match xs[i]? with
  |some x=>k (f x)
  |none=>none:=by
 unfold Bt;rw[UU,List.getElem?_map]
 cases xs[i]?<;>rfl
theorem AA{α:Type}{f:α->Ad}{xs:List α}{i:Nat}{x:α}(h:xs[i]? = some x)(k:Ad->KR):Bt (xs.map f) i k=k (f x):=by
 rw[Im,h]
theorem Al{α:Type}(f:α->Ad)(xs:List α):AU (xs.map f)=xs.length:=by rw[IX,Aw0]
theorem MB{key:Key}{args:Ad}{bs:List ABlk}{r:AV}{o:List BO}(h:D.ask key args bs=some (r,o))(k:AV->List BO->KR):AN D key args bs k=k r o:=by
 unfold AN;rw[h]
theorem Aa{D:Orc}{key:Key}{args:Ad}{bs:List ABlk}{r:AV}{o:List BO}{z:KR}{k:AV->List BO->KR}(h:D.ask key args bs=some (r,o))(g:k r o=z):AN D key args bs k=z:=(MB h k).trans g
theorem AiL(n:Int)(k:Int->KR):KD .i64 (iv n) k=k n:=rfl
theorem Ad0(n:Bool)(k:Bool->KR):Hz (bv n) k=k n:=rfl
theorem AiM(n:ByteArray)(k:ByteArray->KR):RJ (sv n) k=k n:=rfl
theorem Alk(n:Rw)(k:Rw->KR):NA (.ls n) k=k n:=rfl
theorem AdZ(n:Ad)(k:Ad->KR):KC (.agg n) k=k n:=rfl
theorem Ad7(n:Ad)(k:Ad->KR):Jr (.tup n) k=k n:=rfl
theorem Ajk(n:Int)(r:Ad)(k:Int->Ad->KR):FU .i64 (iv n::r) k=k n r:=rfl
theorem AeK(n:Bool)(r:Ad)(k:Bool->Ad->KR):JE (bv n::r) k=k n r:=rfl
theorem Ajl(n:ByteArray)(r:Ad)(k:ByteArray->Ad->KR):Pd (sv n::r) k=k n r:=rfl
theorem Ao9(n:Rw)(r:Ad)(k:Rw->Ad->KR):Pc (.ls n::r) k=k n r:=rfl
theorem Ad4(k:KR):Dp [] k=k:=rfl
theorem XU(c:AV)(r:Ad)(k:AV->Ad->KR):Ey (c::r) k=k c r:=rfl
theorem Ad2(k:KR):CG [] k=k:=rfl
theorem Z9(c:BO)(r:List BO)(k:BO->List BO->KR):El (c::r) k=k c r:=rfl
theorem XW(k:KR):Oq .keep k=k:=rfl
theorem Ad1(k:KR):TK .del k=k:=rfl
theorem Ad6(st ex:Bool)(cs:Ad)(k:Ad->KR):E7 st ex (.set ⟨cs,st,ex⟩) k=k cs:=by
 unfold E7;exact Ac ⟨rfl,rfl⟩
theorem Alj(f:Nat)(k:KR):Ad3 f (.fn (.func f) [] []) k=k:=by simp[Ad3]
theorem Ad5(b o:Nat)(k:KR):NB b o (.ptr b o) k=k:=by simp[NB]
theorem All(b e n:Nat)(k:Nat->KR):Aaa b e (.sl b 0 n e) k=k n:=by simp[Aaa]
theorem Atv:Bf 0 (bv true)=true:=rfl
theorem Atu(n:Int):Bf 0 (iv n)=false:=rfl
theorem Att:Bf 1 (iv 0)=true:=rfl
theorem ND:(∀(n:Int) (k:Int->KR),KD .i64 (iv n) k=k n)/\(∀(n:Bool) (k:Bool->KR),Hz (bv n) k=k n)/\(∀(n:ByteArray) (k:ByteArray->KR),RJ (sv n) k=k n)/\(∀(n:Rw) (k:Rw->KR),NA (.ls n) k=k n)/\(∀(n:Ad) (k:Ad->KR),KC (.agg n) k=k n)/\(∀(n:Ad) (k:Ad->KR),Jr (.tup n) k=k n)/\(∀(n:Int) (r:Ad) (k:Int->Ad->KR),FU .i64 (iv n::r) k=k n r)/\(∀(n:Bool) (r:Ad) (k:Bool->Ad->KR),JE (bv n::r) k=k n r)/\(∀(n:ByteArray) (r:Ad) (k:ByteArray->Ad->KR),Pd (sv n::r) k=k n r)/\(∀(n:Rw) (r:Ad) (k:Rw->Ad->KR),Pc (.ls n::r) k=k n r)/\(∀(k:KR),Dp [] k=k)/\(∀(c:AV) (r:Ad) (k:AV->Ad->KR),Ey (c::r) k=k c r)/\(∀(k:KR),CG [] k=k)/\(∀(c:BO) (r:List BO) (k:BO->List BO->KR),El (c::r) k=k c r)/\(∀(st ex:Bool) (cs:Ad) (k:Ad->KR),E7 st ex (.set ⟨cs,st,ex⟩) k=k cs)/\(∀(k:KR),TK .del k=k)/\(∀(k:KR),Oq .keep k=k)/\(∀(b o:Nat) (k:KR),NB b o (.ptr b o) k=k)/\(∀(b e n:Nat) (k:Nat->KR),Aaa b e (.sl b 0 n e) k=k n)/\(Bf 0 (bv true)=true)/\(∀(n:Int),Bf 0 (iv n)=false)/\(Bf 1 (iv 0)=true)/\(∀(x y:KR),br true x y=x)/\(∀(x y:KR),br false x y=y):=⟨AiL,Ad0,AiM,Alk,AdZ,Ad7,Ajk,AeK,Ajl,Ao9,Ad4,XU,Ad2,Z9,Ad6,Ad1,XW,Ad5,All,Atv,Atu,Att,AeJ,AeH⟩
def Ae:=And.intro ND (And.intro DK Alj)
end
instance:LawfulBEq ByteArray where
 eq_of_beq {a b} h:=by
  obtain⟨a⟩:=a;obtain⟨b⟩:=b;rw[KK]at h;simpa using h
 rfl {a}:=by
  rw[KK];simp
section
theorem Lh(a b:Int):Ak.lt a b=decide (a<b):=rfl
theorem Po(a b:Int):Ak.le a b=decide (a<=b):=rfl
theorem F9(a b:Int):Ak.eq a b=decide (a=b):=by
 show (a == b)=decide (a=b)
 rfl
theorem GJ(a b:ByteArray):Ak.seq a b=decide (a=b):=by
 show (a.toList == b.toList)=_
 rw[VH,KK];obtain⟨a⟩:=a;obtain⟨b⟩:=b
 by_cases h:a=b
 .subst h;simp
 .simp[h]
theorem AhG(b:Bool):Ak.not b = !b:=rfl
theorem In(a b:Bool):Ak.beq a b=(a == b):=rfl
theorem ci0(n:Nat):((n:Int)=0)=(n=0):=propext (by omega)
theorem ci1(n:Nat):((n:Int)=1)=(n=1):=propext (by omega)
theorem ci2(n:Nat):((n:Int)=2)=(n=2):=propext (by omega)
theorem ci3(n:Nat):((n:Int)=3)=(n=3):=propext (by omega)
theorem ci4(n:Nat):((n:Int)=4)=(n=4):=propext (by omega)
theorem ci5(n:Nat):((n:Int)=5)=(n=5):=propext (by omega)
theorem ci6(n:Nat):((n:Int)=6)=(n=6):=propext (by omega)
theorem AsW(a b:Int):Ak.max a b=max a b:=by
 show (if a<b then b else a)=_
 omega
theorem AoD(a b:Int):Ak.min a b=min a b:=by
 show (if b<a then b else a)=_
 omega
theorem BW(s:ByteArray):Ak.slen s=s.size:=rfl
theorem Hf(a b:ByteArray):Ak.cat a b=a++b:=rfl
theorem J8{a b:Int}(h1:-9223372036854775808<=a+b)(h2:a+b<9223372036854775808):Ak.add .i64 a b=a+b:=by
 show IntKind.i64.wrap (a+b)=a+b
 rw[IntKind.wrap_i64];omega
theorem Ip{a b:Int}(h1:-9223372036854775808<=a-b)(h2:a-b<9223372036854775808):Ak.sub .i64 a b=a-b:=by
 show IntKind.i64.wrap (a-b)=a-b
 rw[IntKind.wrap_i64];omega
theorem Bv{i:Nat}(h:i<4611686018427387904):Ak.add .i64 (i:Int) 1=((i+1:Nat):Int):=by
 grind [J8]
end
section
variable {α:Type}
def Av(e:α->Ad)(l:List α):Ad:=l.flatMap e
theorem A8(e:α->Ad)(l:List α)(x:α):Av e l++e x=Av e (l++[x]):=by simp[Av]
theorem BK{e:α->Ad}{w:Nat}(he:∀ x,(e x).length=w):∀ l:List α,(Av e l).length=l.length*w
 |[]=>by simp[Av]
 |x::r=>by
  have:=BK he r;unfold Av at this ⊢;rw[List.flatMap_cons,ζ,this,he,π,Nat.add_mul,Nat.one_mul,Nat.add_comm]
theorem A9{e:α->Ad}{w:Nat}(he:∀ x,(e x).length=w)(l:List α){n:Nat}(hn:n=l.length*w):(Av e l).take n=Av e l:=by
 simp_all [Axy,ω,BK]
theorem DG{e:α->Ad}{w:Nat}(he:∀ x,(e x).length=w):∀ l:List α,By l.length w (Av e l)=l.map e
 |[]=>rfl
 |x::r=>by
  have ih:=DG he r;simp only[π,By,AwP];have h1:Av e (x::r)=e x++Av e r:=by simp[Av]
  have h2:(e x).length=w:=he x;rw[h1,List.take_append_of_le_length (by omega),Axy (by omega),List.drop_append_of_le_length (by omega),List.drop_of_length_le (by omega),AwC,ih]
theorem BQ{e:α->Ad}{w:Nat}(he:∀ x,(e x).length=w)(l:List α){n:Nat}(hn:n=l.length):By n w ((Av e l).take (n*w))=l.map e:=by
 grind [DG,A9]
theorem AJ{e:α->Ad}{w:Nat}(he:∀ x,(e x).length=w)(l:List α){n:Nat}(hn:n=l.length*w):Aww n (Av e l).length=true:=by
 rw[BK he,hn];simp
theorem Na{e:α->Ad}(he:∀ x,M9 (e x)=true):∀ l:List α,M9 (Av e l)=true
 |[]=>rfl
 |x::r=>by
  have ih:=Na he r;have h1:Av e (x::r)=e x++Av e r:=by simp[Av]
  rw[h1];rw[I2]at ih ⊢;rw[List.all_append,ih,Ayl,←I2];exact he x
theorem Gu(e:α->Ad)(l:List α):LS (l.map e)=Av e l:=by
 rw[MJ];rfl
theorem IE{e:α->Ad}{w:Nat}(he:∀ x,(e x).length=w)(l:List α):Hk w (l.map e)=true:=by
 rw[KG];simp[he]
theorem AL{n b:Nat}(hn:n<=1099511627776)(hb:b<=128):Bh n b=true:=by
 unfold Bh;have:n*b<=1099511627776*128:=Nat.mul_le_mul hn hb;have h1:Aww (n*b) 140737488355328=true:=by simp;omega
 rw[h1];simp[maxLen];omega
end
def D6(c:UInt8):Bool:=decide (97<=c.toNat)&&decide (c.toNat<=122)
def BE(c:UInt8):Bool:=decide (48<=c.toNat)&&decide (c.toNat<=57)
def EL(c:UInt8):Bool:=D6 c||BE c||(c.toNat == 95)
def Ho(c:UInt8):Bool:=[88,71,70,85,82].contains c.toNat
def DD(p:UInt8->Bool):List UInt8->Nat
 |[]=>0
 |c::l=>if p c then DD p l+1 else 0
def Ei:Bool->List UInt8->Nat
 |_,[]=>0
 |r,c::l=>if c.toNat=10 then Ei false l+1 else if r then Ei true l+1 else if c.toNat=35 then Ei true l+1 else if c.toNat=32\/c.toNat=9 then Ei false l+1 else 0
def NH(p:Nat × Nat)(c:UInt8):Nat × Nat:=if c.toNat=10 then(p.1+1,1) else(p.1,p.2+1)
def adv(p:Nat × Nat)(l:List UInt8):Nat × Nat:=l.foldl NH p
def Iy:List (List UInt8):=[[45,62],[58,61],[33,61],[60,61],[62,61],[46,46],[40],[41],[44],[59],[58],[46],[43],[42],[38],[124],[33],[64],[61],[60],[62],[47],[45]]
def Cc(l:List UInt8):Nat:=match Iy.find? (·.isPrefixOf l) with|some x=>x.length|none=>0
inductive Tok1
 |fin
 |err (e:Nat)
 |tok (kind n:Nat)
 deriving DecidableEq
def Dr:List UInt8->Tok1
 |[]=>.fin
 |c::l=>
  if D6 c then(if 20<DD EL (c::l) then .err 2 else .tok 1 (DD EL (c::l)))
  else if BE c then(if 60<DD BE (c::l) then .err 2 else if 1<DD BE (c::l)/\c.toNat=48 then .err 20 else .tok 3 (DD BE (c::l)))
  else if Ho c then .tok 4 1
  else if Cc (c::l)=0 then .err 100 else .tok 2 (Cc (c::l))
theorem BG(c:UInt8)(l:List UInt8):Dr (c::l) =
  if D6 c then(if 20<DD EL (c::l) then .err 2 else .tok 1 (DD EL (c::l)))
  else if BE c then(if 60<DD BE (c::l) then .err 2 else if 1<DD BE (c::l)/\c.toNat=48 then .err 20 else .tok 3 (DD BE (c::l)))
  else if Ho c then .tok 4 1
  else if Cc (c::l)=0 then .err 100 else .tok 2 (Cc (c::l)):=rfl
def DZ(l:List UInt8):Bool:=!l.isEmpty&&decide (l.length<=60)&&!(decide (1<l.length)&&(l.getD 0 0).toNat == 48)&&l.all BE
def GR(l:List UInt8):Bool:=!l.isEmpty&&decide (l.length<=20)&&D6 (l.getD 0 0)&&l.all EL
def Aqe:List (List UInt8):=[[116,114,117,101],[102,97,108,115,101],[118,97,114],[105,110],[105,110,105,116],[112,114,111,99],[108,111,99],[101,110,100]]
def AkP(l:List UInt8):Bool:=Aqe.contains l
def Ce(l:List UInt8):Bool:=GR l&&!AkP l
structure Tk where
 kind:Nat
 text:List UInt8
 ln:Nat
 co:Nat
 deriving DecidableEq
inductive LexR
 |ok (ts:List Tk)
 |err (e ln co:Nat)
 deriving DecidableEq
def LexR.more(t:Tk):LexR->LexR
 |.ok ts=>.ok (t::ts)
 |.err e ln co=>.err e ln co
theorem PP(p:UInt8->Bool):∀ l:List UInt8,DD p l<=l.length
 |[]=>ω _
 |c::l=>by
  unfold DD;have:=PP p l;split
  .simp;omega
  .simp
theorem Y0:∀(r:Bool) (l:List UInt8),Ei r l<=l.length
 |_,[]=>ω _
 |r,c::l=>by
  have h1:=Y0 true l;have h2:=Y0 false l;unfold Ei;rw[π]
  repeat' split
  all_goals omega
theorem Tw(l:List UInt8):Cc l<=l.length:=by
 unfold Cc;split
 .rename_i x h
  have:=List.find?_some h;exact(List.isPrefixOf_iff_prefix.1 this).length_le
 .omega
theorem EX{l:List UInt8}{k n:Nat}(h:Dr l=.tok k n):0<n/\n<=l.length:=by
 cases l with
 |nil=>simp[Dr]at h
 |cons c l=>
  have h1:=PP EL (c::l);have h2:=PP BE (c::l);have h3:=Tw (c::l);rw[BG]at h;split at h
  .rename_i hc
   have h4:0<DD EL (c::l):=by unfold DD;rw[Ac (by simp[EL,hc])];omega
   split at h
   .simp at h
   .simp at h;omega
  split at h
  .rename_i hc
   have h4:0<DD BE (c::l):=by unfold DD;rw[Ac hc];omega
   split at h
   .simp at h
   .split at h
    .simp at h
    .simp at h;omega
  split at h
  .simp at h
   rw[π];omega
  split at h
  .simp at h
  .simp at h;omega
def GX(l:List UInt8)(p:Nat × Nat):LexR:=
 let k:=Ei false l
 let q:=adv p (l.take k)
 match _h:Dr (l.drop k) with
 |.fin=>.ok [⟨5,[],q.1,q.2⟩]
 |.err e=>.err e q.1 q.2
 |.tok kind n=>(GX (l.drop (k+n)) (adv q ((l.drop k).take n))).more ⟨kind,(l.drop k).take n,q.1,q.2⟩
termination_by l.length
decreasing_by
 have h1:=EX _h;rw[List.length_drop]at h1 ⊢;omega
def BV(s:List UInt8):LexR:=if 16384<s.length then .err 2 1 1 else GX s (1,1)
theorem CU(l:List UInt8)(p:Nat × Nat):GX l p=match Dr (l.drop (Ei false l)) with
  |.fin=>.ok [⟨5,[],(adv p (l.take (Ei false l))).1,(adv p (l.take (Ei false l))).2⟩]
  |.err e=>.err e (adv p (l.take (Ei false l))).1 (adv p (l.take (Ei false l))).2
  |.tok kind n=>(GX (l.drop (Ei false l+n)) (adv (adv p (l.take (Ei false l))) ((l.drop (Ei false l)).take n))).more ⟨kind,(l.drop (Ei false l)).take n,(adv p (l.take (Ei false l))).1,(adv p (l.take (Ei false l))).2⟩:=by
 rw[GX];split<;>rename_i h<;>simp only[h]
section
open Go.RowKit
def eS(s:ByteArray):Ad:=[sv s]
def NT(t:Tk):Ad:=[iv t.kind,sv (Ai t.text),iv t.ln,iv t.co]
theorem HW{a b:List UInt8}:Ai a=Ai b ↔ a=b:=by
 unfold Ai;constructor
 .intro h
  simpa using h
 .intro h;rw[h]
structure Mo where
 neg:Bool
 num:ByteArray
 var:ByteArray
def FZ(m:Mo):Ad:=[bv m.neg,sv m.num,sv m.var]
inductive Tr where
 |mk (kind:Int) (l r:List Mo) (op:Int) (proc loc:ByteArray) (kids:List Tr)
mutual
def BR:Tr->Ad
 |.mk k l r op p q ks=>[iv k,.ls (l.map FZ),.ls (r.map FZ),iv op,sv p,sv q,.ls (Ur ks)]
def Ur:List Tr->Rw
 |[]=>[]
 |x::r=>BR x::Ur r
end
theorem CP:∀ l,Ur l=l.map BR
 |[]=>rfl
 |x::r=>by simp[Ur,CP r]
def T0:Tr:=.mk 0 [] [] 0 (Ai []) (Ai []) []
def nx(ts:List Tk)(i:Nat):Tk:=match ts[i]? with
 |some t=>t
 |none=>ts.getLastD ⟨5,[],0,0⟩
def isT(ts:List Tk)(i:Nat)(s:List UInt8):Bool:=decide ((nx ts i).text=s)&&(decide ((nx ts i).kind=1)||decide ((nx ts i).kind=2)||decide ((nx ts i).kind=4))
def isN(ts:List Tk)(i:Nat):Bool:=decide ((nx ts i).kind=1)&&Ce (nx ts i).text
section
variable (ts:List Tk) (vars:List ByteArray) (kn:Bool)
def GQ(i:Nat):Nat × Nat × ByteArray:=if isN ts i=false then(i,101,Ai []) else if kn=true/\Ai (nx ts i).text∉vars then(i,110,Ai []) else(i+1,0,Ai (nx ts i).text)
def A3(i:Nat)(neg:Bool):Nat × Nat × Mo:=
 if(nx ts i).kind=3 then(if isT ts (i+1) [42] then((GQ ts vars kn (i+2)).1,(GQ ts vars kn (i+2)).2.1,⟨neg,Ai (nx ts i).text,(GQ ts vars kn (i+2)).2.2⟩)
  else(i+1,0,⟨neg,Ai (nx ts i).text,Ai []⟩))
 else((GQ ts vars kn i).1,(GQ ts vars kn i).2.1,⟨neg,Ai [],(GQ ts vars kn i).2.2⟩)
def Pb(i:Nat):Bool:=decide ((nx ts i).kind=3)||isN ts i
def EU:Nat->List Mo->Bool->Nat->Nat × Nat × List Mo
 |k,out,neg,i=>if Pb ts i=false then(i,101,[]) else match k with
  |0=>(i,3,[])
  |k+1=>if(A3 ts vars kn i neg).2.1≠0 then((A3 ts vars kn i neg).1,(A3 ts vars kn i neg).2.1,[])
   else if isT ts (A3 ts vars kn i neg).1 [45] then EU k (out++[(A3 ts vars kn i neg).2.2]) true ((A3 ts vars kn i neg).1+1)
   else if isT ts (A3 ts vars kn i neg).1 [43] then EU k (out++[(A3 ts vars kn i neg).2.2]) false ((A3 ts vars kn i neg).1+1)
   else((A3 ts vars kn i neg).1,0,out++[(A3 ts vars kn i neg).2.2])
def Dk(i:Nat):Nat × Nat × List Mo:=if isT ts i [45] then EU ts vars kn 64 [] true (i+1) else EU ts vars kn 64 [] false i
def E2:List (List UInt8):=[[61],[33,61],[60],[60,61],[62],[62,61]]
def opP(i:Nat):Option Nat:=E2.findIdx? (isT ts i)
def JH(i:Nat):Nat × Nat × Tr:=
 if(Dk ts vars kn i).2.1≠0 then((Dk ts vars kn i).1,(Dk ts vars kn i).2.1,T0) else match opP ts (Dk ts vars kn i).1 with
  |none=>((Dk ts vars kn i).1,101,T0)
  |some op=>if(Dk ts vars kn ((Dk ts vars kn i).1+1)).2.1≠0 then((Dk ts vars kn ((Dk ts vars kn i).1+1)).1,(Dk ts vars kn ((Dk ts vars kn i).1+1)).2.1,T0)
   else((Dk ts vars kn ((Dk ts vars kn i).1+1)).1,0,.mk 2 (Dk ts vars kn i).2.2 (Dk ts vars kn ((Dk ts vars kn i).1+1)).2.2 op (Ai []) (Ai []) [])
inductive Jb where
 |one
 |both
 |bothL (x:Tr)
 |cond
 |condL (x:Tr)
def JL(q:Nat × Nat × Tr):Nat × Nat × Tr:=(q.1,q.2.1,T0)
def Br(q:Nat × Nat × Tr)(k:Nat->Tr->Nat × Nat × Tr):Nat × Nat × Tr:=if q.2.1=0 then k q.1 q.2.2 else JL q
def Ya:Nat->Jb->Nat->Nat->Nat × Nat × Tr
 |0,_,i,_=>(i,999,T0)
 |n+1,.one,i,d=>
  if(isT ts i [33]||isT ts i [40])=true/\d=60 then(i,102,T0)
  else if isT ts i [116,114,117,101] then(i+1,0,.mk 0 [] [] 0 (Ai []) (Ai []) [])
  else if isT ts i [102,97,108,115,101] then(i+1,0,.mk 1 [] [] 0 (Ai []) (Ai []) [])
  else if isT ts i [33] then Br (Ya n .one (i+1) (d+1)) λj x=>(j,0,.mk 3 [] [] 0 (Ai []) (Ai []) [x])
  else if isT ts i [40] then Br (Ya n .cond (i+1) (d+1)) λj x=>if isT ts j [41] then(j+1,0,x) else(j,101,T0)
  else JH ts vars kn i
 |n+1,.both,i,d=>Br (Ya n .one i d) λj x=>Ya n (.bothL x) j d
 |n+1,.bothL x,i,d=>if isT ts i [38] then Br (Ya n .one (i+1) d) λj y=>Ya n (.bothL (.mk 4 [] [] 0 (Ai []) (Ai []) [x,y])) j d else(i,0,x)
 |n+1,.cond,i,d=>Br (Ya n .both i d) λj x=>Ya n (.condL x) j d
 |n+1,.condL x,i,d=>if isT ts i [124] then Br (Ya n .both (i+1) d) λj y=>Ya n (.condL (.mk 5 [] [] 0 (Ai []) (Ai []) [x,y])) j d else(i,0,x)
def BH(i:Nat):ABlk:=θ [.ls (ts.map NT),iv (i:Int),.ls (vars.map eS),bv kn] true false
end
end
def tkV(t:Tk):AI:=[.int .i64 t.kind,.string ⟨t.text.toArray⟩,.int .i64 t.ln,.int .i64 t.co]
theorem Ahc(ts:List Tk):J1 (ts.map NT)=true:=by
 unfold J1;rw[List.all_map];refine Awu.2 λt _=>?_
 rfl
theorem Oc{μ:Mu}{F:AP}{w:World}(n:Int):Rep μ F w (iv n) (.int .i64 n):=by
 unfold iv Rep;exact⟨rfl,rfl⟩
theorem Rg{μ:Mu}{F:AP}{w:World}(s:ByteArray):Rep μ F w (sv s) (.string s):=by
 unfold sv Rep;exact⟨rfl,rfl⟩
theorem ZS{μ:Mu}{F:AP}{w:World}(b:Bool):Rep μ F w (bv b) (.bool b):=by
 unfold bv Rep;exact⟨rfl,rfl⟩
theorem Xw{μ:Mu}{F:AP}{w:World}{g:Nat}(hF:∀ o,F g o):∀(ts:List Tk) (o:Nat),(∀ j,j<ts.length*4->w.cell? ⟨g,o+j,none⟩=((ts.map tkV).flatten)[j]?)->RepRows μ F w g 4 (ts.map NT) o
 |[],o,_=>by
  simp only[List.map_nil,RepRows]
 |t::r,o,h=>by
  have hc:∀ j,j<4->w.cell? ⟨g,o+j,none⟩=(tkV t)[j]?:=λj hj=>by
   rw[h j (by simp;omega),AwP,Axi,List.getElem?_append_left (by simp[tkV];omega)]
  have hr:=Xw (μ:=μ) hF r (o+4) (λj hj=>by
   have:=h (4+j) (by simp;omega);rw[AwP,Axi,List.getElem?_append_right (by simp[tkV])]at this;rw[Nat.add_assoc,this]
   congr 1
   simp[tkV])
  simp only[AwP,RepRows];refine⟨rfl,?_,hr⟩;simp only[NT,RepAt];exact⟨⟨hF _,_,(hc 0 (by omega)).trans rfl,Oc _⟩,⟨hF _,_,(hc 1 (by omega)).trans rfl,Rg _⟩,⟨hF _,_,(hc 2 (by omega)).trans rfl,Oc _⟩,⟨hF _,_,(hc 3 (by omega)).trans rfl,Oc _⟩,trivial⟩
theorem AkO{μ:Mu}{F:AP}{w w':World}{e:TypeId}{v:Value}{ts:List Tk}(ho:w'.ownsRow w.heap.size e 4 v ts.length ((ts.map tkV).flatten)):Rep μ (Ade F w w') w' (.ls (ts.map NT)) v:=by
 have h2:=ho.2;unfold Rep;refine⟨Ahc ts,?_⟩;rw[Aw0];rcases h2 with⟨rfl,h0⟩|⟨g,cap,cur,rfl,hb,hg,hn,hc,_⟩
 .have:ts=[]:=List.length_eq_zero_iff.1 h0
  subst this;exact⟨none,0,rfl,ω _,Axb _,λh=>absurd rfl h⟩
 .have hlt:g<w'.heap.size:=by
   by_cases h:g<w'.heap.size
   .exact h
   .rw[Array.getElem?_eq_none (by omega)]at hg;cases hg
  refine⟨some ⟨g,0,none⟩,cap,rfl,hn,hc,λ_=>⟨g,0,4,rfl,?_⟩⟩;exact Xw (λo=>.inr ⟨hb,hlt⟩) ts 0 (λj hj=>by rw[AwJ];exact ho.cellAt j hj)
theorem NR{P:Program}{ents:Nat}{M:Seat}(hM:SeatOk P ents M){f:Nat}{args:Ad}{r:AV}(h:(BJ Ak M).ask (.fn f) args []=some (r,[]))(w:World)(us:AI)
  (hus:RepList (λ_=>none) (λg _=>g<w.heap.size) w args us) :
  Calls P f us.toArray w λe w'=>∃ u,e=.returned u/\Below w.heap.size w w'/\∃ μ' F',Rep μ' F' w' r u:=by
 obtain⟨_,t0,ht,g⟩:=Fp hM f args [] r [] h;have hH:HRep (λ_=>none) (λg _=>g<w.heap.size) w (λb=>if b<t0 then([]:List ABlk)[b]? else look b []):=by
  have e:∀ b,(if b<t0 then([]:List ABlk)[b]? else look b [])=none:=λb=>by split<;>rfl
  refine⟨λb k hb=>?_,λb b' k k' p p' _ hb=>?_,λg o hg=>hg⟩
  .rw[e]at hb;cases hb
  .rw[e]at hb;cases hb
 have:=g t0 (ω _) (λ_=>none) (λg _=>g<w.heap.size) w [] us (by simp) hus hH (λ_ _ _=>rfl);refine Calls.mono this ?_;rintro e w' ⟨u,rfl,μ',F',h1,_,_,h4,_⟩;exact⟨u,rfl,h4.below (ω _) (λg o hg=>hg),μ',F',h1⟩
section
variable {μ μ':Mu} {F:AP} {w:World}
mutual
theorem Rep.plain:∀(x:AV) (u:Value),x.noid=true->Rep μ F w x u->Rep μ' (λg _=>g<w.heap.size) w x u
 |.v x,u,_,hx=>by simpa only[Rep]using hx
 |.ptr b o,u,h,hx=>by simp[AV.noid]at h
 |.sl b o n e,u,h,hx=>by simp[AV.noid]at h
 |.ls xs,u,_,hx=>by
  simp only[Rep]at hx ⊢;obtain⟨h0,A,c,h1,h2,h3,h4⟩:=hx;refine⟨h0,A,c,h1,h2,h3,λhne=>?_⟩;obtain⟨g,o,e,hA,hr⟩:=h4 hne;exact⟨g,o,e,hA,RepRows.plain g e xs o h0 hr⟩
 |.lp cs,u,_,hx=>by
  simp only[Rep]at hx ⊢;obtain⟨h0,g,o,h1,h2⟩:=hx;exact⟨h0,g,o,h1,RepAt.plain g cs o h0 h2⟩
 |.agg cs,u,h,hx=>by
  simp only[Rep]at hx ⊢;obtain⟨us,h1,h2⟩:=hx;exact⟨us,h1,RepList.plain cs _ (by simpa only[AV.noid]using h) h2⟩
 |.tup cs,u,h,hx=>by
  simp only[Rep]at hx ⊢;obtain⟨us,h1,h2⟩:=hx;exact⟨us,h1,RepList.plain cs _ (by simpa only[AV.noid]using h) h2⟩
 |.fn f a c,u,h,hx=>by
  simp only[Rep]at hx ⊢;simp only[AV.noid,η]at h;obtain⟨ua,uc,h1,h2,h3⟩:=hx;exact⟨ua,uc,h1,RepList.plain a _ h.1 h2,RepList.plain c _ h.2 h3⟩
 |.any,_,_,_=>by simp only[Rep]
theorem RepRows.plain(g e:Nat):∀(xs:Rw) (o:Nat),J1 xs=true->RepRows μ F w g e xs o->RepRows μ' (λg _=>g<w.heap.size) w g e xs o
 |[],_,_,_=>by simp only[RepRows]
 |x::r,o,h,hx=>by
  simp only[RepRows]at hx ⊢;unfold J1 at h;rw[Axn,η]at h;exact⟨hx.1,RepAt.plain g x o h.1 hx.2.1,RepRows.plain g e r _ h.2 hx.2.2⟩
theorem RepAt.plain(g:Nat):∀(xs:Ad) (o:Nat),A4 xs=true->RepAt μ F w g xs o->RepAt μ' (λg _=>g<w.heap.size) w g xs o
 |[],_,_,_=>by simp only[RepAt]
 |x::r,o,h,hx=>by
  simp only[RepAt]at hx ⊢;simp only[A4,η]at h;obtain⟨⟨h1,u,h2,h3⟩,h4⟩:=hx;exact⟨⟨En h2,u,h2,Rep.plain x u h.1 h3⟩,RepAt.plain g r _ h.2 h4⟩
theorem RepList.plain:∀(xs:Ad) (us:AI),A4 xs=true->RepList μ F w xs us->RepList μ' (λg _=>g<w.heap.size) w xs us
 |[],us,_,hx=>by simpa only[RepList]using hx
 |x::r,us,h,hx=>by
  simp only[RepList]at hx ⊢;simp only[A4,η]at h;obtain⟨u,t,h1,h2,h3⟩:=hx;exact⟨u,t,h1,Rep.plain x u h.1 h2,RepList.plain r t h.2 h3⟩
end
end
theorem Adv{w w':World}{x:AV}{u:Value}(hx:Rep (λ_=>none) (λg _=>g<w.heap.size) w x u)(h:Below w.heap.size w w'):Rep (λ_=>none) (λg _=>g<w'.heap.size) w' x u:=
 hx.later ⟨λ_ _ h=>h,λg o hg=>⟨Axs hg h.size,h.cell (p:=⟨g,o,none⟩) hg⟩⟩
def DY:Ad->Option AV
 |[.v (.string s)]=>if s.size<=9223372036854775807 then some (bv (Ce s.data.toList)) else none
 |_=>none
def Mm:Ad->Option AV
 |[.v (.string s)]=>if s.size<=9223372036854775807 then(match BV s.data.toList with
  |.ok ts=>some (.tup [.ls (ts.map NT),.agg [iv 0,iv 0],iv 0])
  |.err c ln co=>some (.tup [.ls [],.agg [iv (ln:Int),iv (co:Int)],iv (c:Int)])) else none
 |_=>none
def DP(res:Ad->Option AV):DF:=λargs bs=>match bs with
 |[]=>(res args).map λr=>(r,[])
 |_=>none
def CM:Ad->Option AV
 |[.v (.string s)]=>if s.size<=9223372036854775807 then some (bv (DZ s.data.toList)) else none
 |_=>none
def PV(P:Program)(ents:Nat):List (Nat × MFn)->Prop
 |[]=>True
 |p::r=>(∃ hs a b,p.2=IZ P ents hs a b p.1)/\Ahm P p.1=true/\PV P ents r
theorem Sf{P:Program}{ents:Nat}:∀{L:List (Nat × MFn)},PV P ents L->∀ f mf,(f,mf)∈L->FnOk P ents f mf
 |p::r,⟨⟨hs,a,b,h1⟩,h2,h3⟩,f,mf,hm=>by
  rcases Awt.1 hm with rfl|hm
  .have h1:mf=_:=h1
   rw[h1];exact AjJ h2
  .exact Sf h3 f mf hm
theorem Se{P:Program}{ents:Nat}:∀{L L':List (Nat × MFn)},PV P ents L->PV P ents L'->PV P ents (L++L')
 |[],_,_,h=>h
 |_::_,_,⟨h1,h2,h3⟩,h=>⟨h1,h2,Se h3 h⟩
def Afz(P:Program)(ents n:Nat):Bool:=Axu ents (2 ^ n)&&(List.range n).all λg=>!ents.testBit g||H9 P g
theorem AfA{P:Program}{ents n:Nat}(h:Afz P ents n=true):Lm P ents:=by
 unfold Afz at h;rw[η]at h;intro g hg;have hn:ents<2 ^ n:=Nat.blt_eq.mp h.1
 by_cases hgn:g<n
 .have:=Awu.1 h.2 g (List.mem_range.2 hgn)
  rw[hg]at this;simpa using this
 .have:ents<2 ^ g:=Axs hn (Nat.pow_le_pow_right (by decide) (by omega))
  rw[Nat.testBit_lt_two_pow this]at hg
  cases hg
theorem Qr{α:Type}{f:Nat}:∀{A B:List (Nat × α)},BY f (A++B)=match BY f A with
  |some a=>some a
  |none=>BY f B
 |[],_=>rfl
 |(m,b)::r,B=>by
  have ih:=Qr (f:=f) (A:=r) (B:=B)
  show (match AwO f m with
   |true=>some b
   |false=>BY f (r++B))=match (match AwO f m with
   |true=>some b
   |false=>BY f r) with
   |some a=>some a
   |none=>BY f B
  cases AwO f m with
  |true=>rfl
  |false=>exact ih
def Aev(A B:List (Nat × MFn)):Bool:=B.all λp=>(BY p.1 A).isNone
theorem YW{A B:List (Nat × MFn)}(h:Aev A B=true){f:Nat}{mf:MFn}(hf:BY f B=some mf):BY f (A++B)=some mf:=by
 have:=Awu.1 h _ (Gg hf);have h0:BY f A=none:=Az1.1 this;rw[Qr,h0];exact hf
theorem Acv{A B:List (Nat × MFn)}{f:Nat}{mf:MFn}(hf:BY f A=some mf):BY f (A++B)=some mf:=by
 rw[Qr,hf]
def PW(P:Program):List (Nat × DF)->Prop
 |[]=>True
 |p::r=>CE (D0 P p.1) p.2/\PW P r
theorem SH{P:Program}:∀{L:List (Nat × DF)},PW P L->∀ f d,(f,d)∈L->CE (D0 P f) d
 |p::r,⟨h1,h2⟩,f,d,hm=>by
  rcases Awt.1 hm with rfl|hm
  .exact h1
  .exact SH h2 f d hm
def PU(P:Program)(ents:Nat):List (List (Nat × MFn))->Prop
 |[]=>True
 |T::r=>PV P ents T/\PU P ents r
theorem Vz{P:Program}{ents:Nat}:∀{L:List (List (Nat × MFn))},PU P ents L->PV P ents L.flatten
 |[],_=>trivial
 |T::r,⟨h1,h2⟩=>by
  rw[Axi];exact Se h1 (Vz h2)
theorem PN{P:Program}{ents:Nat}{own:List (Nat × Nat)}{L:List (List (Nat × MFn))}{X:List (Nat × DF)}(m:P.follows .mixedOrders=true)(e:Lm P ents)(a:PU P ents L)(g:PW P X):SeatOk P ents (Nm own L.flatten X) where
 mixed:=m
 ent:=e
 fns f mf h:=Sf (Vz a) f mf (Gg h)
 ext f d h:=SH g f d (Gg h)
def JC:List (List (Nat × MFn))->Bool
 |[]=>true
 |T::r=>Aev T r.flatten&&JC r
theorem AaC{f:Nat}{mf:MFn}:∀{L:List (List (Nat × MFn))} {i:Nat} {T:List (Nat × MFn)},JC L=true->L[i]? = some T->BY f T=some mf->BY f L.flatten=some mf
 |A::r,0,T,_,hi,h=>by
  injection hi with hi
  subst hi;rw[Axi];exact Acv h
 |A::r,i+1,T,ha,hi,h=>by
  unfold JC at ha;rw[η]at ha;rw[Axi];exact YW ha.1 (AaC ha.2 hi h)
theorem AgR:∀{L:List (List (Nat × MFn))} {i:Nat} {T:List (Nat × MFn)},L[i]? = some T->∀ p∈T,p∈L.flatten
 |A::r,0,T,hi,p,hp=>by
  injection hi with hi
  subst hi;rw[Axi];exact List.mem_append_left _ hp
 |A::r,i+1,T,hi,p,hp=>by
  rw[Axi];exact List.mem_append_right _ (AgR (L:=r) hi p hp)
theorem Bk{own:List (Nat × Nat)}{L:List (List (Nat × MFn))}{X:List (Nat × DF)}(h:(JC L&&Tg L.flatten X)=true){i:Nat}{T:List (Nat × MFn)}(hi:L[i]? = some T):Knows own T (BJ Ak (Nm own L.flatten X)):=by
 rw[η]at h;refine Ags (λf mf hf=>AaC h.1 hi hf) (Awu.2 λp hp=>Awu.1 h.2 p (AgR hi p hp))
def BM:Nat:=1989262591437705541604795875994989242731836106004175106551764689416051591154717805248508
abbrev BL(h:Mx)(n:Nat):MFn:=IZ ε BM h false false n
def mBg:Nat->Nat->List Bool
 | 0,_=>[]
 | k+1,n=>(match AwO n 0 with
  | true=>[]
  | false=>AwO (Nat.mod n 2) 1::mBg k (Nat.div n 2))
def mB(n:Nat):List Bool:=mBg 400 n
abbrev Bb:List Sh:=[.int .i64,.ls,.ls,.int .i64,.str,.str,.ls]
abbrev BD:List Sh:=[.bool,.ls]
abbrev BX:List Sh:=[.int .i64,.bool,.ls]
abbrev Ch:List Sh:=[.int .i64,.ls,.bool,.ls,.bool,.ls]
abbrev Cq:List Sh:=[.ls,.bool,.ls]
abbrev CJ:List Sh:=[.ls,.int .i64,.ls,.bool]
abbrev GZ:List Sh:=[.bool,.int .i64,.int .i64,.int .i64,.ls,.bool,.ls,.bool,.ls]
abbrev Lj:List Sh:=[.int .i64,.int .i64,.ls]
abbrev Nq:List Sh:=[.any,.ls,.ls,.int .i64,.ls,.bool,.ls,.bool,.ls,.ls,.ls]
abbrev Nr:List Sh:=[.ls,.bool,.ls,.bool]
abbrev Iz:List Sh:=[.bool,.str,.str]
abbrev Kj:List Sh:=[.int .i64,.str,.int .i64,.int .i64]
abbrev Kn:List Sh:=[.ls,.ls,.int .i64,.ls,.bool,.ls,.bool,.ls,.ls,.ls]
abbrev OY:List Sh:=[.str,.ls,.ls]
abbrev Rr:List Sh:=[.ls,.int .i64]
abbrev Rs:List Sh:=[.int .i64,.int .i64]
def Ah:List (Nat × Nat):=[(263,0),(152,0),(206,0),(242,0),(243,0),(260,0),(273,0),(156,0),(208,0)]
theorem Ako:Tryz.prog.follows .mixedOrders=true:=by kernel_rfl
set_option maxRecDepth 100000 in
theorem PG:Lm ε BM:=AfA (n:=600) (by kernel_rfl)
theorem KS{S:O8}(hm:PZ S)(res:Ad->Option AV)
  (h:∀ args r,res args=some r->∀(μ:Mu) (F:AP) (w:World) (us:AI),RepList μ F w args us->S us w λu w'=>Below w.heap.size w w'/\Rep μ (Ade F w w') w' r u):CE S (DP res):=AfV hm res h
theorem YQ{P:Program}{f:Nat}(h:∀(s:ByteArray) w,s.size<=9223372036854775807->Calls P f #[.string s] w λe w'=>e=.returned (.bool (DZ s.data.toList))/\Below w.heap.size w w'):CE (D0 P f) (DP CM):=by
 refine KS (Dw P f) _ λargs r hr μ F w us hus=>?_
 unfold CM at hr;split at hr
 .rename_i s
  split at hr
  .rename_i hs
   injection hr with hr
   subst hr;obtain rfl:=U4 hus;refine Calls.mono (h s w hs) ?_;rintro e w' ⟨rfl,hb⟩;exact⟨_,rfl,hb,ZS _⟩
  .cases hr
 .cases hr
theorem AfD{P:Program}{f:Nat}(h:∀(s:ByteArray) w,s.size<=9223372036854775807->Calls P f #[.string s] w λe w'=>e=.returned (.bool (Ce s.data.toList))/\Below w.heap.size w w'):CE (D0 P f) (DP DY):=by
 refine KS (Dw P f) _ λargs r hr μ F w us hus=>?_
 unfold DY at hr;split at hr
 .rename_i s
  split at hr
  .rename_i hs
   injection hr with hr
   subst hr;obtain rfl:=U4 hus;refine Calls.mono (h s w hs) ?_;rintro e w' ⟨rfl,hb⟩;exact⟨_,rfl,hb,ZS _⟩
  .cases hr
 .cases hr
def TS(s:ByteArray)(ety:TypeId)(w:World)(e:Ending)(w':World):Prop:=match BV s.data.toList with
 |.ok ts=>∃ v,e=.returned (.tuple #[v,.agg #[.int .i64 0,.int .i64 0],.int .i64 0])/\w'.ownsRow w.heap.size ety 4 v ts.length ((ts.map tkV).flatten)/\Below w.heap.size w w'
 |.err c ln co=>e=.returned (.tuple #[.slice none 0 0,.agg #[.int .i64 ln,.int .i64 co],.int .i64 c])/\Below w.heap.size w w'
theorem Abz{μ:Mu}{F:AP}{w:World}{a:AV}{u:Value}{p q n:Int}(h:Rep μ F w a u):Rep μ F w (.tup [a,.agg [iv p,iv q],iv n]) (.tuple #[u,.agg #[.int .i64 p,.int .i64 q],.int .i64 n]):=by
 simp only[Rep,RepList];exact⟨_,rfl,_,_,rfl,h,_,_,rfl,⟨_,rfl,_,_,rfl,Oc _,_,_,rfl,Oc _,rfl⟩,_,_,rfl,Oc _,rfl⟩
theorem AjH{P:Program}{f:Nat}(ety:TypeId)(h:∀(s:ByteArray) w,s.size<=9223372036854775807->Calls P f #[.string s] w (TS s ety w)):CE (D0 P f) (DP Mm):=by
 refine KS (Dw P f) _ λargs r hr μ F w us hus=>?_
 unfold Mm at hr;split at hr
 .rename_i s
  split at hr
  .rename_i hs
   obtain rfl:=U4 hus;have g:=h s w hs;unfold TS at g
   cases ha:BV s.data.toList with
   |ok ts=>
    rw[ha]at hr g;injection hr with hr
    subst hr;refine Calls.mono g ?_;rintro e w' ⟨v,rfl,ho,hb⟩;exact⟨_,rfl,hb,Abz (AkO ho)⟩
   |err c ln co=>
    rw[ha]at hr g;injection hr with hr
    subst hr;refine Calls.mono g ?_;rintro e w' ⟨rfl,hb⟩;refine⟨_,rfl,hb,Abz ?_⟩;unfold Rep;exact⟨rfl,none,0,rfl,ω _,Axb _,λh=>absurd rfl h⟩
  .cases hr
 .cases hr
section
open Go.RowKit
def Asv:MFn:=BL [] 60
def Ary:Hnt:=⟨[(61,(.bool,[]))],[],[(3,Iz)]⟩
def Asw:MFn:=BL [] 61
def Arz:Hnt:=⟨[(108,(.bool,[])),(109,(.bool,[]))],[],[(4,[.str]),(8,[.str]),(13,[.str]),(17,[.str]),(23,[.str]),(27,[.str])]⟩
def AaQ:MFn:=BL [⟨19,(mB 387),[],[],[(0,((mB 16),([],[]))),(1,([],([],[])))]⟩] 107
def Wb:Hnt:=⟨[(60,(.bool,[]))],[(0,[(0,([.int .i64],[])),(1,([],[]))])],[(14,Iz),(15,Iz)]⟩
def Asu:MFn:=BL [] 59
def Arx:Hnt:=⟨[(107,(.int .i64,[]))],[],[]⟩
def Ar9:MFn:=BL [] 23
def Arj:Hnt:=⟨[(59,(.bool,[]))],[],[]⟩
def Ast:MFn:=BL [] 57
def Arw:Hnt:=⟨[],[],[(4,[.str]),(8,[.str]),(12,[.str]),(15,[.str]),(18,[.str]),(20,[.str])]⟩
def Asp:MFn:=BL [] 45
def Art:Hnt:=⟨[],[],[(4,[.ls]),(9,[.ls]),(15,[.int .i64]),(20,[.str]),(25,[.str])]⟩
def Asq:MFn:=BL [] 46
def Aru:Hnt:=⟨[(23,(.bool,[]))],[],[(4,[.int .i64]),(8,[.ls]),(13,[.ls]),(18,[.int .i64]),(23,[.int .i64]),(28,[.str]),(33,[.str]),(38,[.ls])]⟩
def Anp:MFn:=BL [] 110
def Al2:Hnt:=⟨[],[],[]⟩
def Anq:MFn:=BL [] 111
def Al3:Hnt:=⟨[],[],[(11,[.int .i64]),(15,[.int .i64]),(21,[.int .i64]),(28,[.int .i64]),(38,[.int .i64])]⟩
def Akh:MFn:=BL [⟨59,(mB 240518168582),[],[2],[(0,((mB 16),([],[2]))),(1,([],([],[2])))]⟩] 62
def Aga:Hnt:=⟨[(45,(.bool,[])),(46,(.bool,[])),(62,(.bool,[])),(110,(.int .i64,[])),(111,(.bool,[]))],[(0,[(0,([.bool],[.del])),(1,([],[.del]))])],[(9,[.int .i64]),(11,Bb),(14,[.int .i64]),(18,Bb),(23,[.ls]),(26,[.int .i64]),(35,[.ls]),(40,Bb),(41,Bb),(44,[.int .i64]),(46,Bb),(53,Bb)]⟩
def Asa:MFn:=BL [] 24
def Ark:Hnt:=⟨[(62,(.bool,[]))],[],[(3,Bb)]⟩
def FS:List (Nat × MFn):=[(60,Asv),(61,Asw),(107,AaQ),(59,Asu),(23,Ar9),(57,Ast),(45,Asp),(46,Asq),(110,Anp),(111,Anq),(62,Akh),(24,Asa)]
variable (A:Ar) (D:Orc)
theorem e60(x0_0:Bool)(x0_1 x0_2:ByteArray):Bp A D Ah Ary .n 60 Asv [Φ [bv x0_0,sv x0_1,sv x0_2]] [] =
 Ag D (Ω 61) [Φ [bv x0_0,sv x0_1,sv x0_2]] [] [.b,.E] λb=>
 br b
 (some ((bv false,[])))
 (some ((bv true,[]))):=by kernel_rfl
theorem e61(x0_0:Bool)(x0_1 x0_2:ByteArray):Bp A D Ah Arz (.b (.b .n (.b (.b (.b (.b .n (.b (.b .n (.b (.b (.b (.b (.t (.b (.b .n (.b .n (.b .n (.b (.b (.b (.b (.b (.b (.b (.b (.f .n) .n) .n) .n) .n) .n) .n) .n) .n)))) .n)) .n) .n) .n) .n)) .n)) .n) .n) .n)) (.b (.b .n (.b .n (.b .n (.b (.b (.b (.b (.b (.f .n) .n) .n) .n) .n) .n)))) .n)) 61 Asw [Φ [bv x0_0,sv x0_1,sv x0_2]] [] =
 let y1:=some (bv false,[]);br (A.seq x0_1 (Ai [])) (br (A.seq x0_2 (Ai [])) y1 (br (A.seq x0_1 (Ai [])) (br (A.seq x0_2 (Ai [])) none (AN D (Ω 109) [sv x0_2] [] λr o=>Hz r λb=>CG o<|br b
 (some (bv true,[])) y1)) none)) (br (A.seq x0_1 (Ai [])) none (AN D (Ω 108) [sv x0_1] [] λr o=>Hz r λb=>CG o<|br b (br (A.seq x0_2 (Ai [])) (some (bv true,[])) (Ag D (Ω 109) [sv x0_2] []
 [.b,.E] λb1=>br b1 (some (bv true,[])) y1)) y1)):=by kernel_rfl
theorem Atx(x0:Rw):Bp A D Ah Wb .n 107 AaQ [Ξ x0,AwG (Fn.func 60) [] []] [] =
 Ag D (Awq 107 0) [Ξ x0,AwG (Fn.func 60) [] [],iv ↑(AU x0),iv 0] [] [.t,.C,.x,.X,.Y] λc l o=>
 br (Bf 0 c)
 (dk [.I,.N,.E] [.l l,.o o] λn=>
 some ((iv n,[])))
 (br (Bf 1 c)
 (Dp l<|
 CG o<|
 some ((iv (-1),[])))
 (none)):=by kernel_rfl
theorem Ae0(x0:Rw)(t7 t8:Int):DI A D Ah Wb .n 107 0 (AK AaQ 0).fst (AK AaQ 0).snd [Ξ x0,AwG (Fn.func 60) [] [],iv t7,iv t8] [] =
 br (A.lt t8 t7)
 (unI t8 λi=>
 Bt x0 i λcs=>
 dk [.B,.S,.S,.N] [.l cs] λb s s1=>
 Ag D (Ω 60) [Φ [bv b,sv s,sv s1]] [] [.b,.E] λb1=>
 br b1
 (some ((γ [bv true,iv t8],[])))
 (AN D (Awq 107 0) [Ξ x0,AwG (Fn.func 60) [] [],iv t7,iv (A.add φ t8 1)] [] λr1 o1=>
 AO 0 [] (AH.mk [] 0 none) [] r1 o1))
 (some ((γ [iv 0],[]))):=by kernel_rfl
theorem e59(x0:Rw):Bp A D Ah Arx .n 59 Asu [Ξ x0,AwG (Fn.func 60) [] []] [] =
 Ag D (Ω 107) [Ξ x0,AwG (Fn.func 60) [] []] [] [.i,.E] λn=>
 br (A.le 0 n)
 (some ((bv true,[])))
 (some ((bv false,[]))):=by kernel_rfl
theorem e23(x0:Rw):Bp A D Ah Arj .n 23 Ar9 [Ξ x0] [] =
 br (A.lt 0 ↑(AU x0))
 (br (A.le (↑(AU x0)) 64)
 (Ag D (Ω 59) [Ξ x0,AwG (Fn.func 60) [] []] [] [.b,.E] λb=>
 br b
 (some ((bv false,[])))
 (some ((bv true,[]))))
 (some ((bv false,[]))))
 (some ((bv false,[]))):=by kernel_rfl
theorem e57(x0_0:Bool)(x0_1 x0_2:ByteArray):Bp A D Ah Arw .n 57 Ast [Φ [bv x0_0,sv x0_1,sv x0_2]] [] =
 let y1:=br ((A.slen x0_1+A.slen x0_2).ble 9223372036854775807) (some (sv (A.cat x0_1 x0_2),[])) none;br (A.seq x0_1 (Ai [])) y1 (br (A.seq x0_2 (Ai [])) y1 (br ((A.slen x0_1+A.slen (Ai [42])).ble
 9223372036854775807) (br ((A.slen (A.cat x0_1 (Ai [42]))+A.slen x0_2).ble 9223372036854775807) (some (sv (A.cat (A.cat x0_1 (Ai [42])) x0_2),[])) none) none)):=by kernel_rfl
theorem e45(x0_0:Int)(x0_1 x0_2:Rw)(x0_3:Int)(x0_4 x0_5:ByteArray)(x0_6:Rw):Bp A D Ah Art .n 45 Asp [Φ [iv x0_0,Ξ x0_1,Ξ x0_2,iv x0_3,sv x0_4,sv x0_5,Ξ x0_6]] [] =
 let y1:=some (bv false,[]);br (A.eq (↑(AU x0_1)) 0) (br (A.eq (↑(AU x0_2)) 0) (br (A.eq x0_3 0) (br (A.seq x0_4 (Ai [])) (br (A.seq x0_5 (Ai [])) (some (bv true,[])) y1) y1) y1) y1) y1:=by kernel_rfl
theorem e46(x0_0:Int)(x0_1 x0_2:Rw)(x0_3:Int)(x0_4 x0_5:ByteArray)(x0_6:Rw):Bp A D Ah Aru .n 46 Asq [Φ [iv x0_0,Ξ x0_1,Ξ x0_2,iv x0_3,sv x0_4,sv x0_5,Ξ x0_6]] [] =
 let y1:=some (bv false,[]);br (A.eq x0_0 2) (Ag D (Ω 23) [Ξ x0_1] [] [.b,.E] λb=>br b (Ag D (Ω 23) [Ξ x0_2] [] [.b,.E] λb1=>br b1 (br (A.le 0 x0_3) (br (A.le x0_3 5) (br (A.seq x0_4 (Ai
 [])) (br (A.seq x0_5 (Ai [])) (br (A.eq (↑(AU x0_6)) 0) (some (bv true,[])) y1) y1) y1) y1) y1) y1) y1) y1:=by kernel_rfl
theorem Aty(x0:Int):Bp A D Ah Al2 .n 110 Anp [iv x0] [] =
 br (A.eq x0 0)
 (some ((iv 0,[])))
 (br (A.eq x0 1)
 (some ((iv 0,[])))
 (br (A.eq x0 3)
 (some ((iv 1,[])))
 (br (A.eq x0 4)
 (some ((iv 2,[])))
 (br (A.eq x0 5)
 (some ((iv 2,[])))
 (some ((iv (-1),[]))))))):=by kernel_rfl
theorem Atz(x0 x1 x2_0:Int)(x2_1 x2_2:Rw)(x2_3:Int)(x2_4 x2_5:ByteArray)(x2_6:Rw):Bp A D Ah Al3 .n 111 Anq [iv x0,iv x1,Φ [iv x2_0,Ξ x2_1,Ξ x2_2,iv x2_3,sv x2_4,sv x2_5,Ξ x2_6]] [] =
 let y1:=some (bv false,[]);let y2:=some (bv true,[]);br (A.eq x0 3) (br (A.eq x2_0 4) y2 (br (A.eq x2_0 5) y2 y1)) (br (A.eq x0 4) (br (A.eq x2_0 5) y2 (br (A.eq x1 1) (br (A.eq x2_0 4) y2 y1) y1)) (br (A.eq x0 5) (br
 (A.eq x1 1) (br (A.eq x2_0 5) y2 y1) y1) y1)):=by kernel_rfl
theorem e62(x0_0:Int)(x0_1 x0_2:Rw)(x0_3:Int)(x0_4 x0_5:ByteArray)(x0_6:Rw)(x1:Int):Bp A D Ah Aga .n 62 Akh [Φ [iv x0_0,Ξ x0_1,Ξ x0_2,iv x0_3,sv x0_4,sv x0_5,Ξ x0_6],iv x1] [] =
 let y1:=[iv x0_0,Ξ x0_1,Ξ x0_2,iv x0_3,sv x0_4,sv x0_5,Ξ x0_6];let y3:=some (bv false,[]);br (A.eq x0_0 2) (Ag D (Ω 46) [Φ y1] [] [.b,.E] λb=>br b (some (bv true,[])) y3)
 (let y2:=λz1 z2 z3=>br (Bf 0 z1) (dk [.B,.N,.D,.E] [.l z2,.o z3] λb1=>some (bv b1,[])) (br (Bf 1 z1) (dk [.N,.D,.E,.w] [.l z2,.o z3] λ_=>some (bv true,[])) none);br (A.eq x0_0 3) (Ag D (Ω
 45) [Φ y1] [] [.b,.E] λb=>br b (Ag D (Ω 110) [iv x0_0] [] [.i,.E] λn=>br (A.eq (↑(AU x0_6)) n) (br (A.lt 60 (A.add φ x1 1)) y3 (Ag D (Awq 62 0) [iv (A.add φ x1 1),ψ 0 0,
 Ξ x0_6,iv ↑(AU x0_6),iv 0] [bk y1] [.t,.C,.x,.X,.Y] y2)) y3) y3) (Ag D (Ω 45) [Φ y1] [] [.b,.E] λb=>br b (Ag D (Ω 110) [iv x0_0] [] [.i,.E] λn=>br (A.eq (↑(AU x0_6)) n) (br (A.lt 60
 x1) y3 (Ag D (Awq 62 0) [iv x1,ψ 0 0,Ξ x0_6,iv ↑(AU x0_6),iv 0] [bk y1] [.t,.C,.x,.X,.Y] y2)) y3) y3)):=by kernel_rfl
theorem AlO(t1 b2_0:Int)(b2_1 b2_2:Rw)(b2_3:Int)(b2_4 b2_5:ByteArray)(b2_6 t35:Rw)(t36 t37:Int):DI A D Ah Aga .n 62 0 (AK Akh 0).fst (AK Akh 0).snd [iv t1,ψ 0 0,Ξ t35,iv t36,iv t37] [bk [iv b2_0,Ξ b2_1,Ξ b2_2,iv b2_3,sv b2_4,sv b2_5,Ξ b2_6]] =
 br (A.lt t37 t36) (unI t37 λi=>Bt t35 i λcs=>dk [.I,.L,.L,.I,.S,.S,.L,.N] [.l cs] λn xs xs1 n1 s s1 xs2=>let y2:=[iv n,Ξ xs,Ξ xs1,iv n1,sv s,sv s1,Ξ xs2];Ag D (Ω 111) [iv b2_0,
 iv t37,Φ y2] [] [.b,.E] λb=>let y3:=some (γ [bv true,bv false],[BO.del]);
 let y1:=λz1=>br z1 (let y4:=bk [iv b2_0,Ξ b2_1,Ξ b2_2,iv b2_3,sv b2_4,sv b2_5,Ξ b2_6];AN D (Awq 62 0) [iv t1,ψ 0 0,Ξ t35,iv t36,iv (A.add φ t37 1)] [y4] λr2 o2=>AO 1 [0] (AH.mk [(0,y4),(1,bk y2)] 2 none) [0] r2 o2) y3;
 br b (br (A.lt 60 (A.add φ t1 1)) y3 (Ag D (Ω 62) [Φ y2,iv (A.add φ t1 1)] [] [.b,.E] y1)) (br (A.lt 60 t1) y3 (Ag D (Ω 62) [Φ y2,iv t1] [] [.b,.E] y1))) (some (γ [iv 0],
 [BO.del])):=by kernel_rfl
theorem e24(x0_0:Int)(x0_1 x0_2:Rw)(x0_3:Int)(x0_4 x0_5:ByteArray)(x0_6:Rw):Bp A D Ah Ark .n 24 Asa [Φ [iv x0_0,Ξ x0_1,Ξ x0_2,iv x0_3,sv x0_4,sv x0_5,Ξ x0_6]] [] =
 Ag D (Ω 62) [Φ [iv x0_0,Ξ x0_1,Ξ x0_2,iv x0_3,sv x0_4,sv x0_5,Ξ x0_6],iv 0] [] [.b,.E] λb=>
 br b
 (some ((bv true,[])))
 (some ((bv false,[]))):=by kernel_rfl
end
def AbP:List (List (Nat × MFn)):=[FS]
def AfE:List (Nat × DF):=[(109,DP DY),(108,DP CM)]
def AoE:Seat:=Nm Ah AbP.flatten AfE
def DT:Orc:=BJ Ak AoE
set_option maxRecDepth 100000 in
theorem Atq:PU ε BM AbP:=by
 repeat' first|exact trivial|refine⟨⟨_,_,_,rfl⟩,by kernel_rfl,?_⟩|refine⟨?_,?_⟩
theorem Atr:(JC AbP&&Tg AbP.flatten AfE)=true:=by kernel_rfl
theorem ArS:Knows Ah FS DT:=Bk Atr (i:=0) rfl
section
variable {args:Ad} {bs:List ABlk} {r:AV × List BO}
theorem Aqx(h:(DP DY) args bs=some r):DT.ask (.fn 109) args bs=some r:=Cw rfl h
theorem AiT(h:(DP CM) args bs=some r):DT.ask (.fn 108) args bs=some r:=Cw rfl h
end
theorem XD(h:PW ε AfE):SeatOk ε BM AoE:=PN Ako PG Atq h
theorem NN{a b:Int}(h:a=b){x y:KR}:br (Ak.eq a b) x y=x:=by rw[F9,AW h];rfl
theorem Aw{a b:Int}{x y z:KR}(g:x=z)(h: a=b:=by omega):br (Ak.eq a b) x y=z:=(NN h).trans g
theorem NM{a b:Int}(h:¬ a=b){x y:KR}:br (Ak.eq a b) x y=y:=by rw[F9,Be h];rfl
theorem As{a b:Int}{x y z:KR}(g:y=z)(h:¬ a=b:=by omega):br (Ak.eq a b) x y=z:=(NM h).trans g
theorem Ajj{a b:ByteArray}(h:a=b){x y:KR}:br (Ak.seq a b) x y=x:=by rw[GJ,AW h];rfl
theorem Fv{a b:ByteArray}{x y z:KR}(h: a=b)(g:x=z):br (Ak.seq a b) x y=z:=(Ajj h).trans g
theorem IK{a b:ByteArray}(h:¬ a=b){x y:KR}:br (Ak.seq a b) x y=y:=by rw[GJ,Be h];rfl
theorem Ao8{a b:Int}(h:a<b){x y:KR}:br (Ak.lt a b) x y=x:=by rw[Lh,AW h];rfl
theorem Au{a b:Int}{x y z:KR}(g:x=z)(h: a<b:=by omega):br (Ak.lt a b) x y=z:=(Ao8 h).trans g
theorem Yq{a b:Int}(h:¬ a<b){x y:KR}:br (Ak.lt a b) x y=y:=by rw[Lh,Be h];rfl
theorem Ap{a b:Int}{x y z:KR}(g:y=z)(h:¬ a<b:=by omega):br (Ak.lt a b) x y=z:=(Yq h).trans g
theorem Ee{a b:Nat}(h:a<=b)(x y:KR):br (a.ble b) x y=x:=by
 rw[Nat.ble_eq_true_of_le h];rfl
theorem Ao7{a b:Int}(h:a<=b){x y:KR}:br (Ak.le a b) x y=x:=by rw[Po,AW h];rfl
theorem Cg{a b:Int}{x y z:KR}(g:x=z)(h: a≤b:=by omega):br (Ak.le a b) x y=z:=(Ao7 h).trans g
theorem AeI{a b:Int}(h:¬ a<=b){x y:KR}:br (Ak.le a b) x y=y:=by rw[Po,Be h];rfl
theorem Cm{a b:Int}{x y z:KR}(g:y=z)(h:¬ a≤b:=by omega):br (Ak.le a b) x y=z:=(AeI h).trans g
structure Toks (ts:List Tk):Prop where
 len:ts.length+300<4611686018427387904
 short:∀ i,(nx ts i).text.length<4611686018427387904
 fin:(ts.getLastD ⟨5,[],0,0⟩).kind=5
theorem Toks.past{ts:List Tk}(H:Toks ts){i:Nat}(h:ts.length<=i):(nx ts i).kind=5:=by
 unfold nx;rw[Axj h];exact H.fin
theorem Toks.isT{ts:List Tk}(H:Toks ts){i:Nat}{s:List UInt8}(h:isT ts i s=true):i<ts.length:=by
 by_cases hi:i<ts.length
 .exact hi
 .unfold Go.Proofs.YtlmhajfbpplpoaaGreat.isT at h
  rw[H.past (by omega)]at h;simp at h
theorem Toks.isN{ts:List Tk}(H:Toks ts){i:Nat}(h:isN ts i=true):i<ts.length:=by
 by_cases hi:i<ts.length
 .exact hi
 .unfold Go.Proofs.YtlmhajfbpplpoaaGreat.isN at h
  rw[H.past (by omega)]at h;simp at h
theorem Toks.num{ts:List Tk}(H:Toks ts){i:Nat}(h:(nx ts i).kind=3):i<ts.length:=by
 by_cases hi:i<ts.length
 .exact hi
 .rw[H.past (by omega)]at h
  simp at h
structure Far (ts:List Tk) (i j e:Nat):Prop where
 ge:i<=j
 le:j<=ts.length
 gt:e=0->i<j
theorem Far.trans{ts:List Tk}{i j e k e2:Nat}(h:Far ts i j e)(h2:Far ts j k e2):Far ts i k e2:=⟨by have:=h.ge;have:=h2.ge;omega,h2.le,λhe=>by have:=h.ge;have:=h2.gt he;omega⟩
section
variable {ts:List Tk} (H:Toks ts) (vars:List ByteArray) (kn:Bool)
include H
theorem X0{i:Nat}(hi:i<=ts.length):Far ts i (GQ ts vars kn i).1 (GQ ts vars kn i).2.1:=by
 unfold GQ
 cases h:isN ts i with
 |false=>rw[Ac rfl];exact⟨ω _,hi,λh=>absurd h (by simp)⟩
 |true=>
  have:=H.isN h;rw[Ab (by simp)];split
  .exact⟨ω _,hi,λh=>absurd h (by simp)⟩
  .exact⟨AyP _,this,λ_=>Awz _⟩
theorem Adc{i:Nat}(hi:i<=ts.length)(neg:Bool):Far ts i (A3 ts vars kn i neg).1 (A3 ts vars kn i neg).2.1:=by
 unfold A3;split
 .rename_i h3
  have:=H.num h3
  cases h:isT ts (i+1) [42]with
  |true=>
   have h1:=H.isT h;have h2:=X0 H vars kn (show i+2<=ts.length by omega);rw[Ac rfl];exact⟨by have:=h2.ge;simp only;omega,h2.le,λ_=>by have:=h2.ge;simp only;omega⟩
  |false=>
   rw[Ab (by simp)];exact⟨AyP _,this,λ_=>Awz _⟩
 .exact X0 H vars kn hi
theorem XK:∀(k:Nat) (out:List Mo) (neg:Bool) (i:Nat),i<=ts.length->Far ts i (EU ts vars kn k out neg i).1 (EU ts vars kn k out neg i).2.1:=by
 intro k
 induction k with
 |zero=>
  intro out neg i hi;unfold EU;split
  .exact⟨ω _,hi,λh=>absurd h (by simp)⟩
  .exact⟨ω _,hi,λh=>absurd h (by simp)⟩
 |succ k ih=>
  intro out neg i hi;unfold EU;dsimp only;have m:=Adc H vars kn hi neg;split
  .exact⟨ω _,hi,λh=>absurd h (by simp)⟩
  .split
   .exact m
   .split
    .rename_i h
     have h1:=H.isT h;have m2:=ih (out++[(A3 ts vars kn i neg).2.2]) true ((A3 ts vars kn i neg).1+1) (by omega);exact⟨by have:=m.ge;have:=m2.ge;omega,m2.le,λhe=>by have:=m.ge;have:=m2.gt he;omega⟩
    .split
     .rename_i h
      have h1:=H.isT h;have m2:=ih (out++[(A3 ts vars kn i neg).2.2]) false ((A3 ts vars kn i neg).1+1) (by omega);exact⟨by have:=m.ge;have:=m2.ge;omega,m2.le,λhe=>by have:=m.ge;have:=m2.gt he;omega⟩
     .rename_i h _ _
      exact⟨m.ge,m.le,λ_=>m.gt (by simpa using h)⟩
theorem Rx{i:Nat}(hi:i<=ts.length):Far ts i (Dk ts vars kn i).1 (Dk ts vars kn i).2.1:=by
 unfold Dk;split
 .rename_i h
  have h1:=H.isT h;have m2:=XK H vars kn 64 [] true (i+1) (by omega);exact⟨by have:=m2.ge;omega,m2.le,λhe=>by have:=m2.gt he;omega⟩
 .exact XK H vars kn 64 [] false i hi
theorem Abn{i op:Nat}(h:opP ts i=some op):i<ts.length:=by
 unfold opP at h;obtain⟨h1,h2,_⟩:=AwZ.1 h;exact H.isT h2
theorem VL{i:Nat}(hi:i<=ts.length):Far ts i (JH ts vars kn i).1 (JH ts vars kn i).2.1:=by
 unfold JH;have m:=Rx H vars kn hi;split
 .exact m
 .rename_i h0
  have h0:(Dk ts vars kn i).2.1=0:=by simpa using h0
  rw[h0]at m;split
  .exact⟨m.ge,m.le,λh=>absurd h (by simp)⟩
  .rename_i op h
   have h1:=Abn H h;have m2:=Rx H vars kn (show (Dk ts vars kn i).1+1<=ts.length by omega);have h2:=m.gt rfl;have h3:=m2.ge;split
   .exact⟨by simp only;omega,m2.le,λ_=>by simp only;omega⟩
   .exact⟨by simp only;omega,m2.le,λ_=>by simp only;omega⟩
end
section
open Go.RowKit
def AsG:MFn:=IZ ε BM [] false true 92
def ArI:Hnt:=⟨[],[],[(7,[.ls]),(15,[.ls]),(19,[.int .i64]),(24,Kj),(25,Kj)]⟩
def AsK:MFn:=IZ ε BM [] false true 96
def ArM:Hnt:=⟨[(92,(.agg Kj,[.box CJ]))],[],[(9,[.str]),(14,[.int .i64]),(18,[.int .i64]),(23,[.int .i64])]⟩
def AsH:MFn:=IZ ε BM [] false true 93
def ArJ:Hnt:=⟨[(96,(.bool,[.box CJ]))],[],[(13,[.int .i64])]⟩
def Aol:MFn:=IZ ε BM [] false true 248
def AmX:Hnt:=⟨[(93,(.bool,[.box CJ]))],[],[]⟩
def AnT:MFn:=IZ ε BM [] false true 162
def Amv:Hnt:=⟨[(92,(.agg Kj,[.box CJ])),(109,(.bool,[]))],[],[(7,[.int .i64]),(11,[.str])]⟩
def AnU:MFn:=IZ ε BM [] false true 163
def Amw:Hnt:=⟨[(92,(.agg Kj,[.box CJ])),(162,(.bool,[.box CJ])),(219,(.bool,[]))],[],[(15,[.bool]),(20,[.ls]),(22,[.str]),(29,[.int .i64]),(34,[.str])]⟩
def AsJ:MFn:=IZ ε BM [] false true 95
def ArL:Hnt:=⟨[(92,(.agg Kj,[.box CJ])),(93,(.bool,[.box CJ])),(163,(.tup [.str,.int .i64],[.box CJ]))],[],[(14,[.int .i64]),(17,[.str]),(22,[.int .i64]),(29,Iz),(36,Iz)]⟩
def AsI:MFn:=IZ ε BM [] false true 94
def ArK:Hnt:=⟨[(92,(.agg Kj,[.box CJ])),(162,(.bool,[.box CJ]))],[],[]⟩
def Akg:MFn:=IZ ε BM [⟨41,(mB 49),[(4,3)],[],[(0,((mB 13),([2],[4])))]⟩] false true 49
def Af9:Hnt:=⟨[(93,(.bool,[.box CJ])),(94,(.bool,[.box CJ])),(95,(.tup [.agg Iz,.int .i64],[.box CJ])),(96,(.bool,[.box CJ]))],[(0,[(0,([.ptr 0 0,.ls,.int .i64],[.box CJ,.del]))])],[(27,Iz)]⟩
def AsF:MFn:=BL [] 90
def ArH:Hnt:=⟨[],[],[]⟩
def Ag2:MFn:=BL [⟨19,(mB 387),[],[],[(0,((mB 16),([],[]))),(1,([],([],[])))]⟩] 88
def WA:Hnt:=⟨[],[(0,[(0,([.int .i64],[])),(1,([],[]))])],[(14,[.str]),(15,[.str])]⟩
def Ag0:MFn:=BL [] 219
def AmN:Hnt:=⟨[(88,(.int .i64,[]))],[],[]⟩
def De:List (Nat × MFn):=[(92,AsG),(96,AsK),(93,AsH),(248,Aol),(162,AnT),(163,AnU),(95,AsJ),(94,AsI),(49,Akg),(90,AsF),(88,Ag2),(219,Ag0)]
variable (A:Ar) (D:Orc)
theorem e92(p0_0:Rw)(p0_1:Int)(p0_2:Rw)(p0_3:Bool):Bp A D Ah ArI .n 92 AsG [ψ 0 0] [bk [Ξ p0_0,iv p0_1,Ξ p0_2,bv p0_3]] =
 let y1:=[Awp (bk [Ξ p0_0,iv p0_1,Ξ p0_2,bv p0_3])];br (A.eq (↑(AU p0_0)) 0) (some (Φ [iv 5,sv (Ai []),iv 0,iv 0],y1)) (unI (A.min (A.max p0_1 0) (A.sub φ (↑(AU p0_0)) 1)) λi=>Bt
 p0_0 i λcs=>dk [.I,.S,.I,.I,.N] [.l cs] λn s n1 n2=>some (Φ [iv n,sv s,iv n1,iv n2],y1)):=by kernel_rfl
theorem e96(p0_0:Rw)(p0_1:Int)(p0_2:Rw)(p0_3:Bool)(x1:ByteArray):Bp A D Ah ArM .n 96 AsK [ψ 0 0,sv x1] [bk [Ξ p0_0,iv p0_1,Ξ p0_2,bv p0_3]] =
 Ag D (Ω 92) [ψ 0 0] [bk [Ξ p0_0,iv p0_1,Ξ p0_2,bv p0_3]] [.a,.I,.S,.I,.I,.N,.T,.L,.I,.L,.B,.N,.E] λn s _ _ xs n3 xs1 b=>let y1:=[Awp (bk [Ξ xs,iv n3,Ξ xs1,bv b])];br (A.seq
 s x1) (br (A.eq n 2) (some (bv true,y1)) (br (A.eq n 1) (some (bv true,y1)) (br (A.eq n 4) (some (bv true,y1)) (some (bv false,y1))))) (some (bv false,y1)):=by kernel_rfl
theorem e93(p0_0:Rw)(p0_1:Int)(p0_2:Rw)(p0_3:Bool)(x1:ByteArray):Bp A D Ah ArJ .n 93 AsH [ψ 0 0,sv x1] [bk [Ξ p0_0,iv p0_1,Ξ p0_2,bv p0_3]] =
 Ag D (Ω 96) [ψ 0 0,sv x1] [bk [Ξ p0_0,iv p0_1,Ξ p0_2,bv p0_3]] [.b,.T,.L,.I,.L,.B,.N,.E] λb xs n xs1 b1=>
 br b
 (some ((bv true,[Awp (bk [Ξ xs,iv (A.add φ n 1),Ξ xs1,bv b1])])))
 (some ((bv false,[Awp (bk [Ξ xs,iv n,Ξ xs1,bv b1])]))):=by kernel_rfl
theorem AuN(p0_0:Rw)(p0_1:Int)(p0_2:Rw)(p0_3:Bool)(x1:ByteArray):Bp A D Ah AmX .n 248 Aol [ψ 0 0,sv x1] [bk [Ξ p0_0,iv p0_1,Ξ p0_2,bv p0_3]] =
 Ag D (Ω 93) [ψ 0 0,sv x1] [bk [Ξ p0_0,iv p0_1,Ξ p0_2,bv p0_3]] [.b,.T,.L,.I,.L,.B,.N,.E] λb xs n xs1 b1=>let y1:=[Awp (bk [Ξ xs,iv n,Ξ xs1,bv b1])];br b (some (iv 0,y1)) (some
 (iv 101,y1)):=by kernel_rfl
theorem At6(p0_0:Rw)(p0_1:Int)(p0_2:Rw)(p0_3:Bool):Bp A D Ah Amv .n 162 AnT [ψ 0 0] [bk [Ξ p0_0,iv p0_1,Ξ p0_2,bv p0_3]] =
 Ag D (Ω 92) [ψ 0 0] [bk [Ξ p0_0,iv p0_1,Ξ p0_2,bv p0_3]] [.a,.I,.S,.I,.I,.N,.T,.L,.I,.L,.B,.N,.E] λn s _ _ xs n3 xs1 b=>let y1:=[Awp (bk [Ξ xs,iv n3,Ξ xs1,bv b])];br (A.eq
 n 1) (Ag D (Ω 109) [sv s] [] [.b,.E] λb1=>br b1 (some (bv true,y1)) (some (bv false,y1))) (some (bv false,y1)):=by kernel_rfl
theorem At7(p0_0:Rw)(p0_1:Int)(p0_2:Rw)(p0_3:Bool):Bp A D Ah Amw (.b (.b .n (.b .n (.b (.t (.t (.t (.t (.t (.t (.b (.t (.b .n (.t .n))) (.t (.b (.t .n) .n))))))))) (.f (.f (.f (.f (.f (.f (.f (.f .n))))))))))) .n) 163 AnU [ψ 0 0] [bk [Ξ p0_0,iv p0_1,Ξ p0_2,bv p0_3]] =
 Ag D (Ω 92) [ψ 0 0] [bk [Ξ p0_0,iv p0_1,Ξ p0_2,bv p0_3]] [.a,.I,.S,.I,.I,.N,.T,.L,.I,.L,.B,.N,.E] λ_ s _ _ xs n3 xs1 b=>Ag D (Ω 162) [ψ 0 0] [bk [Ξ xs,iv n3,Ξ xs1,bv
 b]] [.b,.T,.L,.I,.L,.B,.N,.E] λb1 xs2 n4 xs3 b2=>let y2:=[Awp (bk [Ξ xs2,iv n4,Ξ xs3,bv b2])];br b1
 (let y1:=some (γ [sv s,iv 0],[Awp (bk [Ξ xs2,iv (A.add φ n4 1),Ξ xs3,bv b2])]);br b2 (br b2 (br b2 (br b2 (br b2 (br b2 (br b2 (AN D (Ω 219) [Ξ xs3,sv s] [] λr2 o2=>Hz r2
 λb3=>CG o2<|br b3 (br b2 (br b2 y1 none) none) (br b2 (br b2 (some (γ [sv (Ai []),iv 110],y2)) none) none)) none) none) none) none) none) none) (br b2 none (br b2 none (br b2 none (br b2 none (br b2 none (br
 b2 none (br b2 none (br b2 none y1))))))))) (some (γ [sv (Ai []),iv 101],y2)):=by kernel_rfl
theorem e95(p0_0:Rw)(p0_1:Int)(p0_2:Rw)(p0_3 x1:Bool):Bp A D Ah ArL .n 95 AsJ [ψ 0 0,bv x1] [bk [Ξ p0_0,iv p0_1,Ξ p0_2,bv p0_3]] =
 Ag D (Ω 92) [ψ 0 0] [bk [Ξ p0_0,iv p0_1,Ξ p0_2,bv p0_3]] [.a,.I,.S,.I,.I,.N,.T,.L,.I,.L,.B,.N,.E] λn s _ _ xs n3 xs1 b=>let y1:=λz1 z2 z3 z4=>bk [Ξ z1,iv z2,Ξ z3,bv z4];
 br (A.eq n 3) (Ag D (Ω 93) [ψ 0 0,sv (Ai [42])] [bk [Ξ xs,iv (A.add φ n3 1),Ξ xs1,bv b]] [.b,.T,.L,.I,.L,.B,.N,.E] λb1 xs2 n4 xs3 b2=>br b1 (Ag D (Ω 163) [ψ 0 0] [y1
 xs2 n4 xs3 b2] [.t,.S,.I,.N,.T,.L,.I,.L,.B,.N,.E] λs1 n5 xs4 n6 xs5 b3=>some (γ [Φ [bv x1,sv s,sv s1],iv n5],[Awp (y1 xs4 n6 xs5 b3)])) (some (γ [Φ [bv x1,sv s,sv (Ai [])],iv 0],
 [Awp (y1 xs2 n4 xs3 b2)]))) (Ag D (Ω 163) [ψ 0 0] [y1 xs n3 xs1 b] [.t,.S,.I,.N,.T,.L,.I,.L,.B,.N,.E] λs1 n4 xs2 n5 xs3 b1=>some (γ [Φ [bv x1,sv (Ai []),sv s1],iv n4],[Awp (y1 xs2
 n5 xs3 b1)])):=by kernel_rfl
theorem e94(p0_0:Rw)(p0_1:Int)(p0_2:Rw)(p0_3:Bool):Bp A D Ah ArK .n 94 AsI [ψ 0 0] [bk [Ξ p0_0,iv p0_1,Ξ p0_2,bv p0_3]] =
 Ag D (Ω 92) [ψ 0 0] [bk [Ξ p0_0,iv p0_1,Ξ p0_2,bv p0_3]] [.a,.I,.S,.I,.I,.N,.T,.L,.I,.L,.B,.N,.E] λn _ _ _ xs n3 xs1 b=>
 br (A.eq n 3)
 (some ((bv true,[Awp (bk [Ξ xs,iv n3,Ξ xs1,bv b])])))
 (Ag D (Ω 162) [ψ 0 0] [bk [Ξ xs,iv n3,Ξ xs1,bv b]] [.b,.T,.L,.I,.L,.B,.N,.E] λb1 xs2 n4 xs3 b2=>
 br b1
 (some ((bv true,[Awp (bk [Ξ xs2,iv n4,Ξ xs3,bv b2])])))
 (some ((bv false,[Awp (bk [Ξ xs2,iv n4,Ξ xs3,bv b2])])))):=by kernel_rfl
theorem e49(p0_0:Rw)(p0_1:Int)(p0_2:Rw)(p0_3:Bool):Bp A D Ah Af9 .n 49 Akg [ψ 0 0] [bk [Ξ p0_0,iv p0_1,Ξ p0_2,bv p0_3]] =
 Ag D (Ω 93) [ψ 0 0,sv (Ai [45])] [bk [Ξ p0_0,iv p0_1,Ξ p0_2,bv p0_3]] [.b,.T,.L,.I,.L,.B,.N,.E] λb xs n xs1 b1=>
 let y1:=λz1 z2 z3=>br (Bf 0 z1) (dk [.P 0 0,.L,.I,.N,.T,.L,.I,.L,.B,.N,.D,.E] [.l z2,.o z3] λxs2 n1 xs3 n2 xs4 b2=>some (γ [Ξ xs2,iv n1],[Awp (bk [Ξ xs3,iv n2,Ξ xs4,bv b2])])) none;
 let y2:=[bk [Ξ xs,iv n,Ξ xs1,bv b1],θ [] true true];br b (Ag D (Awq 49 0) [ψ 0 0,ο 1 0 0 3,bv true] y2 [.t,.C,.x,.X,.Y] y1) (Ag D (Awq 49 0) [ψ 0 0,ο 1 0 0 3,bv false] y2
 [.t,.C,.x,.X,.Y] y1):=by kernel_rfl
theorem AlN(b0_0:Rw)(b0_1:Int)(b0_2:Rw)(b0_3:Bool)(n4:Nat)(c4:Ad)(t5:Bool):DI A D Ah Af9 .n 49 0 (AK Akg 0).fst (AK Akg 0).snd [ψ 0 0,ο 1 0 n4 3,bv t5] [bk [Ξ b0_0,iv b0_1,Ξ b0_2,bv b0_3],{ cells:=c4,st:=true,ex:=true }] =
 let y5:=λz1 z2 z3 z4=>bk [Ξ z1,iv z2,Ξ z3,bv z4];
 let y1:=λz1 z2 z3 z4 z5 z6 z7 z8=>br (A.eq z1 0) (br (Bh (n4+1) 40) (br ((0+n4*3).ble c4.length) (let y10:=[ψ 0 0,sv (Ai [45])];AN D (Ω 96) y10 [y5 z2 z3 z4 z5] λr2 o2=>dk [.b,.T,.L,.I,.L,.B,.N,.E] [.v r2,.o o2] λb4 xs4 n3 xs5 b5=>let y6:=[bv z6,sv z7,sv z8];let y3:=θ (Awv 0 (Aws (0+n4*3) c4)++y6) true true;let y2:=λz1 z2 z3 z4 z5 z6=>AO 2 [0,4] (AH.mk [(0,y5 z1 z2 z3 z4),(4,y3),(3,θ y6 true true),(2,bk y6)] 5 none) [1,0] z5 z6;let y4:=λz1 z2 z3 z4=>br ((0+(n4+1)*3).ble (Awv 0 (Aws (0+n4*3) c4)++y6).length) (some (γ [bv true,ψ 0 0,Ξ (By (n4+1) 3 (Aws ((n4+1)*3) (Awv 0 (Awv 0 (Aws (0+n4*3) c4)++y6)))),iv 0],[Awp (y5 z1 z2 z3 z4),BO.del])) none;let y9:=λz1 z2 z3 z4 z5 z6=>br z1 (z2 z3 z4 z5 z6) (Ag D (Ω 93) [ψ 0 0,sv (Ai [43])] [y5 z3 z4 z5 z6] [.b,.T,.L,.I,.L,.B,.N,.E] λb8 xs8 n6 xs9 b9=>br b8 (z2 xs8 n6 xs9 b9) (y4 xs8 n6 xs9 b9));br b4 (Ag D (Ω 93) y10 [y5 xs4 n3 xs5 b5] [.b,.T,.L,.I,.L,.B,.N,.E] λb6 xs6 n5 xs7 b7=>let y7:=λz1 z2 z3 z4=>AN D (Awq 49 0) [ψ 0 0,ο 1 0 (n4+1) 3,bv true] [y5 z1 z2 z3 z4,y3] λr4 o4=>y2 z1 z2 z3 z4 r4 o4;y9 b6 y7 xs6 n5 xs7 b7) (Ag D (Ω 93) y10 [y5 xs4 n3 xs5 b5] [.b,.T,.L,.I,.L,.B,.N,.E] λb6 xs6 n5 xs7 b7=>let y8:=λz1 z2 z3 z4=>AN D (Awq 49 0) [ψ 0 0,ο 1 0 (n4+1) 3,bv false] [y5 z1 z2 z3 z4,y3] λr4 o4=>y2 z1 z2 z3 z4 r4 o4;y9 b6 y8 xs6 n5 xs7 b7)) none) none) (some (γ [bv true,ψ 0 0,Ξ [],iv z1],[Awp (y5 z2 z3 z4 z5),BO.del]));
 let y11:=[bk [Ξ b0_0,iv b0_1,Ξ b0_2,bv b0_3]];br (A.eq (↑n4) 64) (Ag D (Ω 94) [ψ 0 0] y11 [.b,.T,.L,.I,.L,.B,.N,.E] λb xs n xs1 b1=>br b (some (γ [bv true,ψ 0 0,Ξ [],iv 3],
 [Awp (y5 xs n xs1 b1),BO.del])) (Ag D (Ω 95) [ψ 0 0,bv t5] [y5 xs n xs1 b1] [.t,.A,.B,.S,.S,.N,.I,.N,.T,.L,.I,.L,.B,.N,.E] λb2 s s1 n1 xs2 n2 xs3 b3=>y1 n1 xs2 n2 xs3 b3 b2 s s1)) (Ag D
 (Ω 95) [ψ 0 0,bv t5] y11 [.t,.A,.B,.S,.S,.N,.I,.N,.T,.L,.I,.L,.B,.N,.E] λb s s1 n xs n1 xs1 b1=>y1 n xs n1 xs1 b1 b s s1):=by kernel_rfl
theorem e90:Bp A D Ah ArH .n 90 AsF [] [] =
 some ((Ξ [[sv (Ai [61])],[sv (Ai [33,61])],[sv (Ai [60])],[sv (Ai [60,61])],[sv (Ai [62])],[sv (Ai [62,61])]],[])):=by kernel_rfl
theorem e88(x0:Rw)(x1:ByteArray):Bp A D Ah WA .n 88 Ag2 [Ξ x0,sv x1] [] =
 Ag D (Awq 88 0) [Ξ x0,sv x1,iv ↑(AU x0),iv 0] [] [.t,.C,.x,.X,.Y] λc l o=>
 br (Bf 0 c)
 (dk [.I,.N,.E] [.l l,.o o] λn=>
 some ((iv n,[])))
 (br (Bf 1 c)
 (Dp l<|
 CG o<|
 some ((iv (-1),[])))
 (none)):=by kernel_rfl
theorem Aax(t0:Rw)(t1:ByteArray)(t7 t8:Int):DI A D Ah WA .n 88 0 (AK Ag2 0).fst (AK Ag2 0).snd [Ξ t0,sv t1,iv t7,iv t8] [] =
 br (A.lt t8 t7)
 (unI t8 λi=>
 Bt t0 i λcs=>
 dk [.S,.N] [.l cs] λs=>
 br (A.seq t1 s)
 (some ((γ [bv true,iv t8],[])))
 (AN D (Awq 88 0) [Ξ t0,sv t1,iv t7,iv (A.add φ t8 1)] [] λr o=>
 AO 0 [] (AH.mk [] 0 none) [] r o))
 (some ((γ [iv 0],[]))):=by kernel_rfl
theorem AuA(x0:Rw)(x1:ByteArray):Bp A D Ah AmN .n 219 Ag0 [Ξ x0,sv x1] [] =
 Ag D (Ω 88) [Ξ x0,sv x1] [] [.i,.E] λn=>
 br (A.le 0 n)
 (some ((bv true,[])))
 (some ((bv false,[]))):=by kernel_rfl
end
section
variable {D:Orc}
theorem Ahe{α:Type}(l:List α)(h:l≠[])(d:α):l[l.length-1]? = some (l.getLastD d):=by
 rw[←List.getLast?_eq_getElem?,AyM h,List.getLastD_eq_getLast?,AyM h];rfl
theorem Ln(K:Knows Ah De D)(ts:List Tk)(vars:List ByteArray)(kn:Bool)(i:Nat)(hts:ts.length<4611686018427387904)(hi:i<4611686018427387904):D.ask (.fn 92) [.ptr 0 0] [BH ts vars kn i]=some (.agg (NT (nx ts i)),[.set (BH ts vars kn i)]):=by
 refine Ao K ArI (e92 ..) ?_;simp only[F9,Al,FX]
 by_cases h0:ts=[]
 .subst h0
  rw[Ac (by simp)];rfl
 .have hl:0<ts.length:=List.length_pos_iff.2 h0
  rw[Ab (by simp[h0])];have e1:Ak.sub .i64 (ts.length:Int) 1=((ts.length-1:Nat):Int):=by rw[Ip (by omega) (by omega)];omega
  obtain⟨k,e2,e3⟩:∃ k:Nat,Ak.min (Ak.max (i:Int) 0) (Ak.sub .i64 (ts.length:Int) 1)=(k:Int)/\ts[k]? = some (nx ts i):=by
   rw[e1,AsW,AoD];unfold nx
   by_cases h:i<ts.length
   .exact⟨i,by omega,by rw[Ψ h]⟩
   .exact⟨ts.length-1,by omega,by rw[Axj (show ts.length<=i by omega),Ahe ts h0 ⟨5,[],0,0⟩]⟩
  rw[e2,AD];rw[AA e3];simp only[NT,Ae];rfl
theorem Anf(K:Knows Ah De D)(ts:List Tk)(vars:List ByteArray)(kn:Bool)(i:Nat)(hts:ts.length<4611686018427387904)(hi:i<4611686018427387904)(s:List UInt8):D.ask (.fn 96) [.ptr 0 0,sv (Ai s)] [BH ts vars kn i]=some (bv (isT ts i s),[.set (BH ts vars kn i)]):=by
 refine Ao K ArM (e96 ..) ?_;refine Aa (Ln K ts vars kn i hts hi) ?_;unfold isT;simp only[NT,BH,Ae,ci0,ci1,ci2,ci3,ci4,ci5,ci6,Lh,Po,F9,GJ,BW,Hf,In,FX,HW]
 by_cases h1:(nx ts i).text=s<;>by_cases h2:(nx ts i).kind=1<;>by_cases h3:(nx ts i).kind=2<;>by_cases h4:(nx ts i).kind=4<;>simp[h1,h2,h3,h4]
theorem BZ(K:Knows Ah De D)(ts:List Tk)(vars:List ByteArray)(kn:Bool)(i:Nat)(hts:ts.length<4611686018427387904)(hi:i<4611686018427387904)(s:List UInt8):D.ask (.fn 93) [.ptr 0 0,sv (Ai s)] [BH ts vars kn i]=some (bv (isT ts i s),[.set (BH ts vars kn (if isT ts i s then i+1 else i))]):=by
 refine Ao K ArJ (e93 ..) ?_;refine Aa (Anf K ts vars kn i hts hi s) ?_;simp only[BH,Ae,Bv hi]
 cases isT ts i s<;>rfl
theorem AbV(K:Knows Ah De D)(ts:List Tk)(vars:List ByteArray)(kn:Bool)(i:Nat)(hts:ts.length<4611686018427387904)(hi:i<4611686018427387904)(s:List UInt8):D.ask (.fn 248) [.ptr 0 0,sv (Ai s)] [BH ts vars kn i]=some (iv (if isT ts i s then 0 else 101),[.set (BH ts vars kn (if isT ts i s then i+1 else i))]):=by
 refine Ao K AmX (AuN ..) ?_;refine Aa (BZ K ts vars kn i hts hi s) ?_;simp only[BH,Ae]
 cases isT ts i s<;>rfl
structure NameF (D:Orc):Prop where
 name:∀ s:List UInt8,s.length<4611686018427387904->D.ask (.fn 109) [sv (Ai s)] []=some (bv (Ce s),[])
def NF(ts:List Tk):Prop:=∀ i,(nx ts i).text.length<4611686018427387904
theorem Abh(K:Knows Ah De D)(L:NameF D)(ts:List Tk)(vars:List ByteArray)(kn:Bool)(i:Nat)(hts:ts.length<4611686018427387904)(hs:NF ts)(hi:i<4611686018427387904):D.ask (.fn 162) [.ptr 0 0] [BH ts vars kn i]=some (bv (isN ts i),[.set (BH ts vars kn i)]):=by
 refine Ao K Amv (At6 ..) ?_;refine Aa (Ln K ts vars kn i hts hi) ?_;unfold isN;simp only[NT,BH,Ae,ci0,ci1,ci2,ci3,ci4,ci5,ci6,Lh,Po,F9,GJ,BW,Hf,In]
 by_cases h:(nx ts i).kind=1
 .simp only[h,decide_true,Ae]
  refine Aa (L.name _ (hs i)) ?_;simp only[Ae]
  cases Ce (nx ts i).text<;>rfl
 .simp only[h,decide_false,Ae]
  rfl
theorem Ab7(K:Knows Ah De D)(L:NameF D)(ts:List Tk)(vars:List ByteArray)(kn:Bool)(i:Nat)(hts:ts.length<4611686018427387904)(hs:NF ts)(hi:i<4611686018427387904):D.ask (.fn 94) [.ptr 0 0] [BH ts vars kn i]=some (bv (Pb ts i),[.set (BH ts vars kn i)]):=by
 refine Ao K ArK (e94 ..) ?_;refine Aa (Ln K ts vars kn i hts hi) ?_;unfold Pb;simp only[NT,BH,Ae,ci0,ci1,ci2,ci3,ci4,ci5,ci6,Lh,Po,F9,GJ,BW,Hf,In]
 by_cases h:(nx ts i).kind=3
 .simp only[h,decide_true,Ae]
  rfl
 .simp only[h,decide_false,Ae]
  refine Aa (Abh K L ts vars kn i hts hs hi) ?_;simp only[BH,Ae]
  cases isN ts i<;>rfl
def Dj:Option Nat->Int
 |some j=>j
 |none=>-1
def GF(i:Nat):Option Nat->AV
 |some j=>.tup [bv true,iv ((i+j:Nat):Int)]
 |none=>.tup [iv 0]
theorem Agi(K:Knows Ah De D)(xs:List ByteArray)(hx:xs.length<4611686018427387904)(s:ByteArray):∀(k i:Nat),xs.length-i=k->D.ask (.lp 88 0) [.ls (xs.map eS),sv s,iv (xs.length:Int),iv (i:Int)] []=some (GF i ((xs.drop i).findIdx? (s = ·)),[]):=by
 intro k
 induction k with
 |zero=>
  intro i hi;refine Ax K WA (Aax ..) ?_;have:xs.drop i=[]:=υ (by omega);simp only[Lh,this,FX];rw[Ab (by simp;omega)];rfl
 |succ k ih=>
  intro i hi;have hlt:i<xs.length:=by omega
  refine Ax K WA (Aax ..) ?_;have e1:xs.drop i=xs[i]::xs.drop (i+1):=χ hlt;have ih':=ih (i+1) (by omega);have e2:Ak.add .i64 (i:Int) 1=((i+1:Nat):Int):=Bv (by omega);simp only[Lh,AD,Im,Ψ hlt,eS,Ae,GJ,e2,FX];rw[Ac (by simpa using hlt),e1,AyT]
  by_cases h:s=xs[i]
  .simp[←h,GF]
  .rw[Ab (by simpa using h),Ab (by simpa using h)]
   refine Aa ih' ?_
   cases (xs.drop (i+1)).findIdx? (s = ·) with
   |none=>rfl
   |some j=>
    simp only[GF,AwE,show i+(j+1)=i+1+j by omega];rfl
theorem WD(K:Knows Ah De D)(xs:List ByteArray)(hx:xs.length<4611686018427387904)(s:ByteArray):D.ask (.fn 88) [.ls (xs.map eS),sv s] []=some (iv (Dj (xs.findIdx? (s = ·))),[]):=by
 refine Ao K WA (e88 ..) ?_;rw[Al];refine Aa (Agi K xs hx s _ 0 rfl) ?_;rw[κ]
 cases xs.findIdx? (s = ·) with
 |none=>rfl
 |some j=>simp only[GF,Ae,AwJ];rfl
theorem Mh(xs:List ByteArray)(s:ByteArray):decide (0<=Dj (xs.findIdx? (s = ·)))=decide (s∈xs):=by
 cases e:xs.findIdx? (s = ·) with
 |none=>
  have:=Ay2.1 e;have h:s∉xs:=λh=>by simpa using this s h
  simp[Dj,h]
 |some j=>
  obtain⟨h,h2,_⟩:=AwZ.1 e;have:s∈xs:=by
   have h2:s=xs[j]:=by simpa using h2
   rw[h2];exact Awy h
  simp[Dj,this]
theorem VR(K:Knows Ah De D)(xs:List ByteArray)(hx:xs.length<4611686018427387904)(s:ByteArray):D.ask (.fn 219) [.ls (xs.map eS),sv s] []=some (bv (decide (s∈xs)),[]):=by
 refine Ao K AmN (AuA ..) ?_;refine Aa (WD K xs hx s) ?_;simp only[Ae,Po,Mh]
 cases decide (s∈xs)<;>rfl
theorem O5(K:Knows Ah De D)(L:NameF D)(ts:List Tk)(vars:List ByteArray)(kn:Bool)(i:Nat)(hts:ts.length<4611686018427387904)(hv:vars.length<4611686018427387904)(hs:NF ts)(hi:i<4611686018427387904):D.ask (.fn 163) [.ptr 0 0] [BH ts vars kn i]=some (.tup [sv (GQ ts vars kn i).2.2,iv ((GQ ts vars kn i).2.1:Int)],[.set (BH ts vars kn (GQ ts vars kn i).1)]):=by
 refine Ao K Amw (At7 ..) ?_;refine Aa (Ln K ts vars kn i hts hi) ?_;simp only[NT,BH,Ae];refine Aa (Abh K L ts vars kn i hts hs hi) ?_;unfold GQ;simp only[BH,Ae,Bv hi]
 cases isN ts i with
 |false=>rfl
 |true=>
  cases kn with
  |false=>rfl
  |true=>
   simp only[Ae,Bool.true_eq_false,if_false,true_and];refine Aa (VR K vars hv _) ?_;simp only[Ae]
   by_cases h:Ai (nx ts i).text∈vars<;>simp only[h,decide_true,decide_false,Ae,not_true,not_false_eq_true,if_true,if_false]<;>rfl
theorem AbU(ts:List Tk)(vars:List ByteArray)(kn:Bool)(i:Nat):i<=(GQ ts vars kn i).1/\(GQ ts vars kn i).1<=i+1:=by
 unfold GQ;split
 .simp
 .split<;>simp
theorem Ag5(ts:List Tk)(vars:List ByteArray)(kn:Bool)(i:Nat)(neg:Bool):i<=(A3 ts vars kn i neg).1/\(A3 ts vars kn i neg).1<=i+3:=by
 unfold A3;have h1:=AbU ts vars kn i;have h2:=AbU ts vars kn (i+2);split
 .split
  .simp only;omega
  .simp
 .simp only;omega
theorem Abg(K:Knows Ah De D)(L:NameF D)(ts:List Tk)(vars:List ByteArray)(kn:Bool)(i:Nat)(hts:ts.length<4611686018427387904)(hv:vars.length<4611686018427387904)(hs:NF ts)(hi:i+3<4611686018427387904)(neg:Bool):D.ask (.fn 95) [.ptr 0 0,bv neg] [BH ts vars kn i]=some (.tup [.agg (FZ (A3 ts vars kn i neg).2.2),iv ((A3 ts vars kn i neg).2.1:Int)],[.set (BH ts vars kn (A3 ts vars kn i neg).1)]):=by
 refine Ao K ArL (e95 ..) ?_;refine Aa (Ln K ts vars kn i hts (by omega)) ?_;unfold A3 FZ;simp only[NT,BH,Ae,ci0,ci1,ci2,ci3,ci4,ci5,ci6,Lh,Po,F9,GJ,BW,Hf,In]
 by_cases h:(nx ts i).kind=3
 .simp only[h,decide_true,Ae,Bv (show i<4611686018427387904 by omega),if_true]
  refine Aa (BZ K ts vars kn (i+1) hts (by omega) _) ?_;simp only[BH,Ae]
  cases isT ts (i+1) [42]with
  |false=>rfl
  |true=>
   simp only[if_true,Ae];refine Aa (O5 K L ts vars kn (i+2) hts hv hs (by omega)) ?_;simp only[BH,Ae]
 .simp only[h,decide_false,Ae,if_false]
  refine Aa (O5 K L ts vars kn i hts hv hs (by omega)) ?_;simp only[BH,Ae]
end
section
open Go.RowKit
variable (A:Ar) (D:Orc)
end
section
variable {D:Orc}
structure RNameF (D:Orc):Prop where
 name:∀ s:List UInt8,s.length<4611686018427387904->D.ask (.fn 77) [sv (Ai s)] []=some (bv (Ce s),[])
end
section
variable {D:Orc}
theorem PF(m:Mo):(FZ m).length=3:=rfl
theorem Sk{ts:List Tk}{vars:List ByteArray}{kn:Bool}{i:Nat}{neg:Bool}(h:Pb ts i=false):(A3 ts vars kn i neg).1=i/\(A3 ts vars kn i neg).2.1=101:=by
 unfold Pb at h;simp only[Bool.or_eq_false_iff,decide_eq_false_iff_not]at h;unfold A3 GQ;rw[Ab h.1,Ac h.2];exact⟨rfl,rfl⟩
theorem Ais(K:Knows Ah De D)(L:NameF D)(ts:List Tk)(vars:List ByteArray)(kn:Bool)(hts:ts.length<4611686018427387904)(hv:vars.length<4611686018427387904)(hs:NF ts):∀(k:Nat) (out:List Mo) (neg:Bool) (i:Nat),out.length+k=64->i+4*(k+1)<4611686018427387904->
  D.ask (.lp 49 0) [.ptr 0 0,.sl 1 0 out.length 3,bv neg] [BH ts vars kn i,θ (Av FZ out) true true]=some (.tup [bv true,.ptr 0 0,.ls ((EU ts vars kn k out neg i).2.2.map FZ),iv ((EU ts vars kn k out neg i).2.1:Int)],[.set (BH ts vars kn (EU ts vars kn k out neg i).1),.del]):=by
 intro k
 induction k with
 |zero=>
  intro out neg i hk hi;refine Ax K Af9 (AlN ..) ?_;have h64:decide ((out.length:Int)=64)=true:=by simp;omega
  simp only[F9,h64,AeJ];refine Aa (Ab7 K L ts vars kn i hts hs (by omega)) ?_;simp only[BH,Ae];unfold EU
  cases hb:Pb ts i with
  |true=>rfl
  |false=>
   simp only[Ae];refine Aa (Abg K L ts vars kn i hts hv hs (by omega) neg) ?_;obtain⟨h1,h2⟩:=Sk (vars:=vars) (kn:=kn) (neg:=neg) hb;simp only[BH,FZ,Ae,h1,h2];rfl
 |succ k ih=>
  intro out neg i hk hi;refine Ax K Af9 (AlN ..) ?_;have h64:decide ((out.length:Int)=64)=false:=by simp;omega
  simp only[F9,h64,AeH];refine Aa (Abg K L ts vars kn i hts hv hs (by omega) neg) ?_;have hle:=Ag5 ts vars kn i neg
  cases hb:Pb ts i with
  |false=>
   obtain⟨h1,h2⟩:=Sk (vars:=vars) (kn:=kn) (neg:=neg) hb;have e:EU ts vars kn (k+1) out neg i=(i,101,[]):=by unfold EU;rw[Ac hb]
   rw[e];simp only[BH,FZ,Ae,h1,h2];rfl
  |true=>
   by_cases he:(A3 ts vars kn i neg).2.1=0
   .have e3:Awv 0 (Aws (0+out.length*3) (Av FZ out))++[bv (A3 ts vars kn i neg).2.2.neg,sv (A3 ts vars kn i neg).2.2.num,sv (A3 ts vars kn i neg).2.2.var]=Av FZ (out++[(A3 ts vars kn i neg).2.2]):=by
     rw[κ,A9 PF out (by omega)];exact A8 FZ out _
    have hf:Bh (out.length+1) 40=true:=AL (by omega) (by omega);have hb1:Aww (0+out.length*3) (Av FZ out).length=true:=AJ PF out (by omega);have hd:decide (((A3 ts vars kn i neg).2.1:Int)=0)=true:=by rw[he];rfl
    have hb2:Aww (0+(out.length+1)*3) (Av FZ (out++[(A3 ts vars kn i neg).2.2])).length=true:=AJ PF _ (by simp);have hc:By (out.length+1) 3 (Aws ((out.length+1)*3) (Awv 0 (Av FZ (out++[(A3 ts vars kn i neg).2.2]))))=(out++[(A3 ts vars kn i neg).2.2]).map FZ:=by
     rw[κ];exact BQ PF _ (by simp)
    simp only[BH,FZ,Ae,F9,hd,hf,hb1,e3,hb2,hc];refine Aa (Anf K ts vars kn _ hts (by omega) _) ?_;have ih1:=ih (out++[(A3 ts vars kn i neg).2.2]) true ((A3 ts vars kn i neg).1+1) (by simp;omega) (by omega);have ih2:=ih (out++[(A3 ts vars kn i neg).2.2]) false ((A3 ts vars kn i neg).1+1) (by simp;omega) (by omega);rw[ζ,List.length_singleton]at ih1 ih2;have e:EU ts vars kn (k+1) out neg i=if isT ts (A3 ts vars kn i neg).1 [45] then EU ts vars kn k (out++[(A3 ts vars kn i neg).2.2]) true ((A3 ts vars kn i neg).1+1)
      else if isT ts (A3 ts vars kn i neg).1 [43] then EU ts vars kn k (out++[(A3 ts vars kn i neg).2.2]) false ((A3 ts vars kn i neg).1+1)
      else((A3 ts vars kn i neg).1,0,out++[(A3 ts vars kn i neg).2.2]):=by
     rw[EU,hb,Ab (by simp)];rw[Ab (by simp[he])]
    rw[e];simp only[BH,Ae];have tk:=BZ K ts vars kn (A3 ts vars kn i neg).1 hts (by omega) [45];have tp:=BZ K ts vars kn (A3 ts vars kn i neg).1 hts (by omega) [43]
    cases h45:isT ts (A3 ts vars kn i neg).1 [45]with
    |true=>
     rw[h45]at tk;simp only[Ae,if_true];refine Aa tk ?_;simp only[BH,Ae,if_true];refine Aa ih1 ?_;rfl
    |false=>
     rw[h45]at tk;simp only[Ae];refine Aa tk ?_;simp only[BH,Ae,Awx,if_false];refine Aa tp ?_;simp only[BH,Ae]
     cases h43:isT ts (A3 ts vars kn i neg).1 [43]with
     |true=>
      simp only[Ae,if_true];refine Aa ih2 ?_;rfl
     |false=>rfl
   .have e:EU ts vars kn (k+1) out neg i=((A3 ts vars kn i neg).1,(A3 ts vars kn i neg).2.1,[]):=by
     rw[EU,hb,Ab (by simp)];rw[Ac he]
    rw[e];have hd:decide (((A3 ts vars kn i neg).2.1:Int)=0)=false:=by simp;exact he
    simp only[BH,FZ,Ae,F9,hd];rfl
theorem Aiu(K:Knows Ah De D)(L:NameF D)(ts:List Tk)(vars:List ByteArray)(kn:Bool)(hts:ts.length<4611686018427387904)(hv:vars.length<4611686018427387904)(hs:NF ts)(i:Nat)(hi:i+300<4611686018427387904):D.ask (.fn 49) [.ptr 0 0] [BH ts vars kn i]=some (.tup [.ls ((Dk ts vars kn i).2.2.map FZ),iv ((Dk ts vars kn i).2.1:Int)],[.set (BH ts vars kn (Dk ts vars kn i).1)]):=by
 refine Ao K Af9 (e49 ..) ?_;refine Aa (BZ K ts vars kn i hts (by omega) _) ?_;unfold Dk;simp only[BH,Ae]
 cases isT ts i [45]with
 |true=>
  simp only[Ae,if_true];refine Aa (Ais K L ts vars kn hts hv hs 64 [] true (i+1) rfl (by omega)) ?_;rfl
 |false=>
  simp only[Ae,Awx,if_false];refine Aa (Ais K L ts vars kn hts hv hs 64 [] false i rfl (by omega)) ?_;rfl
end
section
open Go.RowKit
def Abb:MFn:=IZ ε BM [⟨19,(mB 387),[],[],[(0,((mB 16),([],[]))),(1,([],([],[])))]⟩] false true 262
def Wv:Hnt:=⟨[(93,(.bool,[.box CJ]))],[(0,[(0,([.int .i64],[.box CJ])),(1,([],[.box CJ]))])],[(14,[.str]),(15,[.str])]⟩
def Ar6:MFn:=IZ ε BM [⟨46,(mB 13343),[],[10,12],[(1,((mB 13313),([],[])))]⟩] false true 164
def Aom:MFn:=IZ ε BM [] false true 249
def AmY:Hnt:=⟨[(49,(.tup Rr,[.box CJ])),(90,(.ls,[])),(262,(.int .i64,[.box CJ]))],[],[]⟩
def Ar8:MFn:=IZ ε BM [] false true 220
def Ar7:MFn:=IZ ε BM [] false true 165
def Ar4:MFn:=IZ ε BM [] false true 104
def Avs:MFn:=IZ ε BM [] false true 54
def Jq:List (Nat × MFn):=[(262,Abb),(164,Ar6),(249,Aom),(220,Ar8),(165,Ar7),(104,Ar4),(54,Avs)]
variable (A:Ar) (D:Orc)
theorem AuW(x0 p_0:Rw)(p_1:Int)(p_2:Rw)(p_3:Bool):Bp A D Ah Wv .n 262 Abb [Ξ x0,AwG (Fn.func 93) [ψ 0 0] []] [bk [Ξ p_0,iv p_1,Ξ p_2,bv p_3]] =
 Ag D (Awq 262 0) [Ξ x0,AwG (Fn.func 93) [ψ 0 0] [],iv ↑(AU x0),iv 0] [bk [Ξ p_0,iv p_1,Ξ p_2,bv p_3]] [.t,.C,.x,.X,.Y] λc l o=>
 br (Bf 0 c)
 (dk [.I,.N,.T,.L,.I,.L,.B,.N,.E] [.l l,.o o] λn xs n1 xs1 b=>
 some ((iv n,[Awp (bk [Ξ xs,iv n1,Ξ xs1,bv b])])))
 (br (Bf 1 c)
 (dk [.N,.T,.L,.I,.L,.B,.N,.E] [.l l,.o o] λxs n xs1 b=>
 some ((iv (-1),[Awp (bk [Ξ xs,iv n,Ξ xs1,bv b])])))
 (none)):=by kernel_rfl
theorem Afr(x0 p_0:Rw)(p_1:Int)(p_2:Rw)(p_3:Bool)(t7 t8:Int):DI A D Ah Wv .n 262 0 (AK Abb 0).fst (AK Abb 0).snd [Ξ x0,AwG (Fn.func 93) [ψ 0 0] [],iv t7,iv t8] [bk [Ξ p_0,iv p_1,Ξ p_2,bv p_3]] =
 br (A.lt t8 t7) (unI t8 λi=>Bt x0 i λcs=>dk [.S,.N] [.l cs] λs=>Ag D (Ω 93) [ψ 0 0,sv s] [bk [Ξ p_0,iv p_1,Ξ p_2,bv p_3]] [.b,.T,.L,.I,.L,.B,.N,.E] λb xs n xs1 b1=>
 let y1:=bk [Ξ xs,iv n,Ξ xs1,bv b1];br b (some (γ [bv true,iv t8],[Awp y1])) (AN D (Awq 262 0) [Ξ x0,AwG (Fn.func 93) [ψ 0 0] [],iv t7,iv (A.add φ t8 1)] [y1] λr1 o1=>
 AO 1 [0] (AH.mk [(0,y1)] 1 none) [0] r1 o1)) (some (γ [iv 0],[BO.keep])):=by kernel_rfl
theorem AuO(p0_0:Rw)(p0_1:Int)(p0_2:Rw)(p0_3:Bool):Bp A D Ah AmY .n 249 Aom [ψ 0 0] [bk [Ξ p0_0,iv p0_1,Ξ p0_2,bv p0_3]] =
 Ag D (Ω 49) [ψ 0 0] [bk [Ξ p0_0,iv p0_1,Ξ p0_2,bv p0_3]] [.t,.L,.I,.N,.T,.L,.I,.L,.B,.N,.E] λxs n xs1 n1 xs2 b=>
 let y1:=Φ [iv 0,Ξ [],Ξ [],iv 0,sv (Ai []),sv (Ai []),Ξ []];let y2:=λz1 z2 z3 z4=>bk [Ξ z1,iv z2,Ξ z3,bv z4];br (A.eq n 0) (Ag D (Ω 90) [] [] [.l,.E] λxs3=>Ag D
 (Ω 262) [Ξ xs3,AwG (Fn.func 93) [ψ 0 0] []] [y2 xs1 n1 xs2 b] [.i,.T,.L,.I,.L,.B,.N,.E] λn2 xs4 n3 xs5 b1=>br (A.lt n2 0) (some (γ [y1,iv 101],[Awp (y2 xs4 n3 xs5 b1)])) (Ag D (Ω 49)
 [ψ 0 0] [y2 xs4 n3 xs5 b1] [.t,.L,.I,.N,.T,.L,.I,.L,.B,.N,.E] λxs6 n4 xs7 n5 xs8 b2=>br (A.eq n4 0) (some (γ [Φ [iv 2,Ξ xs,Ξ xs6,iv n2,sv (Ai []),sv (Ai []),Ξ []],iv 0],
 [Awp (y2 xs7 n5 xs8 b2)])) (some (γ [y1,iv n4],[Awp (y2 xs7 n5 xs8 b2)])))) (some (γ [y1,iv n],[Awp (y2 xs1 n1 xs2 b)])):=by kernel_rfl
end
section
variable {D:Orc}
def eOp(s:List UInt8):Ad:=[sv (Ai s)]
theorem OB(K:Knows Ah De D):D.ask (.fn 90) [] []=some (.ls (E2.map eOp),[]):=
 K.fn' ArH _ rfl ((e90 ..).trans rfl)
def ArX(b:Bool)(x:ABlk):List BO:=if b then [.set x] else [.keep]
def Ahw(ts:List Tk)(vars:List ByteArray)(kn:Bool)(i j:Nat)(b:Bool):Option Nat->AV × List BO
 |some m=>(.tup [bv true,iv ((j+m:Nat):Int)],[.set (BH ts vars kn (i+1))])
 |none=>(.tup [iv 0],ArX b (BH ts vars kn i))
theorem Akz(K:Knows Ah De D)(Kb:Knows Ah Jq D){ts:List Tk}(H:Toks ts)(vars:List ByteArray)(kn:Bool)(i:Nat)(hi:i<=ts.length)(xs:List (List UInt8))(hx:xs.length<4611686018427387904):∀(k j:Nat),xs.length-j=k->
  D.ask (.lp 262 0) [.ls (xs.map eOp),.fn (.func 93) [.ptr 0 0] [],iv (xs.length:Int),iv (j:Int)] [BH ts vars kn i]=some (Ahw ts vars kn i j (decide (j<xs.length)) ((xs.drop j).findIdx? (isT ts i))):=by
 have hl:=H.len;intro k
 induction k with
 |zero=>
  intro j hj;refine Ax Kb Wv (Afr ..) ?_;have h1:xs.drop j=[]:=υ (by omega);have h2:decide ((j:Int)<(xs.length:Int))=false:=by simp;omega
  have h3:decide (j<xs.length)=false:=by simp;omega
  simp only[Lh,h1,h2,h3,AeH];rfl
 |succ k ih=>
  intro j hj;have hlt:j<xs.length:=by omega
  refine Ax Kb Wv (Afr ..) ?_;have e1:xs.drop j=xs[j]::xs.drop (j+1):=χ hlt;have ih':=ih (j+1) (by omega);have h2:decide ((j:Int)<(xs.length:Int))=true:=by simp;omega
  have h3:decide (j<xs.length)=true:=by simp;omega
  simp only[Lh,h2,h3,AeJ,AD,Im,Ψ hlt,eOp,Ae,e1,AyT];refine Aa (BZ K ts vars kn i (by omega) (by omega) _) ?_;simp only[BH,Ae]
  cases hT:isT ts i xs[j]with
  |true=>
   simp only[Ae,if_true];rfl
  |false=>
   simp only[Ae,Awx,if_false,Bv (show j<4611686018427387904 by omega)];refine Aa ih' ?_
   cases (xs.drop (j+1)).findIdx? (isT ts i) with
   |none=>cases decide (j+1<xs.length)<;>rfl
   |some m=>
    simp only[Ahw,AwE,show j+(m+1)=j+1+m by omega];rfl
def Ap3(ts:List Tk)(i:Nat):Nat:=match opP ts i with
 |some _=>i+1
 |none=>i
theorem AkA(K:Knows Ah De D)(Kb:Knows Ah Jq D){ts:List Tk}(H:Toks ts)(vars:List ByteArray)(kn:Bool)(i:Nat)(hi:i<=ts.length):D.ask (.fn 262) [.ls (E2.map eOp),.fn (.func 93) [.ptr 0 0] []] [BH ts vars kn i]=some (iv (Dj (opP ts i)),[.set (BH ts vars kn (Ap3 ts i))]):=by
 refine Ao Kb Wv (AuW ..) ?_;rw[Al];refine Aa (Akz K Kb H vars kn i hi E2 (by decide) _ 0 rfl) ?_;rw[κ];unfold Ap3
 show _=some (iv (Dj (opP ts i)),_)
 unfold opP
 cases E2.findIdx? (isT ts i) with
 |none=>rfl
 |some j=>simp only[Ahw,BH,Ae,AwJ];rfl
theorem YA(K:Knows Ah De D)(Kb:Knows Ah Jq D)(L:NameF D){ts:List Tk}(H:Toks ts)(vars:List ByteArray)(kn:Bool)(hv:vars.length<4611686018427387904)(i:Nat)(hi:i<=ts.length):D.ask (.fn 249) [.ptr 0 0] [BH ts vars kn i]=some (.tup [.agg (BR (JH ts vars kn i).2.2),iv ((JH ts vars kn i).2.1:Int)],[.set (BH ts vars kn (JH ts vars kn i).1)]):=by
 have hl:=H.len;refine Ao Kb AmY (AuO ..) ?_;refine Aa (Aiu K L ts vars kn (by omega) hv H.short i (by omega)) ?_;have m:=Rx H vars kn hi;unfold JH;simp only[BH,Ae,F9,ci0]
 by_cases h0:(Dk ts vars kn i).2.1=0
 .simp only[h0,decide_true,Ae,ne_eq,not_true,if_false]
  refine Aa (OB K) ?_;simp only[Ae];refine Aa (AkA K Kb H vars kn _ m.le) ?_;simp only[BH,Ae,Lh];unfold Ap3
  cases ho:opP ts (Dk ts vars kn i).1 with
  |none=>rfl
  |some op=>
   have h1:decide (Dj (some op)<0)=false:=Be (show ¬ ((op:Int)<0) by omega);have h2:=Abn H ho;simp only[h1,Ae];refine Aa (Aiu K L ts vars kn (by omega) hv H.short ((Dk ts vars kn i).1+1) (by omega)) ?_;simp only[BH,Ae,F9,ci0]
   by_cases h3:(Dk ts vars kn ((Dk ts vars kn i).1+1)).2.1=0
   .simp only[h3,decide_true,Ae,ne_eq,not_true,if_false]
    rfl
   .simp only[h3,decide_false,Ae,ne_eq,not_false_eq_true,if_true]
    rfl
 .simp only[h0,decide_false,Ae,ne_eq,not_false_eq_true,if_true]
  rfl
end
set_option linter.unusedSectionVars false
section
variable {D:Orc}
def Vx(x:Tr):ABlk:=θ (BR x) true false
variable (K:Knows Ah De D) (Kb:Knows Ah Jq D) (L:NameF D) {ts:List Tk} (H:Toks ts) (vars:List ByteArray) (kn:Bool) (hv:vars.length<4611686018427387904)
include K Kb L H hv
end
section
variable {D:Orc}
def tz:ABlk:=θ [.ls [],iv 0,.ls [],bv false] true false
end



section
open Go.RowKit
def Avo:MFn:=BL [⟨31,(mB 102),[],[2],[(1,((mB 32),([],[2])))]⟩] 21
def Akc:MFn:=BL [⟨26,(mB 35),[],[],[(0,((mB 16),([],[]))),(1,([],([],[])))]⟩] 19
def Af4:Hnt:=⟨[],[(0,[(0,([.bool],[])),(1,([],[]))])],[(19,Iz),(20,Iz),(23,Iz),(24,Iz)]⟩
def Akd:MFn:=BL [⟨76,(mB 44),[],[2,3],[(0,((mB 16),([],[2,3]))),(1,([],([],[2,3])))]⟩] 20
def Af5:Hnt:=⟨[(19,(.bool,[])),(20,(.bool,[]))],[(0,[(0,([.bool],[.del,.del])),(1,([],[.del,.del]))])],[(7,[.int .i64]),(9,[.int .i64]),(13,[.int .i64]),(15,[.int .i64]),(20,[.str]),(22,[.str]),(27,[.str]),(29,[.str]),(34,[.ls]),(36,[.ls]),(42,[.ls]),(44,[.ls]),(50,[.ls]),(53,[.ls]),(59,[.ls]),(65,[.ls]),(67,Bb),(68,Bb),(70,[.ls]),(72,Bb),(73,Bb)]⟩
def TG:List (Nat × MFn):=[(21,Avo),(19,Akc),(20,Akd)]
variable (A:Ar) (D:Orc)
theorem e19(x0 x1:Rw):Bp A D Ah Af4 .n 19 Akc [Ξ x0,Ξ x1] [] =
 br (A.eq ↑(AU x0) ↑(AU x1))
 (Ag D (Awq 19 0) [Ξ x0,Ξ x1,iv 0] [] [.t,.C,.x,.X,.Y] λc l o=>
 br (Bf 0 c)
 (dk [.B,.N,.E] [.l l,.o o] λb=>
 some ((bv b,[])))
 (br (Bf 1 c)
 (Dp l<|
 CG o<|
 some ((bv true,[])))
 (none)))
 (some ((bv false,[]))):=by kernel_rfl
theorem AlJ(t0 t1:Rw)(t5:Int):DI A D Ah Af4 .n 19 0 (AK Akc 0).fst (AK Akc 0).snd [Ξ t0,Ξ t1,iv t5] [] =
 br (A.lt t5 ↑(AU t0))
 (unI t5 λi=>
 Bt t0 i λcs=>
 dk [.B,.S,.S,.N] [.l cs] λb s s1=>
 unI t5 λi1=>
 Bt t1 i1 λcs1=>
 dk [.B,.S,.S,.N] [.l cs1] λb1 s2 s3=>
 br (A.not (A.band (A.beq b b1) (A.band (A.seq s s2) (A.band (A.seq s1 s3) true))))
 (some ((γ [bv true,bv false],[])))
 (AN D (Awq 19 0) [Ξ t0,Ξ t1,iv (A.add φ t5 1)] [] λr o=>
 AO 0 [] (AH.mk [] 0 none) [] r o))
 (some ((γ [iv 0],[]))):=by kernel_rfl
theorem e20(x0_0:Int)(x0_1 x0_2:Rw)(x0_3:Int)(x0_4 x0_5:ByteArray)(x0_6:Rw)(x1_0:Int)(x1_1 x1_2:Rw)(x1_3:Int)(x1_4 x1_5:ByteArray)(x1_6:Rw):Bp A D Ah Af5 .n 20 Akd [Φ [iv x0_0,Ξ x0_1,Ξ x0_2,iv x0_3,sv x0_4,sv x0_5,Ξ x0_6],Φ [iv x1_0,Ξ x1_1,Ξ x1_2,iv x1_3,sv x1_4,sv x1_5,Ξ x1_6]] [] =
 let y1:=some (bv false,[]);br (A.eq x0_0 x1_0) (br (A.eq x0_3 x1_3) (br (A.seq x0_4 x1_4) (br (A.seq x0_5 x1_5) (Ag D (Ω 19) [Ξ x0_1,Ξ x1_1] [] [.b,.E] λb=>br b (Ag D (Ω 19) [Ξ x0_2,Ξ
 x1_2] [] [.b,.E] λb1=>br b1 (br (A.eq ↑(AU x0_6) ↑(AU x1_6)) (Ag D (Awq 20 0) [ψ 0 0,ψ 1 0,iv 0] [bk [iv x0_0,Ξ x0_1,Ξ x0_2,iv x0_3,sv x0_4,sv x0_5,Ξ x0_6],bk [iv x1_0,Ξ x1_1,
 Ξ x1_2,iv x1_3,sv x1_4,sv x1_5,Ξ x1_6]] [.t,.C,.x,.X,.Y] λc l o2=>br (Bf 0 c) (dk [.B,.N,.D,.D,.E] [.l l,.o o2] λb2=>some (bv b2,[])) (br (Bf 1 c) (dk [.N,.D,.D,.E,.w] [.l l,.o o2] λ_
 =>some (bv true,[])) none)) y1) y1) y1) y1) y1) y1) y1:=by kernel_rfl
theorem AlK(b2_0:Int)(b2_1 b2_2:Rw)(b2_3:Int)(b2_4 b2_5:ByteArray)(b2_6:Rw)(b3_0:Int)(b3_1 b3_2:Rw)(b3_3:Int)(b3_4 b3_5:ByteArray)(b3_6:Rw)(t5:Int):DI A D Ah Af5 .n 20 0 (AK Akd 0).fst (AK Akd 0).snd [ψ 0 0,ψ 1 0,iv t5] [bk [iv b2_0,Ξ b2_1,Ξ b2_2,iv b2_3,sv b2_4,sv b2_5,Ξ b2_6],bk [iv b3_0,Ξ b3_1,Ξ b3_2,iv b3_3,sv b3_4,sv b3_5,Ξ b3_6]] =
 br (A.lt t5 ↑(AU b2_6)) (unI t5 λi=>Bt b2_6 i λcs=>dk [.I,.L,.L,.I,.S,.S,.L,.N] [.l cs] λn xs xs1 n1 s s1 xs2=>unI t5 λi1=>Bt b3_6 i1 λcs1=>dk [.I,.L,.L,.I,.S,.S,.L,.N] [.l cs1] λn2
 xs3 xs4 n3 s2 s3 xs5=>Ag D (Ω 20) [Φ [iv n,Ξ xs,Ξ xs1,iv n1,sv s,sv s1,Ξ xs2],Φ [iv n2,Ξ xs3,Ξ xs4,iv n3,sv s2,sv s3,Ξ xs5]] [] [.b,.E] λb=>br b
 (let y1:=bk [iv b2_0,Ξ b2_1,Ξ b2_2,iv b2_3,sv b2_4,sv b2_5,Ξ b2_6];let y2:=bk [iv b3_0,Ξ b3_1,Ξ b3_2,iv b3_3,sv b3_4,sv b3_5,Ξ b3_6];AN D (Awq 20 0) [ψ 0 0,ψ 1 0,iv
 (A.add φ t5 1)] [y1,y2] λr1 o1=>AO 2 [0,1] (AH.mk [(1,y2),(0,y1)] 2 none) [0,1] r1 o1) (some (γ [bv true,bv false],[BO.del,BO.del]))) (some (γ [iv 0],[BO.del,BO.del])):=by kernel_rfl
end
section
variable {D:Orc}
theorem AsV(b:Bool)(s v:ByteArray):Ak.not (Ak.band (Ak.beq b b) (Ak.band (Ak.seq s s) (Ak.band (Ak.seq v v) true)))=false:=by
 rw[In,GJ,GJ,AW rfl,AW rfl]
 cases b<;>rfl
theorem ZV(K:Knows Ah TG D)(l:List Mo)(hl:l.length<4611686018427387904):∀(k i:Nat),l.length-i=k->D.ask (.lp 19 0) [.ls (l.map FZ),.ls (l.map FZ),iv (i:Int)] []=some (.tup [iv 0],[]):=by
 intro k
 induction k with
 |zero=>
  intro i hi;refine Ax K Af4 (AlJ ..) ?_;rw[Al];refine Ap ?_;rfl
 |succ k ih=>
  intro i hi;have hlt:i<l.length:=by omega
  refine Ax K Af4 (AlJ ..) ?_;rw[Al];refine Au ?_;simp only[AD,Im,Ψ hlt,FZ,Ae,AsV,Bv (show i<4611686018427387904 by omega)];refine Aa (ih (i+1) (by omega)) ?_;rfl
theorem Ro(K:Knows Ah TG D)(l:List Mo)(hl:l.length<4611686018427387904):D.ask (.fn 19) [.ls (l.map FZ),.ls (l.map FZ)] []=some (bv true,[]):=by
 refine Ao K Af4 (e19 ..) ?_;refine Aw ?_ rfl;refine Aa (ZV K l hl _ 0 rfl) ?_;rfl
inductive WfT:Tr->Prop where
 |mk {k:Int} {l r:List Mo} {op:Int} {p q:ByteArray} {ks:List Tr} (hl:l.length<4611686018427387904) (hr:r.length<4611686018427387904) (hk:ks.length<4611686018427387904) (h:∀ x∈ks,WfT x):WfT (.mk k l r op p q ks)
theorem AbF(K:Knows Ah TG D):∀(n:Nat) (t:Tr),SizeOf.sizeOf t<n->WfT t->D.ask (.fn 20) [.agg (BR t),.agg (BR t)] []=some (bv true,[]):=by
 intro n
 induction n with
 |zero=>intro t h;omega
 |succ n ih=>
  intro t hn hw;obtain⟨hl,hr,hk,hw⟩:=hw;rename_i k l r op p q ks;have lp:∀(m i:Nat),ks.length-i=m->D.ask (.lp 20 0) [.ptr 0 0,.ptr 1 0,iv (i:Int)] [Vx (.mk k l r op p q ks),Vx (.mk k l r op p q ks)]=some (.tup [iv 0],[.del,.del]):=by
   intro m
   induction m with
   |zero=>
    intro i hi;refine Ax K Af5 (AlK ..) ?_;rw[CP,Al];refine Ap ?_;rfl
   |succ m ihm=>
    intro i hi;have hlt:i<ks.length:=by omega
    have g:D.ask (.fn 20) [.agg (BR ks[i]),.agg (BR ks[i])] []=some (bv true,[]):=by
     refine ih _ ?_ (hw _ (Awy hlt));have:=List.sizeOf_lt_of_mem (Awy hlt);simp only[Tr.mk.sizeOf_spec]at hn;omega
    have g2:=ihm (i+1) (by omega);refine Ax K Af5 (AlK ..) ?_;rw[CP,Al];refine Au ?_;simp only[AD,Im,Ψ hlt];revert g;rcases ks[i]with⟨k',l',r',o',p',q',ks'⟩;intro g;simp only[BR,Ae,Bv (show i<4611686018427387904 by omega)];refine Aa g ?_;simp only[Ae,←CP];refine Aa g2 ?_;rfl
  refine Ao K Af5 (e20 ..) ?_;refine Aw ?_ rfl;refine Aw ?_ rfl;refine Fv rfl ?_;refine Fv rfl ?_;refine Aa (Ro K l hl) ?_;simp only[Ae];refine Aa (Ro K r hr) ?_;simp only[Ae];refine Aw ?_ rfl;refine Aa (lp _ 0 rfl) ?_;rfl
end
section
variable (ts:List Tk) (vars:List ByteArray) (kn:Bool)
theorem AqJ:WfT T0:=.mk (by decide) (by decide) (by decide) (by simp)
end
def AS(m:Mo):Bool:=(decide (m.num≠Ai [])||decide (m.var≠Ai []))&&(decide (m.num=Ai [])||DZ m.num.data.toList)&&(decide (m.var=Ai [])||Ce m.var.data.toList)
def IG(ms:List Mo):Bool:=decide (0<ms.length)&&decide (ms.length<=64)&&ms.all AS
def CC(m:Mo):List UInt8:=if m.num≠Ai []/\m.var≠Ai [] then m.num.data.toList++[42]++m.var.data.toList else m.num.data.toList++m.var.data.toList
def Nn(i:Nat)(m:Mo):List UInt8:=if m.neg then(if i=0 then [45] else [32,45,32]) else if i=0 then [] else [32,43,32]
def CA:Nat->List Mo->List UInt8
 |_,[]=>[]
 |i,m::r=>Nn i m++CC m++CA (i+1) r
theorem Ry(m:Mo):∀(l:List Mo) (i:Nat),CA i (l++[m])=CA i l++Nn (i+l.length) m++CC m
 |[],i=>by simp[CA]
 |x::r,i=>by
  rw[List.cons_append,CA,CA,Ry m r (i+1)];simp[Awr,show i+1+r.length=i+(r.length+1) by omega]
theorem Z5(ms:List Mo)(k:Nat)(h:k<ms.length):CA 0 (ms.take (k+1))=CA 0 (ms.take k)++Nn k ms[k]++CC ms[k]:=by
 rw[List.take_succ_eq_append_getElem h,Ry,List.length_take,AwJ,Nat.min_eq_left (by omega)]
theorem Q3{l:List UInt8}(h:DZ l=true):l.length<=60:=by
 unfold DZ at h;simp only[η,decide_eq_true_eq]at h;exact h.1.1.2
theorem EB{l:List UInt8}(h:Ce l=true):l.length<=20:=by
 unfold Ce GR at h;simp only[η,decide_eq_true_eq]at h;exact h.1.1.1.2
theorem QS{m:Mo}(h:AS m=true):(CC m).length<=81:=by
 unfold AS at h;simp only[η,AxM,decide_eq_true_eq]at h;have h1:m.num.data.toList.length<=60:=by
  rcases h.1.2 with h|h
  .rw[h];simp[Ai]
  .exact Q3 h
 have h2:m.var.data.toList.length<=20:=by
  rcases h.2 with h|h
  .rw[h];simp[Ai]
  .exact EB h
 unfold CC;split<;>simp only[ζ,π,List.length_nil]<;>omega
theorem Aie(i:Nat)(m:Mo):(Nn i m).length<=3:=by
 unfold Nn
 repeat' split
 all_goals simp
theorem IA:∀(l:List Mo) (i:Nat),l.all AS=true->(CA i l).length<=84*l.length
 |[],_,_=>by simp[CA]
 |m::r,i,h=>by
  rw[Axn,η]at h;have h1:=QS h.1;have h2:=Aie i m;have h3:=IA r (i+1) h.2;simp only[CA,ζ,π];omega
def C0(ms:List Mo):List UInt8:=if IG ms then CA 0 ms else []
theorem Acb(s:ByteArray):Ai s.data.toList=s:=by
 obtain⟨s⟩:=s;simp[Ai]
theorem JG(a b:ByteArray):a++b=Ai (a.data.toList++b.data.toList):=by
 rw[←Acb (a++b)];simp
theorem Dg(l:List UInt8):(Ai l).data.toList=l:=by simp[Ai]
theorem Cy(l:List UInt8):(Ai l).size=l.length:=by simp[Ai,ByteArray.size]
theorem K6(s:ByteArray):s.size=s.data.toList.length:=by simp
def WzM(m:Mo):Prop:=m.num.size<=9223372036854775807/\m.var.size<=9223372036854775807
section
variable {D:Orc}
structure LexN (D:Orc):Prop where
 name:∀ s:ByteArray,s.size<=9223372036854775807->D.ask (.fn 109) [sv s] []=some (bv (Ce s.data.toList),[])
 num:∀ s:ByteArray,s.size<=9223372036854775807->D.ask (.fn 108) [sv s] []=some (bv (DZ s.data.toList),[])
variable (K:Knows Ah FS D)
include K
theorem U8(L:LexN D)(m:Mo)(hm:WzM m):D.ask (.fn 61) [.agg (FZ m)] []=some (bv (AS m),[]):=by
 obtain⟨ng,nu,va⟩:=m;obtain⟨h1,h2⟩:=hm;refine Ao K Arz (e61 ..) ?_;have g1:=L.num nu h1;have g2:=L.name va h2;unfold AS;simp only at h1 h2 ⊢;simp only[GJ]
 by_cases hn:nu=Ai []<;>by_cases hv:va=Ai []<;>simp only[hn,hv,decide_true,decide_false,Ae,not_true,not_false_eq_true,ne_eq,Bool.or_self,Aw3,Bool.true_and,Bool.and_self,Bool.true_or,Bool.or_true,Bool.false_or,Ayl]
 .refine Aa g2 ?_
  simp only[Ae]
  cases Ce va.data.toList<;>rfl
 .refine Aa g1 ?_
  simp only[Ae]
  cases DZ nu.data.toList<;>rfl
 .refine Aa g1 ?_
  simp only[Ae]
  cases DZ nu.data.toList with
  |false=>rfl
  |true=>
   simp only[Ae];refine Aa g2 ?_;simp only[Ae]
   cases Ce va.data.toList<;>rfl
theorem Aqk(L:LexN D)(m:Mo)(hm:WzM m):D.ask (.fn 60) [.agg (FZ m)] []=some (bv (!AS m),[]):=by
 have g:=U8 K L m hm;obtain⟨ng,nu,va⟩:=m;refine Ao K Ary (e60 ..) ?_;refine Aa g ?_;simp only[Ae]
 cases AS ⟨ng,nu,va⟩<;>rfl
theorem Apy(L:LexN D)(ms:List Mo)(hm:∀ m∈ms,WzM m)(hl:ms.length<4611686018427387904):∀(k i:Nat),ms.length-i=k->D.ask (.lp 107 0) [.ls (ms.map FZ),.fn (.func 60) [] [],iv (ms.length:Int),iv (i:Int)] []=some (GF i ((ms.drop i).findIdx? λm=>!AS m),[]):=by
 intro k
 induction k with
 |zero=>
  intro i hi;refine Ax K Wb (Ae0 ..) ?_;have:ms.drop i=[]:=υ (by omega);simp only[Lh,this,FX];rw[Ab (by simp;omega)];rfl
 |succ k ih=>
  intro i hi;have hlt:i<ms.length:=by omega
  refine Ax K Wb (Ae0 ..) ?_;have e1:ms.drop i=ms[i]::ms.drop (i+1):=χ hlt;have ih':=ih (i+1) (by omega);have g:=Aqk K L ms[i] (hm _ (Awy hlt));refine Au ?_;rw[AD,AA (Ψ hlt),e1,AyT];revert g;generalize ms[i]=m;obtain⟨ng,nu,va⟩:=m;intro g;simp only[FZ,Ae];refine Aa g ?_;simp only[Ae]
  cases AS ⟨ng,nu,va⟩ with
  |false=>
   simp only[Bool.not_false,if_true];rfl
  |true=>
   simp only[Bool.not_true,Awx,if_false,Bv (show i<4611686018427387904 by omega)];refine BF ?_;refine Aa ih' ?_
   cases (ms.drop (i+1)).findIdx? λm=>!AS m with
   |none=>rfl
   |some j=>
    simp only[GF,AwE,show i+(j+1)=i+1+j by omega];rfl
theorem Apz(L:LexN D)(ms:List Mo)(hm:∀ m∈ms,WzM m)(hl:ms.length<4611686018427387904):D.ask (.fn 107) [.ls (ms.map FZ),.fn (.func 60) [] []] []=some (iv (Dj (ms.findIdx? λm=>!AS m)),[]):=by
 refine Ao K Wb (Atx ..) ?_;rw[Al];refine Aa (Apy K L ms hm hl _ 0 rfl) ?_;rw[κ]
 cases ms.findIdx? λm=>!AS m with
 |none=>rfl
 |some j=>simp only[GF,Ae,AwJ];rfl
omit K in
theorem ZL(ms:List Mo):decide (0<=Dj (ms.findIdx? λm=>!AS m)) = !ms.all AS:=by
 cases e:ms.findIdx? λm=>!AS m with
 |none=>
  have h:=Ay2.1 e;have:ms.all AS=true:=Awu.2 λx hx=>by simpa using h x hx
  simp[Dj,this]
 |some j=>
  obtain⟨h,h2,_⟩:=AwZ.1 e;have:ms.all AS=false:=by
   rw[Bool.eq_false_iff];intro ha;have:=Awu.1 ha _ (Awy h);rw[this]at h2
   cases h2
  simp[Dj,this]
theorem Hh(L:LexN D)(ms:List Mo)(hm:∀ m∈ms,WzM m)(hl:ms.length<4611686018427387904):D.ask (.fn 23) [.ls (ms.map FZ)] []=some (bv (IG ms),[]):=by
 refine Ao K Arj (e23 ..) ?_;rw[Al];unfold IG
 by_cases h0:0<ms.length
 .refine Au ?_
  by_cases h1:ms.length<=64
  .rw[Po,AW (show (ms.length:Int)<=64 by omega),AW h0,AW h1]
   refine Af ?_;have g:D.ask (.fn 59) [.ls (ms.map FZ),.fn (.func 60) [] []] []=some (bv (!ms.all AS),[]):=by
    refine Ao K Arx (e59 ..) ?_;refine Aa (Apz K L ms hm hl) ?_;simp only[Ae,Po,ZL]
    cases ms.all AS<;>rfl
   refine Aa g ?_;simp only[Ae]
   cases ms.all AS<;>rfl
  .rw[Po,Be (show ¬ (ms.length:Int)<=64 by omega),Be h1,Bool.and_false,Aw3]
   rfl
 .refine Ap ?_
  rw[Be h0,Aw3,Aw3]
theorem W7(m:Mo)(h:AS m=true):D.ask (.fn 57) [.agg (FZ m)] []=some (sv (Ai (CC m)),[]):=by
 obtain⟨ng,nu,va⟩:=m;refine Ao K Arw (e57 ..) ?_;unfold AS at h;simp only[η,AxM,decide_eq_true_eq]at h;have h1:nu.size<=60:=by
  rw[K6];rcases h.1.2 with h|h
  .rw[h];simp[Ai]
  .exact Q3 h
 have h2:va.size<=20:=by
  rw[K6];rcases h.2 with h|h
  .rw[h];simp[Ai]
  .exact EB h
 have s1:(Ai [42]).size=1:=rfl;unfold CC;simp only[GJ,BW,Hf]
 by_cases hn:nu=Ai []
 .simp only[hn,decide_true,Ae,ne_eq,not_true,false_and,if_false]
  refine(Ee (by rw[←hn];omega) _ _).trans ?_;rw[JG]
 .simp only[hn,decide_false,Ae,ne_eq,not_false_eq_true,true_and]
  by_cases hv:va=Ai []
  .simp only[hv,decide_true,Ae,not_true,if_false]
   refine(Ee (by rw[←hv];omega) _ _).trans ?_;rw[JG]
  .simp only[hv,decide_false,Ae,not_false_eq_true,if_true]
   have s2:(nu++Ai [42]).size=nu.size+1:=by simp[s1]
   refine(Ee (by rw[s1];omega) _ _).trans ?_;refine(Ee (by rw[s2];omega) _ _).trans ?_;rw[JG (nu++Ai [42]),JG nu,Dg,Dg]
end
end
end Go.Proofs.YtlmhajfbpplpoaaGreat
