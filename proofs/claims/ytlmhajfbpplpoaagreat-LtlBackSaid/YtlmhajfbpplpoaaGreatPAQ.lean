/- What a cursor takes off -/
import Derived.Test.YtlmhajfbpplpoaaGreatPAO
import Derived.Test.YtlmhajfbpplpoaaGreatPAP
set_option linter.all false
namespace Go.Proofs.YtlmhajfbpplpoaaGreat
open Go.RowKit
def eS(s:ByteArray):List AV:=[sv s]
def MF(t:Tk):List AV:=[iv t.kind,sv (Af t.text),iv t.ln,iv t.co]
theorem IK{a b:List UInt8}:Af a=Af b ↔ a=b:=by
 unfold Af;constructor
 .intro h
  simpa using h
 .intro h;rw[h]
structure Mo where
 neg:Bool
 num:ByteArray
 var:ByteArray
def E9(m:Mo):List AV:=[bv m.neg,sv m.num,sv m.var]
inductive Tr where
 |mk (kind:Int) (l r:List Mo) (op:Int) (proc loc:ByteArray) (kids:List Tr)
mutual
def Bq:Tr->List AV
 |.mk k l r op p q ks=>[iv k,.ls (l.map E9),.ls (r.map E9),iv op,sv p,sv q,.ls (R2 ks)]
def R2:List Tr->List (List AV)
 |[]=>[]
 |x::r=>Bq x::R2 r
end
theorem BW:∀ l,R2 l=l.map Bq
 |[]=>rfl
 |x::r=>by simp[R2,BW r]
def T0:Tr:=.mk 0 [] [] 0 (Af []) (Af []) []
def nx(ts:List Tk)(i:Nat):Tk:=match ts[i]? with
 |some t=>t
 |none=>ts.getLastD ⟨5,[],0,0⟩
def isT(ts:List Tk)(i:Nat)(s:List UInt8):Bool:=decide ((nx ts i).text=s)&&(decide ((nx ts i).kind=1)||decide ((nx ts i).kind=2)||decide ((nx ts i).kind=4))
def isN(ts:List Tk)(i:Nat):Bool:=decide ((nx ts i).kind=1)&&Cq (nx ts i).text
section
variable (ts:List Tk) (vars:List ByteArray) (kn:Bool)
def Hl(i:Nat):Nat × Nat × ByteArray:=if isN ts i=false then(i,101,Af []) else if kn=true/\Af (nx ts i).text∉vars then(i,110,Af []) else(i+1,0,Af (nx ts i).text)
def A3(i:Nat)(neg:Bool):Nat × Nat × Mo:=
 if(nx ts i).kind=3 then(if isT ts (i+1) [42] then((Hl ts vars kn (i+2)).1,(Hl ts vars kn (i+2)).2.1,⟨neg,Af (nx ts i).text,(Hl ts vars kn (i+2)).2.2⟩)
  else(i+1,0,⟨neg,Af (nx ts i).text,Af []⟩))
 else((Hl ts vars kn i).1,(Hl ts vars kn i).2.1,⟨neg,Af [],(Hl ts vars kn i).2.2⟩)
def Ol(i:Nat):Bool:=decide ((nx ts i).kind=3)||isN ts i
def Ft:Nat->List Mo->Bool->Nat->Nat × Nat × List Mo
 |k,out,neg,i=>if Ol ts i=false then(i,101,[]) else match k with
  |0=>(i,3,[])
  |k+1=>if(A3 ts vars kn i neg).2.1≠0 then((A3 ts vars kn i neg).1,(A3 ts vars kn i neg).2.1,[])
   else if isT ts (A3 ts vars kn i neg).1 [45] then Ft k (out++[(A3 ts vars kn i neg).2.2]) true ((A3 ts vars kn i neg).1+1)
   else if isT ts (A3 ts vars kn i neg).1 [43] then Ft k (out++[(A3 ts vars kn i neg).2.2]) false ((A3 ts vars kn i neg).1+1)
   else((A3 ts vars kn i neg).1,0,out++[(A3 ts vars kn i neg).2.2])
def DQ(i:Nat):Nat × Nat × List Mo:=if isT ts i [45] then Ft ts vars kn 64 [] true (i+1) else Ft ts vars kn 64 [] false i
def EJ:List (List UInt8):=[[61],[33,61],[60],[60,61],[62],[62,61]]
def opP(i:Nat):Option Nat:=EJ.findIdx? (isT ts i)
def Mx(i:Nat):Nat × Nat × Tr:=
 if(DQ ts vars kn i).2.1≠0 then((DQ ts vars kn i).1,(DQ ts vars kn i).2.1,T0) else match opP ts (DQ ts vars kn i).1 with
  |none=>((DQ ts vars kn i).1,101,T0)
  |some op=>if(DQ ts vars kn ((DQ ts vars kn i).1+1)).2.1≠0 then((DQ ts vars kn ((DQ ts vars kn i).1+1)).1,(DQ ts vars kn ((DQ ts vars kn i).1+1)).2.1,T0)
   else((DQ ts vars kn ((DQ ts vars kn i).1+1)).1,0,.mk 2 (DQ ts vars kn i).2.2 (DQ ts vars kn ((DQ ts vars kn i).1+1)).2.2 op (Af []) (Af []) [])
def IU(q:Nat × Nat × Tr):Nat × Nat × Tr:=(q.1,q.2.1,T0)
def BE(q:Nat × Nat × Tr)(k:Nat->Tr->Nat × Nat × Tr):Nat × Nat × Tr:=if q.2.1=0 then k q.1 q.2.2 else IU q
def Bt(i:Nat):ABlk:=ABlk.mk [.ls (ts.map MF),iv (i:Int),.ls (vars.map eS),bv kn] true false
end
end Go.Proofs.YtlmhajfbpplpoaaGreat
