/- What a cursor takes off tokens: sums, comparisons, -/
import Derived.Test.YtlmhajfbpplpoaaGreatSAO
import Derived.Test.YtlmhajfbpplpoaaGreatSAP
set_option linter.unusedSectionVars false
set_option linter.unusedSimpArgs false
set_option linter.unusedVariables false
namespace Go.Proofs.YtlmhajfbpplpoaaGreat
open Go.RowKit
def eS(s:ByteArray):List AV:=[sv s]
def eTk(t:Tk):List AV:=[iv t.kind,sv (AE t.text),iv t.ln,iv t.co]
structure Mo where
 neg:Bool
 num:ByteArray
 var:ByteArray
def Gt(m:Mo):List AV:=[bv m.neg,sv m.num,sv m.var]
inductive Tr where
 |mk (kind:Int) (l r:List Mo) (op:Int) (proc loc:ByteArray) (kids:List Tr)
mutual
def DI:Tr->List AV
 |.mk k l r op p q ks=>[iv k,.ls (l.map Gt),.ls (r.map Gt),iv op,sv p,sv q,.ls (YI ks)]
def YI:List Tr->List (List AV)
 |[]=>[]
 |x::r=>DI x::YI r
end
theorem Cw:∀ l,YI l=l.map DI
 |[]=>rfl
 |x::r=>by simp[YI,Cw r]
def T0:Tr:=.mk 0 [] [] 0 (AE []) (AE []) []
def nx(ts:List Tk)(i:Nat):Tk:=match ts[i]? with
 |some t=>t
 |none=>ts.getLastD ⟨5,[],0,0⟩
def isT(ts:List Tk)(i:Nat)(s:List UInt8):Bool:=decide ((nx ts i).text=s)&&(decide ((nx ts i).kind=1)||decide ((nx ts i).kind=2)||decide ((nx ts i).kind=4))
def isN(ts:List Tk)(i:Nat):Bool:=decide ((nx ts i).kind=1)&&E3 (nx ts i).text
section
variable (ts:List Tk) (vars:List ByteArray) (kn:Bool)
def Xz(i:Nat):Nat × Nat × ByteArray:=if isN ts i=false then(i,101,AE []) else if kn=true/\AE (nx ts i).text∉vars then(i,110,AE []) else(i+1,0,AE (nx ts i).text)
def Hl(i:Nat)(neg:Bool):Nat × Nat × Mo:=
 if(nx ts i).kind=3 then(if isT ts (i+1) [42] then((Xz ts vars kn (i+2)).1,(Xz ts vars kn (i+2)).2.1,⟨neg,AE (nx ts i).text,(Xz ts vars kn (i+2)).2.2⟩)
  else(i+1,0,⟨neg,AE (nx ts i).text,AE []⟩))
 else((Xz ts vars kn i).1,(Xz ts vars kn i).2.1,⟨neg,AE [],(Xz ts vars kn i).2.2⟩)
def Ali(i:Nat):Bool:=decide ((nx ts i).kind=3)||isN ts i
def Ac5:Nat->List Mo->Bool->Nat->Nat × Nat × List Mo
 |k,out,neg,i=>if Ali ts i=false then(i,101,[]) else match k with
  |0=>(i,3,[])
  |k+1=>if(Hl ts vars kn i neg).2.1≠0 then((Hl ts vars kn i neg).1,(Hl ts vars kn i neg).2.1,[])
   else if isT ts (Hl ts vars kn i neg).1 [45] then Ac5 k (out++[(Hl ts vars kn i neg).2.2]) true ((Hl ts vars kn i neg).1+1)
   else if isT ts (Hl ts vars kn i neg).1 [43] then Ac5 k (out++[(Hl ts vars kn i neg).2.2]) false ((Hl ts vars kn i neg).1+1)
   else((Hl ts vars kn i neg).1,0,out++[(Hl ts vars kn i neg).2.2])
def IB(i:Nat):Nat × Nat × List Mo:=if isT ts i [45] then Ac5 ts vars kn 64 [] true (i+1) else Ac5 ts vars kn 64 [] false i
def AcD:List (List UInt8):=[[61],[33,61],[60],[60,61],[62],[62,61]]
def opP(i:Nat):Option Nat:=AcD.findIdx? (isT ts i)
def Alm(i:Nat):Nat × Nat × Tr:=
 if(IB ts vars kn i).2.1≠0 then((IB ts vars kn i).1,(IB ts vars kn i).2.1,T0) else match opP ts (IB ts vars kn i).1 with
  |none=>((IB ts vars kn i).1,101,T0)
  |some op=>if(IB ts vars kn ((IB ts vars kn i).1+1)).2.1≠0 then((IB ts vars kn ((IB ts vars kn i).1+1)).1,(IB ts vars kn ((IB ts vars kn i).1+1)).2.1,T0)
   else((IB ts vars kn ((IB ts vars kn i).1+1)).1,0,.mk 2 (IB ts vars kn i).2.2 (IB ts vars kn ((IB ts vars kn i).1+1)).2.2 op (AE []) (AE []) [])
inductive Jb where
 |one
 |both
 |bothL (x:Tr)
 |cond
 |condL (x:Tr)
def Ah5(q:Nat × Nat × Tr):Nat × Nat × Tr:=(q.1,q.2.1,T0)
def Kd(q:Nat × Nat × Tr)(k:Nat->Tr->Nat × Nat × Tr):Nat × Nat × Tr:=if q.2.1=0 then k q.1 q.2.2 else Ah5 q
def S5:Nat->Jb->Nat->Nat->Nat × Nat × Tr
 |0,_,i,_=>(i,999,T0)
 |n+1,.one,i,d=>
  if(isT ts i [33]||isT ts i [40])=true/\d=60 then(i,102,T0)
  else if isT ts i [116,114,117,101] then(i+1,0,.mk 0 [] [] 0 (AE []) (AE []) [])
  else if isT ts i [102,97,108,115,101] then(i+1,0,.mk 1 [] [] 0 (AE []) (AE []) [])
  else if isT ts i [33] then Kd (S5 n .one (i+1) (d+1)) fun j x=>(j,0,.mk 3 [] [] 0 (AE []) (AE []) [x])
  else if isT ts i [40] then Kd (S5 n .cond (i+1) (d+1)) fun j x=>if isT ts j [41] then(j+1,0,x) else(j,101,T0)
  else Alm ts vars kn i
 |n+1,.both,i,d=>Kd (S5 n .one i d) fun j x=>S5 n (.bothL x) j d
 |n+1,.bothL x,i,d=>if isT ts i [38] then Kd (S5 n .one (i+1) d) fun j y=>S5 n (.bothL (.mk 4 [] [] 0 (AE []) (AE []) [x,y])) j d else(i,0,x)
 |n+1,.cond,i,d=>Kd (S5 n .both i d) fun j x=>S5 n (.condL x) j d
 |n+1,.condL x,i,d=>if isT ts i [124] then Kd (S5 n .both (i+1) d) fun j y=>S5 n (.condL (.mk 5 [] [] 0 (AE []) (AE []) [x,y])) j d else(i,0,x)
end
end Go.Proofs.YtlmhajfbpplpoaaGreat
