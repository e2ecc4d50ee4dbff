/-
  What a cursor takes off tokens: sums, comparisons, conditions; and how that lies in cells. No program in sight.
-/
import Derived.Test.YtlmhajfbpplpoaaGreatUAO
import Derived.Test.YtlmhajfbpplpoaaGreatUAP
set_option linter.unusedSectionVars false
set_option linter.unusedSimpArgs false
set_option linter.unusedVariables false
namespace Go.Proofs.YtlmhajfbpplpoaaGreat
open Go.RowKit

def eS(s:ByteArray):List AV:=[sv s]
def eTk(t:Tk):List AV:=[iv t.kind,sv (bstr t.text),iv t.ln,iv t.co]
theorem bstr_inj{a b:List UInt8}:bstr a=bstr b ↔ a=b:=by
 unfold bstr
 constructor
 .intro h
  simpa using h
 .intro h;rw[h]
structure Mo where
 neg:Bool
 num:ByteArray
 var:ByteArray
def eMo(m:Mo):List AV:=[bv m.neg,sv m.num,sv m.var]
inductive Tr where
 |mk (kind:Int) (l r:List Mo) (op:Int) (proc loc:ByteArray) (kids:List Tr)
mutual
def eTr:Tr->List AV
 |.mk k l r op p q ks=>[iv k,.ls (l.map eMo),.ls (r.map eMo),iv op,sv p,sv q,.ls (eTrs ks)]
def eTrs:List Tr->List (List AV)
 |[]=>[]
 |x::r=>eTr x::eTrs r
end
theorem eTrs_map:∀ l,eTrs l=l.map eTr
 |[]=>rfl
 |x::r=>by simp[eTrs,eTrs_map r]
def T0:Tr:=.mk 0 [] [] 0 (bstr []) (bstr []) []
def nx(ts:List Tk)(i:Nat):Tk:=match ts[i]? with
 |some t=>t
 |none=>ts.getLastD ⟨5,[],0,0⟩
def isT(ts:List Tk)(i:Nat)(s:List UInt8):Bool:=decide ((nx ts i).text=s)&&(decide ((nx ts i).kind=1)||decide ((nx ts i).kind=2)||decide ((nx ts i).kind=4))
def isN(ts:List Tk)(i:Nat):Bool:=decide ((nx ts i).kind=1)&&nameB (nx ts i).text
section
variable (ts:List Tk) (vars:List ByteArray) (kn:Bool)
def varP(i:Nat):Nat × Nat × ByteArray:=if isN ts i=false then(i,101,bstr []) else if kn=true/\bstr (nx ts i).text∉vars then(i,110,bstr []) else(i+1,0,bstr (nx ts i).text)
def monoP(i:Nat)(neg:Bool):Nat × Nat × Mo:=
 if(nx ts i).kind=3 then(if isT ts (i+1) [42] then((varP ts vars kn (i+2)).1,(varP ts vars kn (i+2)).2.1,⟨neg,bstr (nx ts i).text,(varP ts vars kn (i+2)).2.2⟩)
  else(i+1,0,⟨neg,bstr (nx ts i).text,bstr []⟩))
 else((varP ts vars kn i).1,(varP ts vars kn i).2.1,⟨neg,bstr [],(varP ts vars kn i).2.2⟩)
def begP(i:Nat):Bool:=decide ((nx ts i).kind=3)||isN ts i
def sumL:Nat->List Mo->Bool->Nat->Nat × Nat × List Mo
 |k,out,neg,i=>if begP ts i=false then(i,101,[]) else match k with
  |0=>(i,3,[])
  |k+1=>if(monoP ts vars kn i neg).2.1≠0 then((monoP ts vars kn i neg).1,(monoP ts vars kn i neg).2.1,[])
   else if isT ts (monoP ts vars kn i neg).1 [45] then sumL k (out++[(monoP ts vars kn i neg).2.2]) true ((monoP ts vars kn i neg).1+1)
   else if isT ts (monoP ts vars kn i neg).1 [43] then sumL k (out++[(monoP ts vars kn i neg).2.2]) false ((monoP ts vars kn i neg).1+1)
   else((monoP ts vars kn i neg).1,0,out++[(monoP ts vars kn i neg).2.2])
def sumP(i:Nat):Nat × Nat × List Mo:=if isT ts i [45] then sumL ts vars kn 64 [] true (i+1) else sumL ts vars kn 64 [] false i
def opsL:List (List UInt8):=[[61],[33,61],[60],[60,61],[62],[62,61]]
def opP(i:Nat):Option Nat:=opsL.findIdx? (isT ts i)
def cmpP(i:Nat):Nat × Nat × Tr:=
 if(sumP ts vars kn i).2.1≠0 then((sumP ts vars kn i).1,(sumP ts vars kn i).2.1,T0) else match opP ts (sumP ts vars kn i).1 with
  |none=>((sumP ts vars kn i).1,101,T0)
  |some op=>if(sumP ts vars kn ((sumP ts vars kn i).1+1)).2.1≠0 then((sumP ts vars kn ((sumP ts vars kn i).1+1)).1,(sumP ts vars kn ((sumP ts vars kn i).1+1)).2.1,T0)
   else((sumP ts vars kn ((sumP ts vars kn i).1+1)).1,0,.mk 2 (sumP ts vars kn i).2.2 (sumP ts vars kn ((sumP ts vars kn i).1+1)).2.2 op (bstr []) (bstr []) [])
inductive Jb where
 |one
 |both
 |bothL (x:Tr)
 |cond
 |condL (x:Tr)
def failT(q:Nat × Nat × Tr):Nat × Nat × Tr:=(q.1,q.2.1,T0)
def thenT(q:Nat × Nat × Tr)(k:Nat->Tr->Nat × Nat × Tr):Nat × Nat × Tr:=if q.2.1=0 then k q.1 q.2.2 else failT q
def cuB(i:Nat):ABlk:=ABlk.mk [.ls (ts.map eTk),iv (i:Int),.ls (vars.map eS),bv kn] true false
def cuA(i:Nat):AV:=.agg [.ls (ts.map eTk),iv (i:Int),.ls (vars.map eS),bv kn]
end
end Go.Proofs.YtlmhajfbpplpoaaGreat
