/-
  Seats of D: contracts from elsewhere, tables of functions. No program in sight.
-/
import Derived.Test.YtpncilciembjdaaGreatDoorTAN
set_option linter.unusedSectionVars false
set_option linter.unusedSimpArgs false
set_option linter.unusedVariables false
namespace Go.Proofs.YtpncilciembjdaaGreatDoor
open Go.RowKit

def resName:List AV->Option AV
 |[.v (.string s)]=>if s.size<=9223372036854775807 then some (bv (nameB s.data.toList)) else none
 |_=>none
def extD(res:List AV->Option AV):DF:=fun args bs=>match bs with
 |[]=>(res args).map fun r=>(r,[])
 |_=>none
def AllFn(P:Program)(ents:Nat):List (Nat × MFn)->Prop
 |[]=>True
 |p::r=>(∃ hs a b,p.2=mfD P ents hs a b p.1)/\okFnD P p.1=true/\AllFn P ents r
theorem allFn_mem{P:Program}{ents:Nat}:∀{L:List (Nat × MFn)},AllFn P ents L->∀ f mf,(f,mf)∈L->FnOk P ents f mf
 |p::r,⟨⟨hs,a,b,h1⟩,h2,h3⟩,f,mf,hm=>by
  rcases List.mem_cons.1 hm with rfl|hm
  .have h1:mf=_:=h1
   rw[h1]
   exact fnOk_of h2
  .exact allFn_mem h3 f mf hm
theorem allFn_app{P:Program}{ents:Nat}:∀{L L':List (Nat × MFn)},AllFn P ents L->AllFn P ents L'->AllFn P ents (L++L')
 |[],_,_,h=>h
 |_::_,_,⟨h1,h2,h3⟩,h=>⟨h1,h2,allFn_app h3 h⟩
def entOkB(P:Program)(ents n:Nat):Bool:=Nat.blt ents (2 ^ n)&&(List.range n).all fun g=>!ents.testBit g||enterable P g
theorem entOk_of{P:Program}{ents n:Nat}(h:entOkB P ents n=true):EntOk P ents:=by
 unfold entOkB at h
 rw[Bool.and_eq_true]at h
 intro g hg
 have hn:ents<2 ^ n:=Nat.blt_eq.mp h.1
 by_cases hgn:g<n
 .have:=List.all_eq_true.1 h.2 g (List.mem_range.2 hgn)
  rw[hg]at this
  simpa using this
 .have:ents<2 ^ g:=Nat.lt_of_lt_of_le hn (Nat.pow_le_pow_right (by decide) (by omega))
  rw[Nat.testBit_lt_two_pow this]at hg
  cases hg
theorem find_app{α:Type}{f:Nat}:∀{A B:List (Nat × α)},findN f (A++B)=match findN f A with
  |some a=>some a
  |none=>findN f B
 |[],_=>rfl
 |(m,b)::r,B=>by
  have ih:=find_app (f:=f) (A:=r) (B:=B)
  show (match Nat.beq f m with
   |true=>some b
   |false=>findN f (r++B))=match (match Nat.beq f m with
   |true=>some b
   |false=>findN f r) with
   |some a=>some a
   |none=>findN f B
  cases Nat.beq f m with
  |true=>rfl
  |false=>exact ih
def apartN(A B:List (Nat × MFn)):Bool:=B.all fun p=>(findN p.1 A).isNone
theorem find_right{A B:List (Nat × MFn)}(h:apartN A B=true){f:Nat}{mf:MFn}(hf:findN f B=some mf):findN f (A++B)=some mf:=by
 have:=List.all_eq_true.1 h _ (findN_mem hf)
 have h0:findN f A=none:=Option.isNone_iff_eq_none.1 this
 rw[find_app,h0]
 exact hf
theorem find_left{A B:List (Nat × MFn)}{f:Nat}{mf:MFn}(hf:findN f A=some mf):findN f (A++B)=some mf:=by
 rw[find_app,hf]
end Go.Proofs.YtpncilciembjdaaGreatDoor
