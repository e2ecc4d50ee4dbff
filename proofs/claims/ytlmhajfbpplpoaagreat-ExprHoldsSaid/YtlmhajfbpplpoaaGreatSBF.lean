/- Facts of the tokens of a text. No program in sight -/
import Derived.Test.YtlmhajfbpplpoaaGreatSAU
set_option linter.unusedSectionVars false
set_option linter.unusedSimpArgs false
set_option linter.unusedVariables false
namespace Go.Proofs.YtlmhajfbpplpoaaGreat
open Go.RowKit
structure TksF (n:Nat) (ts:List Tk):Prop where
 len:ts.length<=n+1
 ne:ts≠[]
 last:∀ d,(ts.getLastD d).kind=5
 each:∀ t∈ts,t.text.length<=n/\(t.kind≠5->t.text≠[])
theorem Ahb{ts:List Tk}(h:ts≠[])(i:Nat):nx ts i∈ts:=by
 unfold nx
 cases e:ts[i]? with
 |some t=>exact List.mem_of_getElem? e
 |none=>
  simp only
  rw[List.getLastD_eq_getLast?,List.getLast?_eq_some_getLast h]
  exact List.getLast_mem h
theorem TksF.num{n:Nat}{ts:List Tk}(f:TksF n ts)(i:Nat)(h:(nx ts i).kind=3):(nx ts i).text≠[]:=(f.each _ (Ahb f.ne i)).2 (by omega)

end Go.Proofs.YtlmhajfbpplpoaaGreat
