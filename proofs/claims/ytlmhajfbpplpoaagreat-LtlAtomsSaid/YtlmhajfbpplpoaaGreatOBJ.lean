/- Facts of the tokens of a text. No program in sight -/
import Derived.Test.YtlmhajfbpplpoaaGreatOAU
set_option linter.all false
namespace Go.Proofs.YtlmhajfbpplpoaaGreat
open Go.RowKit
structure TksF (n:Nat) (ts:List Tk):Prop where
 len:ts.length<=n+1
 ne:ts≠[]
 last:∀ d,(ts.getLastD d).kind=5
 each:∀ t∈ts,t.text.length<=n/\(t.kind≠5->t.text≠[])
end Go.Proofs.YtlmhajfbpplpoaaGreat
