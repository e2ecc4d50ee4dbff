/- The arguments of layer 10's laws, as what they rea -/
import Derived.Test.YtlmhajfbpplpoaaGreatSAC
import Derived.ProofKit
import Derived.Test.YtlmhajfbpplpoaaGreatRows
set_option linter.unusedSectionVars false
set_option linter.unusedSimpArgs false
set_option linter.unusedVariables false
namespace Go.Proofs.YtlmhajfbpplpoaaGreat
open Go.ChangeShapes Go.WideShapes Go.ChangeAt Go.RowKit
theorem ZR:ownKnob Tryz.prog.godebug=none:=by kernel_rfl
theorem Zh:laidOutB Tryz.prog=true:=by kernel_rfl
theorem G9{w:World}{P:Program}{t:TypeId}{ts:List TypeId}{vs:List Value}{xs:List D}(h:IQ w P (t::ts) vs xs) :
  ∃ v vs' x xs',vs=v::vs'/\xs=x::xs'/\(∃ cs,v=x.val cs/\D.Is w (Lt w.heap.size) x cs/\D.Typed P x t/\D.Fits P x t)/\IQ w P ts vs' xs':=by
 cases vs with
 |nil=>cases xs<;>exact h.elim
 |cons v vs'=>
  cases xs with
  |nil=>exact h.elim
  |cons x xs'=>exact⟨v,vs',x,xs',rfl,rfl,h.1,h.2⟩
theorem Tb{w:World}{P:Program}{vs:List Value}{xs:List D}(h:IQ w P [] vs xs):vs=[]:=by
 cases vs with
 |nil=>rfl
 |cons v vs'=>cases xs<;>exact h.elim
section
variable {W:World} {cs:List Value} {x:D}
end
end Go.Proofs.YtlmhajfbpplpoaaGreat
