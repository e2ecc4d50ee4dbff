/-
  The arguments of layer 10's laws, as what they read as.
-/
import Derived.Test.YtpncilciembjdaaGreatDoorABW
import Derived.ProofKit
import Derived.Test.YtpncilciembjdaaGreatDoorRows
set_option linter.unusedSectionVars false
set_option linter.unusedSimpArgs false
set_option linter.unusedVariables false
namespace Go.Proofs.YtpncilciembjdaaGreatDoor
open Go.ChangeShapes Go.WideShapes Go.ChangeAt Go.RowKit

theorem own_knob:ownKnob Tryz.prog.godebug=none:=by kernel_rfl
theorem laid_out:laidOutB Tryz.prog=true:=by kernel_rfl
theorem allFit_cons{w:World}{P:Program}{t:TypeId}{ts:List TypeId}{vs:List Value}{xs:List D}(h:AllFit w P (t::ts) vs xs) :
  ∃ v vs' x xs',vs=v::vs'/\xs=x::xs'/\(∃ cs,v=x.val cs/\D.Is w (Lt w.heap.size) x cs/\D.Typed P x t/\D.Fits P x t)/\AllFit w P ts vs' xs':=by
 cases vs with
 |nil=>cases xs<;>exact h.elim
 |cons v vs'=>
  cases xs with
  |nil=>exact h.elim
  |cons x xs'=>exact⟨v,vs',x,xs',rfl,rfl,h.1,h.2⟩
theorem allFit_nil{w:World}{P:Program}{vs:List Value}{xs:List D}(h:AllFit w P [] vs xs):vs=[]:=by
 cases vs with
 |nil=>rfl
 |cons v vs'=>cases xs<;>exact h.elim

end Go.Proofs.YtpncilciembjdaaGreatDoor
