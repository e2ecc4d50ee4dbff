/- The arguments of layer 1 -/
import Derived.Test.YtpncilciembjdaaGreatDoorJBV
import Derived.ProofKit
import Derived.Test.YtpncilciembjdaaGreatDoorRows
set_option linter.all false
namespace Go.Proofs.YtpncilciembjdaaGreatDoor
open Go.ChangeShapes Go.WideShapes Go.ChangeAt Go.RowKit
theorem AbK:ownKnob Tryz.prog.godebug=none:=by kernel_rfl
theorem Aa6:laidOutB Tryz.prog=true:=by kernel_rfl
theorem E8{w:World}{P:Program}{t:TypeId}{ts:List TypeId}{vs:List Value}{xs:List D}(h:IJ w P (t::ts) vs xs) :
  ∃ v vs' x xs',vs=v::vs'/\xs=x::xs'/\(∃ cs,v=x.val cs/\D.Is w (Lt w.heap.size) x cs/\D.Typed P x t/\D.Fits P x t)/\IJ w P ts vs' xs':=by
 cases vs with
 |nil=>cases xs<;>exact h.elim
 |cons v vs'=>
  cases xs with
  |nil=>exact h.elim
  |cons x xs'=>exact⟨v,vs',x,xs',rfl,rfl,h.1,h.2⟩
theorem TX{w:World}{P:Program}{vs:List Value}{xs:List D}(h:IJ w P [] vs xs):vs=[]:=by
 cases vs with
 |nil=>rfl
 |cons v vs'=>cases xs<;>exact h.elim
