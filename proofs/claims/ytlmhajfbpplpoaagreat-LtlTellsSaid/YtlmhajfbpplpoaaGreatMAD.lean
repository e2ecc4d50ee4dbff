/- The arguments of layer 1 -/
import Derived.Test.YtlmhajfbpplpoaaGreatMAC
import Derived.ProofKit
import Derived.Test.YtlmhajfbpplpoaaGreatRows
set_option linter.all false
namespace Go.Proofs.YtlmhajfbpplpoaaGreat
open Go.ChangeShapes Go.WideShapes Go.ChangeAt Go.RowKit
theorem Af5:ownKnob Tryz.prog.godebug=none:=by kernel_rfl
theorem Afi:laidOutB Tryz.prog=true:=by kernel_rfl
theorem Ns{w:World}{P:Program}{t:TypeId}{ts:List TypeId}{vs:List Value}{xs:List D}(h:Kj w P (t::ts) vs xs) :
  ∃ v vs' x xs',vs=v::vs'/\xs=x::xs'/\(∃ cs,v=x.val cs/\D.Is w (Lt w.heap.size) x cs/\D.Typed P x t/\D.Fits P x t)/\Kj w P ts vs' xs':=by
 cases vs with
 |nil=>cases xs<;>exact h.elim
 |cons v vs'=>
  cases xs with
  |nil=>exact h.elim
  |cons x xs'=>exact⟨v,vs',x,xs',rfl,rfl,h.1,h.2⟩
theorem WU{w:World}{P:Program}{vs:List Value}{xs:List D}(h:Kj w P [] vs xs):vs=[]:=by
 cases vs with
 |nil=>rfl
 |cons v vs'=>cases xs<;>exact h.elim
