/- The arguments of layer 1 -/
import Derived.Test.YtlmhajfbpplpoaaGreatKAC
import Derived.ProofKit
import Derived.Test.YtlmhajfbpplpoaaGreatRows
set_option linter.all false
namespace Go.Proofs.YtlmhajfbpplpoaaGreat
open Go.Proofs.Tryz renaming prog->ε
open Go.ChangeShapes Go.WideShapes Go.ChangeAt Go.RowKit
theorem Ahu:ownKnob Tryz.prog.godebug=none:=by kernel_rfl
theorem Agt:laidOutB ε=true:=by kernel_rfl
theorem Ow{w:World}{P:Program}{t:TypeId}{ts:List TypeId}{vs:List Value}{xs:List D}(h:LI w P (t::ts) vs xs) :
  ∃ v vs' x xs',vs=v::vs'/\xs=x::xs'/\(∃ cs,v=x.val cs/\D.Is w (Lt w.heap.size) x cs/\D.Typed P x t/\D.Fits P x t)/\LI w P ts vs' xs':=by
 cases vs with
 |nil=>cases xs<;>exact h.elim
 |cons v vs'=>
  cases xs with
  |nil=>exact h.elim
  |cons x xs'=>exact⟨v,vs',x,xs',rfl,rfl,h.1,h.2⟩
theorem Yi{w:World}{P:Program}{vs:List Value}{xs:List D}(h:LI w P [] vs xs):vs=[]:=by
 cases vs with
 |nil=>rfl
 |cons v vs'=>cases xs<;>exact h.elim
section
variable {W:World} {cs:List Value} {x:D}
theorem AjI(h:D.Is W (Lt W.heap.size) x cs)(ht:D.Typed ε x 9):∃ s:ByteArray,x.val cs=.string s/\s.size<=9223372036854775807:=by
 obtain⟨s,rfl⟩:=ht.str_ Tryz.underlying9;simp only[D.Is]at h;obtain⟨rfl,h⟩:=h;unfold maxLen at h;exact⟨s,rfl,by omega⟩
