/- Signs ahead and brackets -/
import Derived.Test.YtlmhajfbpplpoaaGreatPBJ
import Derived.Test.YtlmhajfbpplpoaaGreatPBK
set_option linter.all false
namespace Go.Proofs.YtlmhajfbpplpoaaGreat
open Go.RowKit
section
open Go.RowKit
variable (A:Ar) (D:Orc)
end
theorem IN(a b:List UInt8):Af a++Af b=Af (a++b):=by
 rw[IP,CV,CV]
end Go.Proofs.YtlmhajfbpplpoaaGreat
