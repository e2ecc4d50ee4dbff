/- Signs ahead and brackets, nested: what the lexer a -/
import Derived.Test.YtlmhajfbpplpoaaGreatOBK
import Derived.Test.YtlmhajfbpplpoaaGreatOBL
set_option linter.all false
namespace Go.Proofs.YtlmhajfbpplpoaaGreat
open Go.RowKit
section
variable {ts:List Tk} {vars:List ByteArray} {kn:Bool}
end

section
variable {D:Orc}
end

end Go.Proofs.YtlmhajfbpplpoaaGreat
