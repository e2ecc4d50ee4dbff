/- Tokens laid out again, with whatever may stand bet -/
import Derived.Test.YtlmhajfbpplpoaaGreatSBO
import Derived.Lib.Join
set_option linter.unusedSectionVars false
set_option linter.unusedSimpArgs false
set_option linter.unusedVariables false
namespace Go.Proofs.YtlmhajfbpplpoaaGreat
def Ah7(c:UInt8):Bool:=c.toNat == 10||c.toNat == 32||c.toNat == 9||c.toNat == 35
def Sep(b:List UInt8):Prop:=∃ c r,b=c::r/\Ah7 c=true
def Ald(rest:List UInt8):Prop:=rest=[]\/Sep rest
def AhL(k:Nat)(text:List UInt8):Prop:=(∃ c r,text=c::r/\Ah7 c=false)/\∀ rest,Ald rest->GP (text++rest)=.tok k text.length
def GoodToks:List Tk->Prop
 |[]=>False
 |[t]=>t.kind=5/\t.text=[]
 |t::u::r=>AhL t.kind t.text/\GoodToks (u::r)
theorem GoodToks.ne{ts:List Tk}(h:GoodToks ts):ts≠[]:=by rintro rfl;exact h
theorem GoodToks.cons{t:Tk}{ts:List Tk}(h:AhL t.kind t.text)(hs:GoodToks ts):GoodToks (t::ts):=by
 cases ts with
 |nil=>exact hs.elim
 |cons u r=>exact⟨h,hs⟩
def lay:List (List UInt8)->List Tk->List UInt8
 |b::bs,t::ts=>b++t.text++lay bs ts
 |_,_=>[]
end Go.Proofs.YtlmhajfbpplpoaaGreat
