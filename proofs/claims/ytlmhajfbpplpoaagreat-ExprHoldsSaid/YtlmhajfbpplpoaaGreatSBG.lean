/- Functions of the program as trees: what a call com -/
import Derived.Test.YtlmhajfbpplpoaaGreatSAS
import Derived.Test.YtlmhajfbpplpoaaGreatSAU
import Derived.Test.YtlmhajfbpplpoaaGreatSBF
set_option linter.unusedSectionVars false
set_option linter.unusedSimpArgs false
set_option linter.unusedVariables false
namespace Go.Proofs.YtlmhajfbpplpoaaGreat
open Go.RowKit
def AmV:Am:=[]
noncomputable def Anz:MFn:=Bj Tryz.prog Ah AmV false false 53
noncomputable def AkX:List (Nat × MFn):=[(53,Anz)]
section
variable {D:Orc}
end
structure AllF (D:Orc) (s:ByteArray) (ts:List Tk) (ln co e:Nat):Prop where
 all:D.ask (.fn 91) [sv s] []=some (.tup [.ls (ts.map eTk),.agg [iv (ln:Int),iv (co:Int)],iv (e:Int)],[])
 rall:D.ask (.fn 50) [sv s] []=some (.tup [.ls (ts.map eTk),.agg [iv (ln:Int),iv (co:Int)],iv (e:Int)],[])
 zero:e=0->ln=0/\co=0
def AmR:Am:=[]
noncomputable def Anu:MFn:=Bj Tryz.prog Ah AmR false false 48
def Amz:Am:=[]
noncomputable def Anm:MFn:=Bj Tryz.prog Ah Amz false false 15
def AmB:Am:=[]
noncomputable def Ano:MFn:=Bj Tryz.prog Ah AmB false false 17
noncomputable def AkY:List (Nat × MFn):=[(48,Anu),(15,Anm),(17,Ano)]
def AmA:Am:=[]
noncomputable def Ann:MFn:=Bj Tryz.prog Ah AmA false false 16
def AmC:Am:=[]
noncomputable def Anp:MFn:=Bj Tryz.prog Ah AmC false false 18
noncomputable def AkV:List (Nat × MFn):=[(16,Ann),(18,Anp)]
section
variable {D:Orc}
structure LexF (D:Orc):Prop where
 ok:∀(s:ByteArray) (ts:List Tk),s.size<=9223372036854775807->GC s.data.toList=.ok ts->AllF D s ts 0 0 0
 err:∀(s:ByteArray) (c ln co:Nat),s.size<=9223372036854775807->GC s.data.toList=.err c ln co->AllF D s [] ln co c
structure LexA (D:Orc):Prop where
 ok:∀(s:ByteArray) (ts:List Tk),s.size<=9223372036854775807->GC s.data.toList=.ok ts->D.ask (.fn 91) [sv s] []=some (.tup [.ls (ts.map eTk),.agg [iv 0,iv 0],iv 0],[])
 err:∀(s:ByteArray) (c ln co:Nat),s.size<=9223372036854775807->GC s.data.toList=.err c ln co->D.ask (.fn 91) [sv s] []=some (.tup [.ls [],.agg [iv (ln:Int),iv (co:Int)],iv (c:Int)],[])
set_option linter.unusedSectionVars false
variable (K:Knows As Aav D) (Kb:Knows As Afr D) (L:NameF D) (Kw:Knows As AkX D) (Kx:Knows As AkY D)
section
variable (A:LexA D)
include K Kb L Kw Kx A
end
variable (Kr:Knows As Afs D) (R:RNameF D) (Ky:Knows As AkV D) (A:LexF D)
include Kr R Ky A
end
end Go.Proofs.YtlmhajfbpplpoaaGreat
