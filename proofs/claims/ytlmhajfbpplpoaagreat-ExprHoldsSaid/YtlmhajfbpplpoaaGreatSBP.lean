/- Signs ahead and brackets, nested: what the lexer a -/
import Derived.Test.YtlmhajfbpplpoaaGreatSBG
import Derived.Test.YtlmhajfbpplpoaaGreatSBO
import Derived.Test.YtlmhajfbpplpoaaGreatSBI
import Derived.Test.YtlmhajfbpplpoaaGreatSAS
set_option linter.unusedSectionVars false
set_option linter.unusedSimpArgs false
set_option linter.unusedVariables false
namespace Go.Proofs.YtlmhajfbpplpoaaGreat
open Go.RowKit
section
variable {ts:List Tk} {vars:List ByteArray} {kn:Bool}
end
def hs7:Am:=[⟨56,[true,true,false,false,false,true,true,true],[],[],[(1,([true,false,false,false,false,true,true],([],[])))]⟩]
noncomputable def mf7:MFn:=Bj Tryz.prog Ah hs7 false false 7
def hn7:Hnt:=⟨[(14,(.bool,[])),(17,(.tup [.agg [.int .i64,.ls,.ls,.int .i64,.str,.str,.ls],.agg [.int .i64,.int .i64],.int .i64],[])),(24,(.bool,[]))],[(0,[(1,([.int .i64,.str,.str],[]))])],[(46,[.int .i64,.int .i64]),(53,[.int .i64,.ls,.ls,.int .i64,.str,.str,.ls])]⟩
theorem e7(A:Ar)(D:Orc)(x0:Int)(x1:Int):B3 A D As hn7 .n 7 mf7 [iv x0,iv x1] [] =
 Af D (Key.fn 14) [] [] fun r o=>
 AW r fun b=>
 Ac o<|
 br b
 (Af D (Key.lp 7 0) [iv (A.bits BinOp.and IntKind.i64 x0 127),iv x1,sv (AE []),sv (AE []),iv 0] [] fun r1 o1=>
 AF r1 fun cs=>
 Aj cs fun c l=>
 br (Bw 1 c)
 (Ay IntKind.i64 l fun n l1=>
 Br l1 fun s l2=>
 Br l2 fun s1 l3=>
 Ad l3<|
 Ac o1<|
 br ((A.slen s+A.slen (AE [116,114,117,101])).ble 9223372036854775807) (br ((A.slen (A.cat s (AE [116,114,117,101]))+A.slen s1).ble 9223372036854775807) (Af D (Key.fn 17) [sv (A.cat (A.cat s (AE [116,114,117,101])) s1)] [] fun r2 o2=>
 AF r2 fun cs1=>
 Aj cs1 fun c1 l4=>
 At c1 fun cs2=>
 Ay IntKind.i64 cs2 fun n1 l5=>
 AI l5 fun xs l6=>
 AI l6 fun xs1 l7=>
 Ay IntKind.i64 l7 fun n2 l8=>
 Br l8 fun s2 l9=>
 Br l9 fun s3 l10=>
 AI l10 fun xs2 l11=>
 Ad l11<|
 Aj l4 fun c2 l12=>
 At c2 fun cs3=>
 Ay IntKind.i64 cs3 fun n3 l13=>
 Ay IntKind.i64 l13 fun n4 l14=>
 Ad l14<|
 Ay IntKind.i64 l12 fun n5 l15=>
 Ad l15<|
 Ac o2<|
 br (A.lt 60 n)
 (br (A.eq n5 102)
 (br (A.band (A.eq n3 1) (A.band (A.eq n4 61) true))
 (some ((bv true,[])))
 (some ((bv false,[]))))
 (some ((bv false,[]))))
 (br (A.eq n5 0)
 (Af D (Key.fn 24) [AV.agg [iv n1,AV.ls xs,AV.ls xs1,iv n2,sv s2,sv s3,AV.ls xs2]] [] fun r3 o3=>
 AW r3 fun b1=>
 Ac o3<|
 br b1
 (some ((bv true,[])))
 (some ((bv false,[]))))
 (some ((bv false,[]))))) none) none)
 (none))
 (some ((bv false,[]))):=by kernel_rfl
section
variable {D:Orc}
end
def Adx(l r:List Mo)(op:Int):List UInt8:=FN l++[32]++AcD.getD op.toNat []++[32]++FN r
def AgE(k:Int)(ts:List (List UInt8)):List UInt8:=if k=3 then [33]++ts.getD 0 [] else if k=4 then ts.getD 0 []++[32,38,32]++ts.getD 1 [] else if k=5 then ts.getD 0 []++[32,124,32]++ts.getD 1 [] else [116,114,117,101]
mutual
def LR:Tr->List UInt8
 |.mk k l r op p q ks=>if k=1 then [102,97,108,115,101] else if k=2 then(if Rg (.mk k l r op p q ks) then Adx l r op else []) else AgE k (R1 k 0 ks)
def R1(k:Int):Nat->List Tr->List (List UInt8)
 |_,[]=>[]
 |i,x::r=>(if brk k i x.kind then [40]++LR x++[41] else LR x)::R1 k (i+1) r
end
abbrev KT:=Nat × List UInt8
def kt(t:Tk):KT:=(t.kind,t.text)
def moK(m:Mo):List KT:=if m.num≠AE [] then(if m.var≠AE [] then [(3,m.num.data.toList),(2,[42]),(1,m.var.data.toList)] else [(3,m.num.data.toList)]) else [(1,m.var.data.toList)]
def AnM(i:Nat)(m:Mo):List KT:=if m.neg then [(2,[45])] else if i=0 then [] else [(2,[43])]
def Ahu:Nat->List Mo->List KT
 |_,[]=>[]
 |i,m::r=>AnM i m++moK m++Ahu (i+1) r
def AjV(k:Int)(ts:List (List KT)):List KT:=if k=3 then [(2,[33])]++ts.getD 0 [] else if k=4 then ts.getD 0 []++[(2,[38])]++ts.getD 1 [] else if k=5 then ts.getD 0 []++[(2,[124])]++ts.getD 1 [] else [(1,[116,114,117,101])]
mutual
def Ki:Tr->List KT
 |.mk k l r op _ _ ks=>if k=1 then [(1,[102,97,108,115,101])] else if k=2 then Ahu 0 l++[(2,AcD.getD op.toNat [])]++Ahu 0 r else AjV k (Aj7 k 0 ks)
def Aj7(k:Int):Nat->List Tr->List (List KT)
 |_,[]=>[]
 |i,x::r=>(if brk k i x.kind then [(2,[40])]++Ki x++[(2,[41])] else Ki x)::Aj7 k (i+1) r
end
end Go.Proofs.YtlmhajfbpplpoaaGreat
