/-
  Signs ahead and brackets, nested: what the lexer and the parser make of them. No program in sight.
  Functions of the program as trees: what a call comes to.
  ExprDeep's law.
  Trees as texts; their tokens. No program in sight.
-/
import Derived.Test.YtlmhajfbpplpoaaGreatWBE
import Derived.Test.YtlmhajfbpplpoaaGreatWBH
import Derived.Test.YtlmhajfbpplpoaaGreatWBG
import Derived.Test.YtlmhajfbpplpoaaGreatWAS
set_option linter.unusedSectionVars false
set_option linter.unusedSimpArgs false
set_option linter.unusedVariables false
namespace Go.Proofs.YtlmhajfbpplpoaaGreat
open Go.RowKit

section
variable {ts : List Tk} {vars : List ByteArray} {kn : Bool}
end
end Go.Proofs.YtlmhajfbpplpoaaGreat
namespace Go.Proofs.YtlmhajfbpplpoaaGreat
open Go.RowKit
def hs7 : Hints := [⟨56, [true, true, false, false, false, true, true, true], [], [], [(1, ([true, false, false, false, false, true, true], ([], [])))]⟩]
noncomputable def mf7 : MFn := mfD Tryz.prog entsC hs7 false false 7
def hn7 : Hnt := ⟨[(14, (.bool, [])), (17, (.tup [.agg [.int .i64, .ls, .ls, .int .i64, .str, .str, .ls], .agg [.int .i64, .int .i64], .int .i64], [])), (24, (.bool, []))], [(0, [(1, ([.int .i64, .str, .str], []))])], [(46, [.int .i64, .int .i64]), (53, [.int .i64, .ls, .ls, .int .i64, .str, .str, .ls])]⟩
theorem e7 (A : Ar) (D : Orc) (x0 : Int) (x1 : Int) : fnK A D ownC hn7 .n 7 mf7 [iv x0, iv x1] [] =
 askK D (Key.fn 14) [] [] fun r o =>
 unBool r fun b =>
 unEnd o <|
 br b
 (askK D (Key.lp 7 0) [iv (A.bits BinOp.and IntKind.i64 x0 127), iv x1, sv (bstr []), sv (bstr []), iv 0] [] fun r1 o1 =>
 unTup r1 fun cs =>
 unCons cs fun c l =>
 br (axIs 1 c)
 (cInt IntKind.i64 l fun n l1 =>
 cStr l1 fun s l2 =>
 cStr l2 fun s1 l3 =>
 unNil l3 <|
 unEnd o1 <|
 br ((A.slen s + A.slen (bstr [116, 114, 117, 101])).ble 9223372036854775807) (br ((A.slen (A.cat s (bstr [116, 114, 117, 101])) + A.slen s1).ble 9223372036854775807) (askK D (Key.fn 17) [sv (A.cat (A.cat s (bstr [116, 114, 117, 101])) s1)] [] fun r2 o2 =>
 unTup r2 fun cs1 =>
 unCons cs1 fun c1 l4 =>
 unAgg c1 fun cs2 =>
 cInt IntKind.i64 cs2 fun n1 l5 =>
 cLs l5 fun xs l6 =>
 cLs l6 fun xs1 l7 =>
 cInt IntKind.i64 l7 fun n2 l8 =>
 cStr l8 fun s2 l9 =>
 cStr l9 fun s3 l10 =>
 cLs l10 fun xs2 l11 =>
 unNil l11 <|
 unCons l4 fun c2 l12 =>
 unAgg c2 fun cs3 =>
 cInt IntKind.i64 cs3 fun n3 l13 =>
 cInt IntKind.i64 l13 fun n4 l14 =>
 unNil l14 <|
 cInt IntKind.i64 l12 fun n5 l15 =>
 unNil l15 <|
 unEnd o2 <|
 br (A.lt 60 n)
 (br (A.eq n5 102)
 (br (A.band (A.eq n3 1) (A.band (A.eq n4 61) true))
 (some ((bv true, [])))
 (some ((bv false, []))))
 (some ((bv false, []))))
 (br (A.eq n5 0)
 (askK D (Key.fn 24) [AV.agg [iv n1, AV.ls xs, AV.ls xs1, iv n2, sv s2, sv s3, AV.ls xs2]] [] fun r3 o3 =>
 unBool r3 fun b1 =>
 unEnd o3 <|
 br b1
 (some ((bv true, [])))
 (some ((bv false, []))))
 (some ((bv false, []))))) none) none)
 (none))
 (some ((bv false, []))) := by kernel_rfl

end Go.Proofs.YtlmhajfbpplpoaaGreat
namespace Go.Proofs.YtlmhajfbpplpoaaGreat
open Go.RowKit

theorem cat_bs (a b : List UInt8) : bstr a ++ bstr b = bstr (a ++ b) := by
 rw [cat_bstr, bstr_data, bstr_data]
section
variable {D : Orc}
end
end Go.Proofs.YtlmhajfbpplpoaaGreat
namespace Go.Proofs.YtlmhajfbpplpoaaGreat
open Go.RowKit

def cmpTx (l r : List Mo) (op : Int) : List UInt8 := sumTxt l ++ [32] ++ opsL.getD op.toNat [] ++ [32] ++ sumTxt r
def joinTx (k : Int) (ts : List (List UInt8)) : List UInt8 := if k = 3 then [33] ++ ts.getD 0 [] else if k = 4 then ts.getD 0 [] ++ [32, 38, 32] ++ ts.getD 1 [] else if k = 5 then ts.getD 0 [] ++ [32, 124, 32] ++ ts.getD 1 [] else [116, 114, 117, 101]
mutual
def txt : Tr → List UInt8
 | .mk k l r op p q ks => if k = 1 then [102, 97, 108, 115, 101] else if k = 2 then (if cmpB (.mk k l r op p q ks) then cmpTx l r op else []) else joinTx k (kidTx k 0 ks)
def kidTx (k : Int) : Nat → List Tr → List (List UInt8)
 | _, [] => []
 | i, x :: r => (if brk k i x.kind then [40] ++ txt x ++ [41] else txt x) :: kidTx k (i + 1) r
end
abbrev KT := Nat × List UInt8
def kt (t : Tk) : KT := (t.kind, t.text)
def moK (m : Mo) : List KT := if m.num ≠ bstr [] then (if m.var ≠ bstr [] then [(3, m.num.data.toList), (2, [42]), (1, m.var.data.toList)] else [(3, m.num.data.toList)]) else [(1, m.var.data.toList)]
def sepK (i : Nat) (m : Mo) : List KT := if m.neg then [(2, [45])] else if i = 0 then [] else [(2, [43])]
def sumK : Nat → List Mo → List KT
 | _, [] => []
 | i, m :: r => sepK i m ++ moK m ++ sumK (i + 1) r
def joinK (k : Int) (ts : List (List KT)) : List KT := if k = 3 then [(2, [33])] ++ ts.getD 0 [] else if k = 4 then ts.getD 0 [] ++ [(2, [38])] ++ ts.getD 1 [] else if k = 5 then ts.getD 0 [] ++ [(2, [124])] ++ ts.getD 1 [] else [(1, [116, 114, 117, 101])]
mutual
def txtK : Tr → List KT
 | .mk k l r op _ _ ks => if k = 1 then [(1, [102, 97, 108, 115, 101])] else if k = 2 then sumK 0 l ++ [(2, opsL.getD op.toNat [])] ++ sumK 0 r else joinK k (kidK k 0 ks)
def kidK (k : Int) : Nat → List Tr → List (List KT)
 | _, [] => []
 | i, x :: r => (if brk k i x.kind then [(2, [40])] ++ txtK x ++ [(2, [41])] else txtK x) :: kidK k (i + 1) r
end
end Go.Proofs.YtlmhajfbpplpoaaGreat
