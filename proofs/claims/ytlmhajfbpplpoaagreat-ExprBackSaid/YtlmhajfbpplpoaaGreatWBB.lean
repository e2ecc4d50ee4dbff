/-
  Functions of the program as trees: what a call comes to.
  Functions of the program as trees: what a call comes to.
  Functions of the program as trees: what a call comes to.
  Functions of the program as trees: what a call comes to.
  Functions of the program as trees: what a call comes to.
-/
import Derived.Test.YtlmhajfbpplpoaaGreatWAS
set_option linter.unusedSectionVars false
set_option linter.unusedSimpArgs false
set_option linter.unusedVariables false
namespace Go.Proofs.YtlmhajfbpplpoaaGreat
open Go.RowKit
def hs53 : Hints := []
noncomputable def mf53 : MFn := mfD Tryz.prog entsC hs53 false false 53
def hn53 : Hnt := ⟨[(54, (.tup [.agg [.int .i64, .ls, .ls, .int .i64, .str, .str, .ls], .int .i64], [.box [.ls, .int .i64, .ls, .bool]])), (91, (.tup [.ls, .agg [.int .i64, .int .i64], .int .i64], [])), (92, (.agg [.int .i64, .str, .int .i64, .int .i64], [.box [.ls, .int .i64, .ls, .bool]]))], [], [(25, [.int .i64, .ls, .ls, .int .i64, .str, .str, .ls]), (26, [.int .i64, .int .i64]), (49, [.int .i64, .ls, .ls, .int .i64, .str, .str, .ls]), (54, [.int .i64, .ls, .ls, .int .i64, .str, .str, .ls])]⟩
noncomputable def tabWa : List (Nat × MFn) := [(53, mf53)]
theorem e53 (A : Ar) (D : Orc) (x0 : ByteArray) (x1 : List (List AV)) (x2 : Bool) : fnK A D ownC hn53 (.b (.b .n (.b .n (.b (.b (.b (.b (.b (.b (.b .n (.b (.b .n (.b .n (.t .n))) .n)) .n) .n) .n) .n) .n) (.b .n (.b .n (.b .n (.b .n (.b .n (.b .n (.b .n (.f .n))))))))))) .n) 53 mf53 [sv x0, AV.ls x1, bv x2, AV.fn (Fn.func 54) [] []] [] =
 askK D (Key.fn 91) [sv x0] [] fun r o =>
 unTup r fun cs =>
 cLs cs fun xs l =>
 unCons l fun c l1 =>
 unAgg c fun cs1 =>
 cInt IntKind.i64 cs1 fun n l2 =>
 cInt IntKind.i64 l2 fun n1 l3 =>
 unNil l3 <|
 cInt IntKind.i64 l1 fun n2 l4 =>
 unNil l4 <|
 unEnd o <|
 br (A.eq n2 0)
 (askK D (Key.fn 54) [AV.ptr 0 0] [ABlk.mk [AV.ls xs, iv 0, AV.ls x1, bv x2] true false] fun r1 o1 =>
 unTup r1 fun cs2 =>
 unCons cs2 fun c1 l5 =>
 unAgg c1 fun cs3 =>
 cInt IntKind.i64 cs3 fun n3 l6 =>
 cLs l6 fun xs1 l7 =>
 cLs l7 fun xs2 l8 =>
 cInt IntKind.i64 l8 fun n4 l9 =>
 cStr l9 fun s l10 =>
 cStr l10 fun s1 l11 =>
 cLs l11 fun xs3 l12 =>
 unNil l12 <|
 cInt IntKind.i64 l5 fun n5 l13 =>
 unNil l13 <|
 unOut o1 fun c2 l14 =>
 unSet true false c2 fun cs4 =>
 cLs cs4 fun xs4 l15 =>
 cInt IntKind.i64 l15 fun n6 l16 =>
 cLs l16 fun xs5 l17 =>
 cBool l17 fun b l18 =>
 unNil l18 <|
 unEnd l14 <|
 br (A.eq n5 0)
 (askK D (Key.fn 92) [AV.ptr 0 0] [ABlk.mk [AV.ls xs4, iv n6, AV.ls xs5, bv b] true false] fun r2 o2 =>
 unAgg r2 fun cs5 =>
 cInt IntKind.i64 cs5 fun n7 l19 =>
 cStr l19 fun _ l20 =>
 cInt IntKind.i64 l20 fun _ l21 =>
 cInt IntKind.i64 l21 fun _ l22 =>
 unNil l22 <|
 unOut o2 fun c3 l23 =>
 unSet true false c3 fun cs6 =>
 cLs cs6 fun xs6 l24 =>
 cInt IntKind.i64 l24 fun n10 l25 =>
 cLs l25 fun xs7 l26 =>
 cBool l26 fun b1 l27 =>
 unNil l27 <|
 unEnd l23 <|
 br (A.eq n7 5)
 (br (A.eq n5 0) (some ((AV.tup [AV.agg [iv n3, AV.ls xs1, AV.ls xs2, iv n4, sv s, sv s1, AV.ls xs3], AV.agg [iv 0, iv 0], iv 0], []))) none)
 (br (A.eq 101 0)
 (some ((AV.tup [AV.agg [iv n3, AV.ls xs1, AV.ls xs2, iv n4, sv s, sv s1, AV.ls xs3], AV.agg [iv 0, iv 0], iv 0], [])))
 (askK D (Key.fn 92) [AV.ptr 0 0] [ABlk.mk [AV.ls xs6, iv n10, AV.ls xs7, bv b1] true false] fun r3 o3 =>
 unAgg r3 fun cs7 =>
 cInt IntKind.i64 cs7 fun _ l28 =>
 cStr l28 fun _ l29 =>
 cInt IntKind.i64 l29 fun n12 l30 =>
 cInt IntKind.i64 l30 fun n13 l31 =>
 unNil l31 <|
 unOut o3 fun c4 l32 =>
 unSet true false c4 fun cs8 =>
 cLs cs8 fun _ l33 =>
 cInt IntKind.i64 l33 fun _ l34 =>
 cLs l34 fun _ l35 =>
 cBool l35 fun _ l36 =>
 unNil l36 <|
 unEnd l32 <|
 some ((AV.tup [AV.agg [iv 0, AV.ls [], AV.ls [], iv 0, sv (bstr []), sv (bstr []), AV.ls []], AV.agg [iv n12, iv n13], iv 101], [])))))
 (br (A.eq n5 0) none (askK D (Key.fn 92) [AV.ptr 0 0] [ABlk.mk [AV.ls xs4, iv n6, AV.ls xs5, bv b] true false] fun r2 o2 =>
 unAgg r2 fun cs5 =>
 cInt IntKind.i64 cs5 fun _ l19 =>
 cStr l19 fun _ l20 =>
 cInt IntKind.i64 l20 fun n8 l21 =>
 cInt IntKind.i64 l21 fun n9 l22 =>
 unNil l22 <|
 unOut o2 fun c3 l23 =>
 unSet true false c3 fun cs6 =>
 cLs cs6 fun _ l24 =>
 cInt IntKind.i64 l24 fun _ l25 =>
 cLs l25 fun _ l26 =>
 cBool l26 fun _ l27 =>
 unNil l27 <|
 unEnd l23 <|
 some ((AV.tup [AV.agg [iv 0, AV.ls [], AV.ls [], iv 0, sv (bstr []), sv (bstr []), AV.ls []], AV.agg [iv n8, iv n9], iv n5], [])))))
 (some ((AV.tup [AV.agg [iv 0, AV.ls [], AV.ls [], iv 0, sv (bstr []), sv (bstr []), AV.ls []], AV.agg [iv n, iv n1], iv n2], []))) := by kernel_rfl
end Go.Proofs.YtlmhajfbpplpoaaGreat
namespace Go.Proofs.YtlmhajfbpplpoaaGreat
open Go.RowKit
def hs48 : Hints := []
noncomputable def mf48 : MFn := mfD Tryz.prog entsC hs48 false false 48
def hn48 : Hnt := ⟨[(49, (.tup [.ls, .int .i64], [.box [.ls, .int .i64, .ls, .bool]])), (91, (.tup [.ls, .agg [.int .i64, .int .i64], .int .i64], [])), (92, (.agg [.int .i64, .str, .int .i64, .int .i64], [.box [.ls, .int .i64, .ls, .bool]]))], [], [(26, [.int .i64, .int .i64])]⟩
def hs15 : Hints := []
noncomputable def mf15 : MFn := mfD Tryz.prog entsC hs15 false false 15
def hn15 : Hnt := ⟨[(48, (.tup [.ls, .agg [.int .i64, .int .i64], .int .i64], []))], [], []⟩
def hs17 : Hints := []
noncomputable def mf17 : MFn := mfD Tryz.prog entsC hs17 false false 17
def hn17 : Hnt := ⟨[(53, (.tup [.agg [.int .i64, .ls, .ls, .int .i64, .str, .str, .ls], .agg [.int .i64, .int .i64], .int .i64], []))], [], []⟩
noncomputable def tabWb : List (Nat × MFn) := [(48, mf48), (15, mf15), (17, mf17)]
theorem e48 (A : Ar) (D : Orc) (x0 : ByteArray) (x1 : List (List AV)) (x2 : Bool) : fnK A D ownC hn48 (.b (.b .n (.b .n (.b (.b (.b (.b (.b (.b (.b .n (.b (.b .n (.b .n (.t .n))) .n)) .n) .n) .n) .n) .n) (.b .n (.b .n (.b .n (.b .n (.b .n (.b .n (.b .n (.f .n))))))))))) .n) 48 mf48 [sv x0, AV.ls x1, bv x2, AV.fn (Fn.func 49) [] []] [] =
 askK D (Key.fn 91) [sv x0] [] fun r o =>
 unTup r fun cs =>
 cLs cs fun xs l =>
 unCons l fun c l1 =>
 unAgg c fun cs1 =>
 cInt IntKind.i64 cs1 fun n l2 =>
 cInt IntKind.i64 l2 fun n1 l3 =>
 unNil l3 <|
 cInt IntKind.i64 l1 fun n2 l4 =>
 unNil l4 <|
 unEnd o <|
 br (A.eq n2 0)
 (askK D (Key.fn 49) [AV.ptr 0 0] [ABlk.mk [AV.ls xs, iv 0, AV.ls x1, bv x2] true false] fun r1 o1 =>
 unTup r1 fun cs2 =>
 cLs cs2 fun xs1 l5 =>
 cInt IntKind.i64 l5 fun n3 l6 =>
 unNil l6 <|
 unOut o1 fun c1 l7 =>
 unSet true false c1 fun cs3 =>
 cLs cs3 fun xs2 l8 =>
 cInt IntKind.i64 l8 fun n4 l9 =>
 cLs l9 fun xs3 l10 =>
 cBool l10 fun b l11 =>
 unNil l11 <|
 unEnd l7 <|
 br (A.eq n3 0)
 (askK D (Key.fn 92) [AV.ptr 0 0] [ABlk.mk [AV.ls xs2, iv n4, AV.ls xs3, bv b] true false] fun r2 o2 =>
 unAgg r2 fun cs4 =>
 cInt IntKind.i64 cs4 fun n5 l12 =>
 cStr l12 fun _ l13 =>
 cInt IntKind.i64 l13 fun _ l14 =>
 cInt IntKind.i64 l14 fun _ l15 =>
 unNil l15 <|
 unOut o2 fun c2 l16 =>
 unSet true false c2 fun cs5 =>
 cLs cs5 fun xs4 l17 =>
 cInt IntKind.i64 l17 fun n8 l18 =>
 cLs l18 fun xs5 l19 =>
 cBool l19 fun b1 l20 =>
 unNil l20 <|
 unEnd l16 <|
 br (A.eq n5 5)
 (br (A.eq n3 0) (some ((AV.tup [AV.ls xs1, AV.agg [iv 0, iv 0], iv 0], []))) none)
 (br (A.eq 101 0)
 (some ((AV.tup [AV.ls xs1, AV.agg [iv 0, iv 0], iv 0], [])))
 (askK D (Key.fn 92) [AV.ptr 0 0] [ABlk.mk [AV.ls xs4, iv n8, AV.ls xs5, bv b1] true false] fun r3 o3 =>
 unAgg r3 fun cs6 =>
 cInt IntKind.i64 cs6 fun _ l21 =>
 cStr l21 fun _ l22 =>
 cInt IntKind.i64 l22 fun n10 l23 =>
 cInt IntKind.i64 l23 fun n11 l24 =>
 unNil l24 <|
 unOut o3 fun c3 l25 =>
 unSet true false c3 fun cs7 =>
 cLs cs7 fun _ l26 =>
 cInt IntKind.i64 l26 fun _ l27 =>
 cLs l27 fun _ l28 =>
 cBool l28 fun _ l29 =>
 unNil l29 <|
 unEnd l25 <|
 some ((AV.tup [AV.ls [], AV.agg [iv n10, iv n11], iv 101], [])))))
 (br (A.eq n3 0) none (askK D (Key.fn 92) [AV.ptr 0 0] [ABlk.mk [AV.ls xs2, iv n4, AV.ls xs3, bv b] true false] fun r2 o2 =>
 unAgg r2 fun cs4 =>
 cInt IntKind.i64 cs4 fun _ l12 =>
 cStr l12 fun _ l13 =>
 cInt IntKind.i64 l13 fun n6 l14 =>
 cInt IntKind.i64 l14 fun n7 l15 =>
 unNil l15 <|
 unOut o2 fun c2 l16 =>
 unSet true false c2 fun cs5 =>
 cLs cs5 fun _ l17 =>
 cInt IntKind.i64 l17 fun _ l18 =>
 cLs l18 fun _ l19 =>
 cBool l19 fun _ l20 =>
 unNil l20 <|
 unEnd l16 <|
 some ((AV.tup [AV.ls [], AV.agg [iv n6, iv n7], iv n3], [])))))
 (some ((AV.tup [AV.ls [], AV.agg [iv n, iv n1], iv n2], []))) := by kernel_rfl

theorem e15 (A : Ar) (D : Orc) (x0 : ByteArray) : fnK A D ownC hn15 .n 15 mf15 [sv x0] [] =
 askK D (Key.fn 48) [sv x0, AV.ls [], bv false, AV.fn (Fn.func 49) [] []] [] fun r o =>
 unTup r fun cs =>
 cLs cs fun xs l =>
 unCons l fun c l1 =>
 unAgg c fun cs1 =>
 cInt IntKind.i64 cs1 fun n l2 =>
 cInt IntKind.i64 l2 fun n1 l3 =>
 unNil l3 <|
 cInt IntKind.i64 l1 fun n2 l4 =>
 unNil l4 <|
 unEnd o <|
 some ((AV.tup [AV.ls xs, AV.agg [iv n, iv n1], iv n2], [])) := by kernel_rfl

theorem e17 (A : Ar) (D : Orc) (x0 : ByteArray) : fnK A D ownC hn17 .n 17 mf17 [sv x0] [] =
 askK D (Key.fn 53) [sv x0, AV.ls [], bv false, AV.fn (Fn.func 54) [] []] [] fun r o =>
 unTup r fun cs =>
 unCons cs fun c l =>
 unAgg c fun cs1 =>
 cInt IntKind.i64 cs1 fun n l1 =>
 cLs l1 fun xs l2 =>
 cLs l2 fun xs1 l3 =>
 cInt IntKind.i64 l3 fun n1 l4 =>
 cStr l4 fun s l5 =>
 cStr l5 fun s1 l6 =>
 cLs l6 fun xs2 l7 =>
 unNil l7 <|
 unCons l fun c1 l8 =>
 unAgg c1 fun cs2 =>
 cInt IntKind.i64 cs2 fun n2 l9 =>
 cInt IntKind.i64 l9 fun n3 l10 =>
 unNil l10 <|
 cInt IntKind.i64 l8 fun n4 l11 =>
 unNil l11 <|
 unEnd o <|
 some ((AV.tup [AV.agg [iv n, AV.ls xs, AV.ls xs1, iv n1, sv s, sv s1, AV.ls xs2], AV.agg [iv n2, iv n3], iv n4], [])) := by kernel_rfl
end Go.Proofs.YtlmhajfbpplpoaaGreat
namespace Go.Proofs.YtlmhajfbpplpoaaGreat
open Go.RowKit
def hs14 : Hints := []
noncomputable def mf14 : MFn := mfD Tryz.prog entsC hs14 false false 14
def hn14 : Hnt := ⟨[(15, (.tup [.ls, .agg [.int .i64, .int .i64], .int .i64], [])), (17, (.tup [.agg [.int .i64, .ls, .ls, .int .i64, .str, .str, .ls], .agg [.int .i64, .int .i64], .int .i64], [])), (22, (.str, [])), (23, (.bool, [])), (24, (.bool, [])), (25, (.str, [])), (27, (.tup [.agg [.int .i64, .ls, .bool, .ls, .bool, .ls], .bool], [])), (44, (.tup [.agg [.ls, .bool, .ls], .bool], [])), (45, (.bool, [])), (46, (.bool, [])), (47, (.str, []))], [], [(32, [.int .i64, .int .i64]), (38, [.int .i64]), (43, [.ls]), (52, [.int .i64, .int .i64]), (72, [.int .i64, .ls, .ls, .int .i64, .str, .str, .ls]), (77, [.int .i64, .ls, .ls, .int .i64, .str, .str, .ls]), (86, [.int .i64, .ls, .ls, .int .i64, .str, .str, .ls]), (98, [.ls]), (107, [.int .i64]), (111, [.int .i64, .ls, .ls, .int .i64, .str, .str, .ls]), (116, [.ls]), (117, [.int .i64, .ls, .ls, .int .i64, .str, .str, .ls]), (118, [.int .i64, .ls, .ls, .int .i64, .str, .str, .ls]), (123, [.ls]), (124, [.int .i64, .ls, .ls, .int .i64, .str, .str, .ls]), (125, [.int .i64, .ls, .ls, .int .i64, .str, .str, .ls])]⟩
noncomputable def tabAv : List (Nat × MFn) := [(14, mf14)]
theorem e14 (A : Ar) (D : Orc) : fnK A D ownC hn14 .n 14 mf14 [] [] =
 askK D (Key.fn 17) [sv (bstr [120, 32, 43, 32, 50, 32, 60, 61, 32, 51, 42, 121, 32, 38, 32, 33, 40, 97, 32, 61, 32, 49, 32, 124, 32, 116, 114, 117, 101, 41])] [] fun r o =>
 unTup r fun cs =>
 unCons cs fun c l =>
 unAgg c fun cs1 =>
 cInt IntKind.i64 cs1 fun n l1 =>
 cLs l1 fun xs l2 =>
 cLs l2 fun xs1 l3 =>
 cInt IntKind.i64 l3 fun n1 l4 =>
 cStr l4 fun s l5 =>
 cStr l5 fun s1 l6 =>
 cLs l6 fun xs2 l7 =>
 unNil l7 <|
 unCons l fun c1 l8 =>
 unAgg c1 fun cs2 =>
 cInt IntKind.i64 cs2 fun n2 l9 =>
 cInt IntKind.i64 l9 fun n3 l10 =>
 unNil l10 <|
 cInt IntKind.i64 l8 fun n4 l11 =>
 unNil l11 <|
 unEnd o <|
 askK D (Key.fn 17) [sv (bstr [120, 32, 60])] [] fun r1 o1 =>
 unTup r1 fun cs3 =>
 unCons cs3 fun c2 l12 =>
 unAgg c2 fun cs4 =>
 cInt IntKind.i64 cs4 fun _ l13 =>
 cLs l13 fun _ l14 =>
 cLs l14 fun _ l15 =>
 cInt IntKind.i64 l15 fun _ l16 =>
 cStr l16 fun _ l17 =>
 cStr l17 fun _ l18 =>
 cLs l18 fun _ l19 =>
 unNil l19 <|
 unCons l12 fun c3 l20 =>
 unAgg c3 fun cs5 =>
 cInt IntKind.i64 cs5 fun n7 l21 =>
 cInt IntKind.i64 l21 fun n8 l22 =>
 unNil l22 <|
 cInt IntKind.i64 l20 fun n9 l23 =>
 unNil l23 <|
 unEnd o1 <|
 askK D (Key.fn 15) [sv (bstr [45, 50, 42, 120, 32, 43, 32, 49])] [] fun r2 o2 =>
 unTup r2 fun cs6 =>
 cLs cs6 fun xs6 l24 =>
 unCons l24 fun c4 l25 =>
 unAgg c4 fun cs7 =>
 cInt IntKind.i64 cs7 fun _ l26 =>
 cInt IntKind.i64 l26 fun _ l27 =>
 unNil l27 <|
 cInt IntKind.i64 l25 fun n12 l28 =>
 unNil l28 <|
 unEnd o2 <|
 br (A.eq n4 0)
 (br (A.not (A.band (A.eq n2 0) (A.band (A.eq n3 0) true)))
 (some ((bv false, [])))
 (br (A.eq n 4)
 (br (A.eq (↑(lenR xs2)) 2)
 (br (A.eq n9 101)
 (br (A.not (A.band (A.eq n7 1) (A.band (A.eq n8 4) true)))
 (some ((bv false, [])))
 (br (A.eq n12 0)
 (br (A.eq (↑(lenR xs6)) 2)
 (askK D (Key.fn 44) [AV.ls xs6, AV.ls [[sv (bstr [120])]]] [] fun r3 o3 =>
 unTup r3 fun cs8 =>
 unCons cs8 fun c5 l29 =>
 unAgg c5 fun cs9 =>
 cLs cs9 fun xs7 l30 =>
 cBool l30 fun _ l31 =>
 cLs l31 fun _ l32 =>
 unNil l32 <|
 cBool l29 fun b1 l33 =>
 unNil l33 <|
 unEnd o3 <|
 askK D (Key.fn 27) [AV.agg [iv n, AV.ls xs, AV.ls xs1, iv n1, sv s, sv s1, AV.ls xs2], AV.ls [[sv (bstr [120])], [sv (bstr [121])], [sv (bstr [97])]]] [] fun r4 o4 =>
 unTup r4 fun cs10 =>
 unCons cs10 fun c6 l34 =>
 unAgg c6 fun cs11 =>
 cInt IntKind.i64 cs11 fun n13 l35 =>
 cLs l35 fun _ l36 =>
 cBool l36 fun _ l37 =>
 cLs l37 fun _ l38 =>
 cBool l38 fun _ l39 =>
 cLs l39 fun _ l40 =>
 unNil l40 <|
 cBool l34 fun b4 l41 =>
 unNil l41 <|
 unEnd o4 <|
 askK D (Key.fn 25) [AV.agg [iv n, AV.ls xs, AV.ls xs1, iv n1, sv s, sv s1, AV.ls xs2]] [] fun r5 o5 =>
 unStr r5 fun s4 =>
 unEnd o5 <|
 br (A.seq s4 (bstr [120, 32, 43, 32, 50, 32, 60, 61, 32, 51, 42, 121, 32, 38, 32, 33, 40, 97, 32, 61, 32, 49, 32, 124, 32, 116, 114, 117, 101, 41]))
 (askK D (Key.fn 22) [AV.ls xs6] [] fun r6 o6 =>
 unStr r6 fun s5 =>
 unEnd o6 <|
 br (A.seq s5 (bstr [45, 50, 42, 120, 32, 43, 32, 49]))
 (askK D (Key.fn 24) [AV.agg [iv n, AV.ls xs, AV.ls xs1, iv n1, sv s, sv s1, AV.ls xs2]] [] fun r7 o7 =>
 unBool r7 fun b5 =>
 unEnd o7 <|
 br b5
 (askK D (Key.fn 23) [AV.ls xs6] [] fun r8 o8 =>
 unBool r8 fun b6 =>
 unEnd o8 <|
 br b6
 (br b1
 (br (A.eq (↑(lenR xs7)) 1)
 (br b4
 (br (A.eq n13 4)
 (askK D (Key.fn 45) [AV.agg [iv n, AV.ls xs, AV.ls xs1, iv n1, sv s, sv s1, AV.ls xs2]] [] fun r9 o9 =>
 unBool r9 fun b7 =>
 unEnd o9 <|
 br b7
 (nthK xs2 0 fun cs12 =>
 cInt IntKind.i64 cs12 fun n14 l42 =>
 cLs l42 fun xs12 l43 =>
 cLs l43 fun xs13 l44 =>
 cInt IntKind.i64 l44 fun n15 l45 =>
 cStr l45 fun s6 l46 =>
 cStr l46 fun s7 l47 =>
 cLs l47 fun xs14 l48 =>
 unNil l48 <|
 askK D (Key.fn 46) [AV.agg [iv n14, AV.ls xs12, AV.ls xs13, iv n15, sv s6, sv s7, AV.ls xs14]] [] fun r10 o10 =>
 unBool r10 fun b8 =>
 unEnd o10 <|
 br b8
 (nthK xs2 0 fun cs13 =>
 cInt IntKind.i64 cs13 fun n16 l49 =>
 cLs l49 fun xs15 l50 =>
 cLs l50 fun xs16 l51 =>
 cInt IntKind.i64 l51 fun n17 l52 =>
 cStr l52 fun s8 l53 =>
 cStr l53 fun s9 l54 =>
 cLs l54 fun xs17 l55 =>
 unNil l55 <|
 askK D (Key.fn 47) [AV.agg [iv n16, AV.ls xs15, AV.ls xs16, iv n17, sv s8, sv s9, AV.ls xs17]] [] fun r11 o11 =>
 unStr r11 fun s10 =>
 unEnd o11 <|
 br (A.seq s10 (bstr [120, 32, 43, 32, 50, 32, 60, 61, 32, 51, 42, 121]))
 (some ((bv true, [])))
 (some ((bv false, []))))
 (some ((bv false, []))))
 (some ((bv false, []))))
 (some ((bv false, []))))
 (some ((bv false, []))))
 (some ((bv false, []))))
 (some ((bv false, []))))
 (some ((bv false, []))))
 (some ((bv false, []))))
 (some ((bv false, []))))
 (some ((bv false, []))))
 (some ((bv false, []))))
 (some ((bv false, [])))))
 (some ((bv false, []))))
 (some ((bv false, []))))
 (some ((bv false, [])))))
 (some ((bv false, []))) := by kernel_rfl
end Go.Proofs.YtlmhajfbpplpoaaGreat
namespace Go.Proofs.YtlmhajfbpplpoaaGreat
open Go.RowKit
def hs47 : Hints := []
noncomputable def mf47 : MFn := mfD Tryz.prog entsC hs47 false false 47
def hn47 : Hnt := ⟨[(22, (.str, [])), (46, (.bool, [])), (90, (.ls, []))], [], [(3, [.int .i64, .ls, .ls, .int .i64, .str, .str, .ls]), (7, [.ls]), (12, [.int .i64]), (13, [.str]), (14, [.str]), (18, [.ls])]⟩
def hs63 : Hints := [⟨64, [false, true, false, true, false, false, false, false, true, true, true], [(3, 1)], [1], [(1, ([false, true, false, true], ([], [])))]⟩]
noncomputable def mf63 : MFn := mfD Tryz.prog entsC hs63 false false 63
def hn63 : Hnt := ⟨[(47, (.str, [])), (63, (.str, [])), (111, (.bool, []))], [(0, [(1, ([.ptr 0 0, .sl 2 1], [.box [.int .i64, .ls, .ls, .int .i64, .str, .str, .ls], .del, .row true]))])], [(8, [.ls]), (13, [.int .i64, .ls, .ls, .int .i64, .str, .str, .ls]), (14, [.int .i64, .ls, .ls, .int .i64, .str, .str, .ls]), (15, [.int .i64, .ls, .ls, .int .i64, .str, .str, .ls]), (18, [.int .i64]), (20, [.int .i64, .ls, .ls, .int .i64, .str, .str, .ls]), (31, [.int .i64]), (36, [.int .i64, .ls, .ls, .int .i64, .str, .str, .ls]), (41, [.str]), (42, [.str]), (47, [.str]), (48, [.str]), (51, [.str]), (52, [.str]), (57, [.str]), (58, [.str]), (61, [.str]), (62, [.str])]⟩
def hs25 : Hints := []
noncomputable def mf25 : MFn := mfD Tryz.prog entsC hs25 false false 25
def hn25 : Hnt := ⟨[(24, (.bool, [])), (63, (.str, []))], [], [(3, [.int .i64, .ls, .ls, .int .i64, .str, .str, .ls]), (6, [.int .i64, .ls, .ls, .int .i64, .str, .str, .ls])]⟩
noncomputable def tabTx : List (Nat × MFn) := [(47, mf47), (63, mf63), (25, mf25)]
theorem e47 (A : Ar) (D : Orc) (x0_0 : Int) (x0_1 : List (List AV)) (x0_2 : List (List AV)) (x0_3 : Int) (x0_4 : ByteArray) (x0_5 : ByteArray) (x0_6 : List (List AV)) : fnK A D ownC hn47 .n 47 mf47 [AV.agg [iv x0_0, AV.ls x0_1, AV.ls x0_2, iv x0_3, sv x0_4, sv x0_5, AV.ls x0_6]] [] =
 askK D (Key.fn 46) [AV.agg [iv x0_0, AV.ls x0_1, AV.ls x0_2, iv x0_3, sv x0_4, sv x0_5, AV.ls x0_6]] [] fun r o =>
 unBool r fun b =>
 unEnd o <|
 br b
 (askK D (Key.fn 22) [AV.ls x0_1] [] fun r1 o1 =>
 unStr r1 fun s =>
 unEnd o1 <|
 br ((A.slen s + A.slen (bstr [32])).ble 9223372036854775807) (askK D (Key.fn 90) [] [] fun r2 o2 =>
 unLs r2 fun xs =>
 unEnd o2 <|
 unI x0_3 fun i =>
 nthK xs i fun cs =>
 cStr cs fun s1 l =>
 unNil l <|
 br ((A.slen (A.cat s (bstr [32])) + A.slen s1).ble 9223372036854775807) (br ((A.slen (A.cat (A.cat s (bstr [32])) s1) + A.slen (bstr [32])).ble 9223372036854775807) (askK D (Key.fn 22) [AV.ls x0_2] [] fun r3 o3 =>
 unStr r3 fun s2 =>
 unEnd o3 <|
 br ((A.slen (A.cat (A.cat (A.cat s (bstr [32])) s1) (bstr [32])) + A.slen s2).ble 9223372036854775807) (some ((sv (A.cat (A.cat (A.cat (A.cat s (bstr [32])) s1) (bstr [32])) s2), []))) none) none) none) none)
 (some ((sv (bstr []), []))) := by kernel_rfl

theorem e63 (A : Ar) (D : Orc) (x0_0 : Int) (x0_1 : List (List AV)) (x0_2 : List (List AV)) (x0_3 : Int) (x0_4 : ByteArray) (x0_5 : ByteArray) (x0_6 : List (List AV)) : fnK A D ownC hn63 .n 63 mf63 [AV.agg [iv x0_0, AV.ls x0_1, AV.ls x0_2, iv x0_3, sv x0_4, sv x0_5, AV.ls x0_6]] [] =
 askK D (Key.lp 63 0) [AV.ptr 0 0, AV.sl 1 0 0 1, AV.ls x0_6, iv ↑(lenR x0_6), iv 0] [ABlk.mk [iv x0_0, AV.ls x0_1, AV.ls x0_2, iv x0_3, sv x0_4, sv x0_5, AV.ls x0_6] true false, ABlk.mk [] true true] fun r o =>
 unTup r fun cs =>
 unCons cs fun c l =>
 br (axIs 1 c)
 (unCons l fun c1 l1 =>
 unPtr 0 0 c1 <|
 unCons l1 fun c2 l2 =>
 unSl 2 1 c2 fun n =>
 unNil l2 <|
 unOut o fun c3 l3 =>
 unSet true false c3 fun cs1 =>
 cInt IntKind.i64 cs1 fun n1 l4 =>
 cLs l4 fun xs l5 =>
 cLs l5 fun xs1 l6 =>
 cInt IntKind.i64 l6 fun n2 l7 =>
 cStr l7 fun s l8 =>
 cStr l8 fun s1 l9 =>
 cLs l9 fun xs2 l10 =>
 unNil l10 <|
 unOut l3 fun c4 l11 =>
 unDel c4 <|
 unOut l11 fun c5 l12 =>
 unSet true true c5 fun cs2 =>
 unEnd l12 <|
 br (A.eq n1 1)
 (some ((sv (bstr [102, 97, 108, 115, 101]), [])))
 (br (A.eq n1 2)
 (askK D (Key.fn 47) [AV.agg [iv n1, AV.ls xs, AV.ls xs1, iv n2, sv s, sv s1, AV.ls xs2]] [] fun r1 o1 =>
 unStr r1 fun s2 =>
 unEnd o1 <|
 some ((sv s2, [])))
 (br (A.eq n1 3)
 (br (Nat.blt 0 n) (rdK cs2 0 1 fun cs3 =>
 cStr cs3 fun s2 l13 =>
 unNil l13 <|
 br ((A.slen (bstr [33]) + A.slen s2).ble 9223372036854775807) (some ((sv (A.cat (bstr [33]) s2), []))) none) none)
 (br (A.eq n1 4)
 (br (Nat.blt 0 n) (rdK cs2 0 1 fun cs3 =>
 cStr cs3 fun s2 l13 =>
 unNil l13 <|
 br ((A.slen s2 + A.slen (bstr [32, 38, 32])).ble 9223372036854775807) (br (Nat.blt 1 n) (rdK cs2 1 1 fun cs4 =>
 cStr cs4 fun s3 l14 =>
 unNil l14 <|
 br ((A.slen (A.cat s2 (bstr [32, 38, 32])) + A.slen s3).ble 9223372036854775807) (some ((sv (A.cat (A.cat s2 (bstr [32, 38, 32])) s3), []))) none) none) none) none)
 (br (A.eq n1 5)
 (br (Nat.blt 0 n) (rdK cs2 0 1 fun cs3 =>
 cStr cs3 fun s2 l13 =>
 unNil l13 <|
 br ((A.slen s2 + A.slen (bstr [32, 124, 32])).ble 9223372036854775807) (br (Nat.blt 1 n) (rdK cs2 1 1 fun cs4 =>
 cStr cs4 fun s3 l14 =>
 unNil l14 <|
 br ((A.slen (A.cat s2 (bstr [32, 124, 32])) + A.slen s3).ble 9223372036854775807) (some ((sv (A.cat (A.cat s2 (bstr [32, 124, 32])) s3), []))) none) none) none) none)
 (some ((sv (bstr [116, 114, 117, 101]), []))))))))
 (none) := by kernel_rfl

theorem e63_0 (A : Ar) (D : Orc) (b1_0 : Int) (b1_1 : List (List AV)) (b1_2 : List (List AV)) (b1_3 : Int) (b1_4 : ByteArray) (b1_5 : ByteArray) (b1_6 : List (List AV)) (n3 : Nat) (c3 : List AV) (t8 : List (List AV)) (t9 : Int) (t10 : Int) : lpK A D ownC hn63 .n 63 0 (lpAt mf63 0).fst (lpAt mf63 0).snd [AV.ptr 0 0, AV.sl 1 0 n3 1, AV.ls t8, iv t9, iv t10] [{ cells := [iv b1_0, AV.ls b1_1, AV.ls b1_2, iv b1_3, sv b1_4, sv b1_5, AV.ls b1_6], st := true, ex := false }, { cells := c3, st := true, ex := true }] =
 br (A.lt t10 t9)
 (unI t10 fun i =>
 nthK t8 i fun cs =>
 cInt IntKind.i64 cs fun n l =>
 cLs l fun xs l1 =>
 cLs l1 fun xs1 l2 =>
 cInt IntKind.i64 l2 fun n1 l3 =>
 cStr l3 fun s l4 =>
 cStr l4 fun s1 l5 =>
 cLs l5 fun xs2 l6 =>
 unNil l6 <|
 askK D (Key.fn 63) [AV.agg [iv n, AV.ls xs, AV.ls xs1, iv n1, sv s, sv s1, AV.ls xs2]] [] fun r o =>
 unStr r fun s2 =>
 unEnd o <|
 askK D (Key.fn 111) [iv b1_0, iv t10, AV.agg [iv n, AV.ls xs, AV.ls xs1, iv n1, sv s, sv s1, AV.ls xs2]] [] fun r1 o1 =>
 unBool r1 fun b =>
 unEnd o1 <|
 br b
 (br ((A.slen (bstr [40]) + A.slen s2).ble 9223372036854775807) (br ((A.slen (A.cat (bstr [40]) s2) + A.slen (bstr [41])).ble 9223372036854775807) (br (fitsB (n3 + 1) 16) (br ((0 + n3 * 1).ble c3.length) (askK D (Key.lp 63 0) [AV.ptr 0 0, AV.sl 1 0 (n3 + 1) 1, AV.ls t8, iv t9, iv (A.add IntKind.i64 t10 1)] [ABlk.mk [iv b1_0, AV.ls b1_1, AV.ls b1_2, iv b1_3, sv b1_4, sv b1_5, AV.ls b1_6] true false, ABlk.mk (List.drop 0 (List.take (0 + n3 * 1) c3) ++ [sv (A.cat (A.cat (bstr [40]) s2) (bstr [41]))]) true true] fun r2 o2 =>
 tailK 2 [0, 4] (AH.mk [(0, ABlk.mk [iv b1_0, AV.ls b1_1, AV.ls b1_2, iv b1_3, sv b1_4, sv b1_5, AV.ls b1_6] true false), (4, ABlk.mk (List.drop 0 (List.take (0 + n3 * 1) c3) ++ [sv (A.cat (A.cat (bstr [40]) s2) (bstr [41]))]) true true), (3, ABlk.mk [sv (A.cat (A.cat (bstr [40]) s2) (bstr [41]))] true true), (2, ABlk.mk [iv n, AV.ls xs, AV.ls xs1, iv n1, sv s, sv s1, AV.ls xs2] true false)] 5 none) [1, 0] r2 o2) none) none) none) none)
 (br (fitsB (n3 + 1) 16) (br ((0 + n3 * 1).ble c3.length) (askK D (Key.lp 63 0) [AV.ptr 0 0, AV.sl 1 0 (n3 + 1) 1, AV.ls t8, iv t9, iv (A.add IntKind.i64 t10 1)] [ABlk.mk [iv b1_0, AV.ls b1_1, AV.ls b1_2, iv b1_3, sv b1_4, sv b1_5, AV.ls b1_6] true false, ABlk.mk (List.drop 0 (List.take (0 + n3 * 1) c3) ++ [sv s2]) true true] fun r2 o2 =>
 tailK 2 [0, 4] (AH.mk [(0, ABlk.mk [iv b1_0, AV.ls b1_1, AV.ls b1_2, iv b1_3, sv b1_4, sv b1_5, AV.ls b1_6] true false), (4, ABlk.mk (List.drop 0 (List.take (0 + n3 * 1) c3) ++ [sv s2]) true true), (3, ABlk.mk [sv s2] true true), (2, ABlk.mk [iv n, AV.ls xs, AV.ls xs1, iv n1, sv s, sv s1, AV.ls xs2] true false)] 5 none) [1, 0] r2 o2) none) none))
 (some ((AV.tup [iv 0, AV.ptr 0 0, AV.sl 2 0 n3 1], [BO.set (ABlk.mk [iv b1_0, AV.ls b1_1, AV.ls b1_2, iv b1_3, sv b1_4, sv b1_5, AV.ls b1_6] true false), BO.del, BO.set (ABlk.mk c3 true true)]))) := by kernel_rfl

theorem e25 (A : Ar) (D : Orc) (x0_0 : Int) (x0_1 : List (List AV)) (x0_2 : List (List AV)) (x0_3 : Int) (x0_4 : ByteArray) (x0_5 : ByteArray) (x0_6 : List (List AV)) : fnK A D ownC hn25 .n 25 mf25 [AV.agg [iv x0_0, AV.ls x0_1, AV.ls x0_2, iv x0_3, sv x0_4, sv x0_5, AV.ls x0_6]] [] =
 askK D (Key.fn 24) [AV.agg [iv x0_0, AV.ls x0_1, AV.ls x0_2, iv x0_3, sv x0_4, sv x0_5, AV.ls x0_6]] [] fun r o =>
 unBool r fun b =>
 unEnd o <|
 br b
 (askK D (Key.fn 63) [AV.agg [iv x0_0, AV.ls x0_1, AV.ls x0_2, iv x0_3, sv x0_4, sv x0_5, AV.ls x0_6]] [] fun r1 o1 =>
 unStr r1 fun s =>
 unEnd o1 <|
 some ((sv s, [])))
 (some ((sv (bstr []), []))) := by kernel_rfl
end Go.Proofs.YtlmhajfbpplpoaaGreat
namespace Go.Proofs.YtlmhajfbpplpoaaGreat
open Go.RowKit
def hs4 : Hints := []
noncomputable def mf4 : MFn := mfD Tryz.prog entsC hs4 false false 4
def hn4 : Hnt := ⟨[(14, (.bool, [])), (15, (.tup [.ls, .agg [.int .i64, .int .i64], .int .i64], [])), (17, (.tup [.agg [.int .i64, .ls, .ls, .int .i64, .str, .str, .ls], .agg [.int .i64, .int .i64], .int .i64], [])), (19, (.bool, [])), (20, (.bool, [])), (21, (.int .i64, [])), (22, (.str, [])), (23, (.bool, [])), (24, (.bool, [])), (25, (.str, []))], [], [(15, [.int .i64, .ls, .ls, .int .i64, .str, .str, .ls]), (41, [.int .i64, .ls, .ls, .int .i64, .str, .str, .ls]), (44, [.int .i64, .ls, .ls, .int .i64, .str, .str, .ls]), (47, [.int .i64, .ls, .ls, .int .i64, .str, .str, .ls]), (63, [.int .i64, .ls, .ls, .int .i64, .str, .str, .ls]), (64, [.int .i64, .ls, .ls, .int .i64, .str, .str, .ls])]⟩
def hs5 : Hints := []
noncomputable def mf5 : MFn := mfD Tryz.prog entsC hs5 false false 5
def hn5 : Hnt := ⟨[(14, (.bool, [])), (17, (.tup [.agg [.int .i64, .ls, .ls, .int .i64, .str, .str, .ls], .agg [.int .i64, .int .i64], .int .i64], [])), (20, (.bool, [])), (24, (.bool, [])), (25, (.str, []))], [], [(24, [.int .i64]), (27, [.int .i64, .ls, .ls, .int .i64, .str, .str, .ls]), (31, [.int .i64, .ls, .ls, .int .i64, .str, .str, .ls]), (39, [.int .i64, .ls, .ls, .int .i64, .str, .str, .ls]), (46, [.int .i64, .ls, .ls, .int .i64, .str, .str, .ls]), (47, [.int .i64, .ls, .ls, .int .i64, .str, .str, .ls]), (51, [.int .i64, .ls, .ls, .int .i64, .str, .str, .ls])]⟩
noncomputable def tabLc : List (Nat × MFn) := [(4, mf4), (5, mf5)]
theorem e4 (A : Ar) (D : Orc) (x0 : List (List AV)) (x1_0 : Int) (x1_1 : List (List AV)) (x1_2 : List (List AV)) (x1_3 : Int) (x1_4 : ByteArray) (x1_5 : ByteArray) (x1_6 : List (List AV)) : fnK A D ownC hn4 .n 4 mf4 [AV.ls x0, AV.agg [iv x1_0, AV.ls x1_1, AV.ls x1_2, iv x1_3, sv x1_4, sv x1_5, AV.ls x1_6]] [] =
 askK D (Key.fn 14) [] [] fun r o =>
 unBool r fun b =>
 unEnd o <|
 br b
 (askK D (Key.fn 21) [AV.agg [iv x1_0, AV.ls x1_1, AV.ls x1_2, iv x1_3, sv x1_4, sv x1_5, AV.ls x1_6], iv 200] [] fun r1 o1 =>
 unInt IntKind.i64 r1 fun n =>
 unEnd o1 <|
 br (A.lt 200 n)
 (some ((bv true, [])))
 (br (A.lt 100 ↑(lenR x0))
 (some ((bv true, [])))
 (askK D (Key.fn 22) [AV.ls x0] [] fun r2 o2 =>
 unStr r2 fun s =>
 unEnd o2 <|
 askK D (Key.fn 23) [AV.ls x0] [] fun r3 o3 =>
 unBool r3 fun b1 =>
 unEnd o3 <|
 br b1
 (askK D (Key.fn 15) [sv s] [] fun r4 o4 =>
 unTup r4 fun cs =>
 cLs cs fun xs l =>
 unCons l fun c l1 =>
 unAgg c fun cs1 =>
 cInt IntKind.i64 cs1 fun _ l2 =>
 cInt IntKind.i64 l2 fun _ l3 =>
 unNil l3 <|
 cInt IntKind.i64 l1 fun n3 l4 =>
 unNil l4 <|
 unEnd o4 <|
 br (A.eq n3 0)
 (askK D (Key.fn 19) [AV.ls xs, AV.ls x0] [] fun r5 o5 =>
 unBool r5 fun b2 =>
 unEnd o5 <|
 br b2
 (askK D (Key.fn 24) [AV.agg [iv x1_0, AV.ls x1_1, AV.ls x1_2, iv x1_3, sv x1_4, sv x1_5, AV.ls x1_6]] [] fun r6 o6 =>
 unBool r6 fun b3 =>
 unEnd o6 <|
 br b3
 (askK D (Key.fn 25) [AV.agg [iv x1_0, AV.ls x1_1, AV.ls x1_2, iv x1_3, sv x1_4, sv x1_5, AV.ls x1_6]] [] fun r7 o7 =>
 unStr r7 fun s1 =>
 unEnd o7 <|
 askK D (Key.fn 17) [sv s1] [] fun r8 o8 =>
 unTup r8 fun cs2 =>
 unCons cs2 fun c1 l5 =>
 unAgg c1 fun cs3 =>
 cInt IntKind.i64 cs3 fun n4 l6 =>
 cLs l6 fun xs1 l7 =>
 cLs l7 fun xs2 l8 =>
 cInt IntKind.i64 l8 fun n5 l9 =>
 cStr l9 fun s2 l10 =>
 cStr l10 fun s3 l11 =>
 cLs l11 fun xs3 l12 =>
 unNil l12 <|
 unCons l5 fun c2 l13 =>
 unAgg c2 fun cs4 =>
 cInt IntKind.i64 cs4 fun _ l14 =>
 cInt IntKind.i64 l14 fun _ l15 =>
 unNil l15 <|
 cInt IntKind.i64 l13 fun n8 l16 =>
 unNil l16 <|
 unEnd o8 <|
 br (A.lt 16384 ↑(A.slen s1))
 (br (A.eq n8 2)
 (some ((bv true, [])))
 (some ((bv false, []))))
 (br (A.eq n8 0)
 (askK D (Key.fn 20) [AV.agg [iv n4, AV.ls xs1, AV.ls xs2, iv n5, sv s2, sv s3, AV.ls xs3], AV.agg [iv x1_0, AV.ls x1_1, AV.ls x1_2, iv x1_3, sv x1_4, sv x1_5, AV.ls x1_6]] [] fun r9 o9 =>
 unBool r9 fun b4 =>
 unEnd o9 <|
 br b4
 (some ((bv true, [])))
 (some ((bv false, []))))
 (some ((bv false, [])))))
 (askK D (Key.fn 25) [AV.agg [iv x1_0, AV.ls x1_1, AV.ls x1_2, iv x1_3, sv x1_4, sv x1_5, AV.ls x1_6]] [] fun r7 o7 =>
 unStr r7 fun s1 =>
 unEnd o7 <|
 br (A.seq s1 (bstr []))
 (some ((bv true, [])))
 (some ((bv false, [])))))
 (some ((bv false, []))))
 (some ((bv false, []))))
 (askK D (Key.fn 24) [AV.agg [iv x1_0, AV.ls x1_1, AV.ls x1_2, iv x1_3, sv x1_4, sv x1_5, AV.ls x1_6]] [] fun r4 o4 =>
 unBool r4 fun b2 =>
 unEnd o4 <|
 br b2
 (askK D (Key.fn 25) [AV.agg [iv x1_0, AV.ls x1_1, AV.ls x1_2, iv x1_3, sv x1_4, sv x1_5, AV.ls x1_6]] [] fun r5 o5 =>
 unStr r5 fun s1 =>
 unEnd o5 <|
 askK D (Key.fn 17) [sv s1] [] fun r6 o6 =>
 unTup r6 fun cs =>
 unCons cs fun c l =>
 unAgg c fun cs1 =>
 cInt IntKind.i64 cs1 fun n1 l1 =>
 cLs l1 fun xs l2 =>
 cLs l2 fun xs1 l3 =>
 cInt IntKind.i64 l3 fun n2 l4 =>
 cStr l4 fun s2 l5 =>
 cStr l5 fun s3 l6 =>
 cLs l6 fun xs2 l7 =>
 unNil l7 <|
 unCons l fun c1 l8 =>
 unAgg c1 fun cs2 =>
 cInt IntKind.i64 cs2 fun _ l9 =>
 cInt IntKind.i64 l9 fun _ l10 =>
 unNil l10 <|
 cInt IntKind.i64 l8 fun n5 l11 =>
 unNil l11 <|
 unEnd o6 <|
 br (A.lt 16384 ↑(A.slen s1))
 (br (A.eq n5 2)
 (some ((bv true, [])))
 (some ((bv false, []))))
 (br (A.eq n5 0)
 (askK D (Key.fn 20) [AV.agg [iv n1, AV.ls xs, AV.ls xs1, iv n2, sv s2, sv s3, AV.ls xs2], AV.agg [iv x1_0, AV.ls x1_1, AV.ls x1_2, iv x1_3, sv x1_4, sv x1_5, AV.ls x1_6]] [] fun r7 o7 =>
 unBool r7 fun b3 =>
 unEnd o7 <|
 br b3
 (some ((bv true, [])))
 (some ((bv false, []))))
 (some ((bv false, [])))))
 (askK D (Key.fn 25) [AV.agg [iv x1_0, AV.ls x1_1, AV.ls x1_2, iv x1_3, sv x1_4, sv x1_5, AV.ls x1_6]] [] fun r5 o5 =>
 unStr r5 fun s1 =>
 unEnd o5 <|
 br (A.seq s1 (bstr []))
 (some ((bv true, [])))
 (some ((bv false, []))))))))
 (some ((bv false, []))) := by kernel_rfl

theorem e5 (A : Ar) (D : Orc) (x0 : ByteArray) : fnK A D ownC hn5 .n 5 mf5 [sv x0] [] =
 askK D (Key.fn 14) [] [] fun r o =>
 unBool r fun b =>
 unEnd o <|
 br b
 (br (A.lt 4000 ↑(A.slen x0))
 (some ((bv true, [])))
 (askK D (Key.fn 17) [sv x0] [] fun r1 o1 =>
 unTup r1 fun cs =>
 unCons cs fun c l =>
 unAgg c fun cs1 =>
 cInt IntKind.i64 cs1 fun n l1 =>
 cLs l1 fun xs l2 =>
 cLs l2 fun xs1 l3 =>
 cInt IntKind.i64 l3 fun n1 l4 =>
 cStr l4 fun s l5 =>
 cStr l5 fun s1 l6 =>
 cLs l6 fun xs2 l7 =>
 unNil l7 <|
 unCons l fun c1 l8 =>
 unAgg c1 fun cs2 =>
 cInt IntKind.i64 cs2 fun n2 l9 =>
 cInt IntKind.i64 l9 fun _ l10 =>
 unNil l10 <|
 cInt IntKind.i64 l8 fun n4 l11 =>
 unNil l11 <|
 unEnd o1 <|
 br (A.eq n4 0)
 (askK D (Key.fn 25) [AV.agg [iv n, AV.ls xs, AV.ls xs1, iv n1, sv s, sv s1, AV.ls xs2]] [] fun r2 o2 =>
 unStr r2 fun s2 =>
 unEnd o2 <|
 askK D (Key.fn 17) [sv s2] [] fun r3 o3 =>
 unTup r3 fun cs3 =>
 unCons cs3 fun c2 l12 =>
 unAgg c2 fun cs4 =>
 cInt IntKind.i64 cs4 fun n5 l13 =>
 cLs l13 fun xs3 l14 =>
 cLs l14 fun xs4 l15 =>
 cInt IntKind.i64 l15 fun n6 l16 =>
 cStr l16 fun s3 l17 =>
 cStr l17 fun s4 l18 =>
 cLs l18 fun xs5 l19 =>
 unNil l19 <|
 unCons l12 fun c3 l20 =>
 unAgg c3 fun cs5 =>
 cInt IntKind.i64 cs5 fun _ l21 =>
 cInt IntKind.i64 l21 fun _ l22 =>
 unNil l22 <|
 cInt IntKind.i64 l20 fun n9 l23 =>
 unNil l23 <|
 unEnd o3 <|
 askK D (Key.fn 24) [AV.agg [iv n, AV.ls xs, AV.ls xs1, iv n1, sv s, sv s1, AV.ls xs2]] [] fun r4 o4 =>
 unBool r4 fun b1 =>
 unEnd o4 <|
 br b1
 (br (A.eq n9 0)
 (askK D (Key.fn 20) [AV.agg [iv n5, AV.ls xs3, AV.ls xs4, iv n6, sv s3, sv s4, AV.ls xs5], AV.agg [iv n, AV.ls xs, AV.ls xs1, iv n1, sv s, sv s1, AV.ls xs2]] [] fun r5 o5 =>
 unBool r5 fun b2 =>
 unEnd o5 <|
 br b2
 (askK D (Key.fn 25) [AV.agg [iv n5, AV.ls xs3, AV.ls xs4, iv n6, sv s3, sv s4, AV.ls xs5]] [] fun r6 o6 =>
 unStr r6 fun s5 =>
 unEnd o6 <|
 br (A.seq s5 s2)
 (some ((bv true, [])))
 (some ((bv false, []))))
 (some ((bv false, []))))
 (some ((bv false, []))))
 (some ((bv false, []))))
 (br (A.le 1 n2)
 (askK D (Key.fn 20) [AV.agg [iv n, AV.ls xs, AV.ls xs1, iv n1, sv s, sv s1, AV.ls xs2], AV.agg [iv 0, AV.ls [], AV.ls [], iv 0, sv (bstr []), sv (bstr []), AV.ls []]] [] fun r2 o2 =>
 unBool r2 fun b1 =>
 unEnd o2 <|
 br b1
 (some ((bv true, [])))
 (some ((bv false, []))))
 (some ((bv false, []))))))
 (some ((bv false, []))) := by kernel_rfl
end Go.Proofs.YtlmhajfbpplpoaaGreat
