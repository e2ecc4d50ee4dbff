/-
  Functions of the program as trees: what a call comes to.
  What the reference's small functions over a tape come to.
  What the cursor's sums come to.
-/
import Derived.Test.YtlmhajfbpplpoaaGreatZAS
import Derived.Test.YtlmhajfbpplpoaaGreatZAU
set_option linter.unusedSectionVars false
set_option linter.unusedSimpArgs false
set_option linter.unusedVariables false
namespace Go.Proofs.YtlmhajfbpplpoaaGreat
open Go.RowKit
def hs121 : Hints := [⟨19, [true, true, false, false, false, true], [], [], [(0, ([false, false, false, false, true], ([], []))), (1, ([], ([], [])))]⟩]
noncomputable def mf121 : MFn := mfD Tryz.prog entsC hs121 false false 121
def hn121 : Hnt := ⟨[], [(0, [(0, ([.int .i64], [])), (1, ([], []))])], [(14, [.str]), (15, [.str])]⟩
def hs103 : Hints := []
noncomputable def mf103 : MFn := mfD Tryz.prog entsC hs103 false false 103
def hn103 : Hnt := ⟨[(121, (.int .i64, []))], [], []⟩
def hs101 : Hints := []
noncomputable def mf101 : MFn := mfD Tryz.prog entsC hs101 false false 101
def hn101 : Hnt := ⟨[], [], [(4, [.ls]), (9, [.int .i64]), (12, [.ls]), (13, [.int .i64, .str, .int .i64, .int .i64]), (14, [.int .i64, .str, .int .i64, .int .i64]), (16, [.int .i64]), (18, [.ls]), (22, [.ls]), (24, [.ls]), (27, [.int .i64, .str, .int .i64, .int .i64]), (28, [.int .i64, .str, .int .i64, .int .i64]), (30, [.ls]), (32, [.int .i64]), (33, [.int .i64, .str, .int .i64, .int .i64]), (34, [.int .i64, .str, .int .i64, .int .i64])]⟩
def hs99 : Hints := []
noncomputable def mf99 : MFn := mfD Tryz.prog entsC hs99 false false 99
def hn99 : Hnt := ⟨[(101, (.agg [.int .i64, .str, .int .i64, .int .i64], []))], [], [(6, [.ls, .int .i64, .ls, .bool]), (9, [.str]), (14, [.int .i64]), (18, [.int .i64]), (23, [.int .i64])]⟩
def hs100 : Hints := []
noncomputable def mf100 : MFn := mfD Tryz.prog entsC hs100 false false 100
def hn100 : Hnt := ⟨[], [], [(4, [.int .i64]), (7, [.ls, .int .i64, .ls, .bool])]⟩
def hs102 : Hints := []
noncomputable def mf102 : MFn := mfD Tryz.prog entsC hs102 false false 102
def hn102 : Hnt := ⟨[(77, (.bool, [])), (101, (.agg [.int .i64, .str, .int .i64, .int .i64], []))], [], [(4, [.ls, .int .i64, .ls, .bool]), (7, [.int .i64]), (11, [.str])]⟩
def hs237 : Hints := []
noncomputable def mf237 : MFn := mfD Tryz.prog entsC hs237 false false 237
def hn237 : Hnt := ⟨[], [], []⟩
def hs21 : Hints := [⟨31, [false, true, true, false, false, true, true], [], [2], [(1, ([false, false, false, false, false, true], ([], [2])))]⟩]
noncomputable def mf21 : MFn := mfD Tryz.prog entsC hs21 false false 21
def hn21 : Hnt := ⟨[(21, (.int .i64, []))], [(0, [(1, ([.int .i64], [.del]))])], [(9, [.ls]), (21, [.ls]), (23, [.int .i64, .ls, .ls, .int .i64, .str, .str, .ls]), (24, [.int .i64, .ls, .ls, .int .i64, .str, .str, .ls])]⟩
def hs19 : Hints := [⟨26, [true, true, false, false, false, true], [], [], [(0, ([false, false, false, false, true], ([], []))), (1, ([], ([], [])))]⟩]
noncomputable def mf19 : MFn := mfD Tryz.prog entsC hs19 false false 19
def hn19 : Hnt := ⟨[], [(0, [(0, ([.bool], [])), (1, ([], []))])], [(19, [.bool, .str, .str]), (20, [.bool, .str, .str]), (23, [.bool, .str, .str]), (24, [.bool, .str, .str])]⟩
def hs20 : Hints := [⟨76, [false, false, true, true, false, true], [], [2, 3], [(0, ([false, false, false, false, true], ([], [2, 3]))), (1, ([], ([], [2, 3])))]⟩]
noncomputable def mf20 : MFn := mfD Tryz.prog entsC hs20 false false 20
def hn20 : Hnt := ⟨[(19, (.bool, [])), (20, (.bool, []))], [(0, [(0, ([.bool], [.del, .del])), (1, ([], [.del, .del]))])], [(7, [.int .i64]), (9, [.int .i64]), (13, [.int .i64]), (15, [.int .i64]), (20, [.str]), (22, [.str]), (27, [.str]), (29, [.str]), (34, [.ls]), (36, [.ls]), (42, [.ls]), (44, [.ls]), (50, [.ls]), (53, [.ls]), (59, [.ls]), (65, [.ls]), (67, [.int .i64, .ls, .ls, .int .i64, .str, .str, .ls]), (68, [.int .i64, .ls, .ls, .int .i64, .str, .str, .ls]), (70, [.ls]), (72, [.int .i64, .ls, .ls, .int .i64, .str, .str, .ls]), (73, [.int .i64, .ls, .ls, .int .i64, .str, .str, .ls])]⟩
def hs51 : Hints := [⟨90, [false, true, true, false, false, true, true], [(5, 3)], [1, 2], [(0, ([false, false, true, true, true], ([2, 3], [1, 5])))]⟩]
noncomputable def mf51 : MFn := mfD Tryz.prog entsC hs51 false false 51
def hn51 : Hnt := ⟨[(99, (.bool, [])), (100, (.agg [.ls, .int .i64, .ls, .bool], [])), (101, (.agg [.int .i64, .str, .int .i64, .int .i64], [])), (102, (.bool, [])), (103, (.bool, []))], [(0, [(0, ([.ptr 1 0, .ls, .int .i64], [.del, .box [.ls, .int .i64, .ls, .bool], .del]))])], [(10, [.ls, .int .i64, .ls, .bool]), (13, [.ls, .int .i64, .ls, .bool]), (15, [.ls, .int .i64, .ls, .bool]), (18, [.int .i64]), (21, [.ls, .int .i64, .ls, .bool]), (25, [.ls, .int .i64, .ls, .bool]), (29, [.ls, .int .i64, .ls, .bool]), (33, [.int .i64]), (36, [.str]), (38, [.ls, .int .i64, .ls, .bool]), (41, [.str]), (44, [.ls, .int .i64, .ls, .bool]), (48, [.str]), (50, [.ls, .int .i64, .ls, .bool]), (52, [.ls, .int .i64, .ls, .bool]), (55, [.ls, .int .i64, .ls, .bool]), (56, [.ls, .int .i64, .ls, .bool]), (61, [.bool]), (64, [.ls]), (66, [.str]), (70, [.ls, .int .i64, .ls, .bool]), (71, [.ls, .int .i64, .ls, .bool]), (74, [.bool, .str, .str]), (77, [.ls, .int .i64, .ls, .bool]), (82, [.ls, .int .i64, .ls, .bool]), (86, [.ls, .int .i64, .ls, .bool]), (88, [.ls, .int .i64, .ls, .bool])]⟩
def hs221 : Hints := [⟨52, [false, true, true, true, false, true, false, true, true], [], [1, 2, 3], [(1, ([false, true, true, true, false, true, false, true], ([], [])))]⟩]
noncomputable def mf221 : MFn := mfD Tryz.prog entsC hs221 false false 221
def hn221 : Hnt := ⟨[(51, (.tup [.agg [.ls, .int .i64, .ls, .bool], .ls, .int .i64], [])), (99, (.bool, [])), (100, (.agg [.ls, .int .i64, .ls, .bool], [])), (237, (.str, []))], [(0, [(1, ([.ptr 0 0, .ptr 1 0, .ptr 2 0, .ls, .int .i64], [.box [.ls, .int .i64, .ls, .bool], .box [.ls, .int .i64, .ls, .bool], .box [.int .i64, .ls, .ls, .int .i64, .str, .str, .ls]]))])], [(12, [.ls, .int .i64, .ls, .bool]), (19, [.ls, .int .i64, .ls, .bool]), (26, [.ls, .int .i64, .ls, .bool]), (33, [.ls, .int .i64, .ls, .bool]), (36, [.ls, .int .i64, .ls, .bool]), (44, [.ls, .int .i64, .ls, .bool]), (47, [.ls, .int .i64, .ls, .bool])]⟩
def hs166 : Hints := []
noncomputable def mf166 : MFn := mfD Tryz.prog entsC hs166 false false 166
def hn166 : Hnt := ⟨[(55, (.tup [.agg [.ls, .int .i64, .ls, .bool], .agg [.int .i64, .ls, .ls, .int .i64, .str, .str, .ls], .int .i64], [])), (99, (.bool, [])), (100, (.agg [.ls, .int .i64, .ls, .bool], [])), (166, (.tup [.agg [.ls, .int .i64, .ls, .bool], .agg [.int .i64, .ls, .ls, .int .i64, .str, .str, .ls], .int .i64], [])), (221, (.tup [.agg [.ls, .int .i64, .ls, .bool], .agg [.int .i64, .ls, .ls, .int .i64, .str, .str, .ls], .int .i64], []))], [], [(13, [.ls, .int .i64, .ls, .bool]), (16, [.ls, .int .i64, .ls, .bool]), (23, [.ls, .int .i64, .ls, .bool]), (25, [.ls, .int .i64, .ls, .bool]), (27, [.ls, .int .i64, .ls, .bool]), (30, [.ls, .int .i64, .ls, .bool]), (32, [.ls, .int .i64, .ls, .bool]), (35, [.ls, .int .i64, .ls, .bool]), (38, [.ls, .int .i64, .ls, .bool]), (48, [.ls, .int .i64, .ls, .bool]), (51, [.ls, .int .i64, .ls, .bool]), (52, [.int .i64, .ls, .ls, .int .i64, .str, .str, .ls]), (55, [.ls, .int .i64, .ls, .bool]), (58, [.ls, .int .i64, .ls, .bool]), (69, [.ls, .int .i64, .ls, .bool]), (75, [.ls, .int .i64, .ls, .bool]), (78, [.ls, .int .i64, .ls, .bool]), (80, [.int .i64, .ls, .ls, .int .i64, .str, .str, .ls]), (81, [.ls, .int .i64, .ls, .bool])]⟩
def hs105 : Hints := [⟨46, [false, true, true, false, true, true, false, true, true], [], [2, 4, 5, 7], [(1, ([false, false, true, false, true, true, false, true, true], ([], [])))]⟩]
noncomputable def mf105 : MFn := mfD Tryz.prog entsC hs105 false false 105
def hn105 : Hnt := ⟨[(99, (.bool, [])), (100, (.agg [.ls, .int .i64, .ls, .bool], [])), (166, (.tup [.agg [.ls, .int .i64, .ls, .bool], .agg [.int .i64, .ls, .ls, .int .i64, .str, .str, .ls], .int .i64], []))], [(0, [(1, ([.ptr 0 0, .ptr 1 0, .ptr 2 0, .ptr 3 0, .int .i64], [.box [.ls, .int .i64, .ls, .bool], .box [.ls, .int .i64, .ls, .bool], .box [.int .i64, .ls, .ls, .int .i64, .str, .str, .ls], .box [.int .i64, .ls, .ls, .int .i64, .str, .str, .ls]]))])], [(13, [.ls, .int .i64, .ls, .bool]), (22, [.ls, .int .i64, .ls, .bool]), (26, [.ls, .int .i64, .ls, .bool]), (33, [.ls, .int .i64, .ls, .bool]), (35, [.int .i64, .ls, .ls, .int .i64, .str, .str, .ls]), (36, [.int .i64, .ls, .ls, .int .i64, .str, .str, .ls]), (41, [.ls, .int .i64, .ls, .bool]), (44, [.ls, .int .i64, .ls, .bool]), (45, [.int .i64, .ls, .ls, .int .i64, .str, .str, .ls])]⟩
def hs55 : Hints := [⟨46, [false, true, true, false, true, true, false, true, true], [], [2, 4, 5, 7], [(1, ([false, false, true, false, true, true, false, true, true], ([], [])))]⟩]
noncomputable def mf55 : MFn := mfD Tryz.prog entsC hs55 false false 55
def hn55 : Hnt := ⟨[(99, (.bool, [])), (100, (.agg [.ls, .int .i64, .ls, .bool], [])), (105, (.tup [.agg [.ls, .int .i64, .ls, .bool], .agg [.int .i64, .ls, .ls, .int .i64, .str, .str, .ls], .int .i64], []))], [(0, [(1, ([.ptr 0 0, .ptr 1 0, .ptr 2 0, .ptr 3 0, .int .i64], [.box [.ls, .int .i64, .ls, .bool], .box [.ls, .int .i64, .ls, .bool], .box [.int .i64, .ls, .ls, .int .i64, .str, .str, .ls], .box [.int .i64, .ls, .ls, .int .i64, .str, .str, .ls]]))])], [(13, [.ls, .int .i64, .ls, .bool]), (22, [.ls, .int .i64, .ls, .bool]), (26, [.ls, .int .i64, .ls, .bool]), (33, [.ls, .int .i64, .ls, .bool]), (35, [.int .i64, .ls, .ls, .int .i64, .str, .str, .ls]), (36, [.int .i64, .ls, .ls, .int .i64, .str, .str, .ls]), (41, [.ls, .int .i64, .ls, .bool]), (44, [.ls, .int .i64, .ls, .bool]), (45, [.int .i64, .ls, .ls, .int .i64, .str, .str, .ls])]⟩
def hs52 : Hints := []
noncomputable def mf52 : MFn := mfD Tryz.prog entsC hs52 false false 52
def hn52 : Hnt := ⟨[(101, (.agg [.int .i64, .str, .int .i64, .int .i64], []))], [], [(9, [.ls, .int .i64, .ls, .bool]), (16, [.ls, .int .i64, .ls, .bool])]⟩
noncomputable def tabRa : List (Nat × MFn) := [(121, mf121), (103, mf103), (101, mf101), (99, mf99), (100, mf100), (102, mf102), (237, mf237), (21, mf21), (19, mf19), (20, mf20), (51, mf51), (221, mf221), (166, mf166), (105, mf105), (55, mf55), (52, mf52)]
theorem e121 (A : Ar) (D : Orc) (x0 : List (List AV)) (x1 : ByteArray) : fnK A D ownC hn121 .n 121 mf121 [AV.ls x0, sv x1] [] =
 askK D (Key.lp 121 0) [AV.ls x0, sv x1, iv 0] [] fun r o =>
 unTup r fun cs =>
 unCons cs fun c l =>
 br (axIs 0 c)
 (cInt IntKind.i64 l fun n l1 =>
 unNil l1 <|
 unEnd o <|
 some ((iv n, [])))
 (br (axIs 1 c)
 (unNil l <|
 unEnd o <|
 some ((iv (-1), [])))
 (none)) := by kernel_rfl

theorem e121_0 (A : Ar) (D : Orc) (t0 : List (List AV)) (t1 : ByteArray) (t5 : Int) : lpK A D ownC hn121 .n 121 0 (lpAt mf121 0).fst (lpAt mf121 0).snd [AV.ls t0, sv t1, iv t5] [] =
 br (A.lt t5 ↑(lenR t0))
 (unI t5 fun i =>
 nthK t0 i fun cs =>
 cStr cs fun s l =>
 unNil l <|
 br (A.seq s t1)
 (some ((AV.tup [bv true, iv t5], [])))
 (askK D (Key.lp 121 0) [AV.ls t0, sv t1, iv (A.add IntKind.i64 t5 1)] [] fun r o =>
 tailK 0 [] (AH.mk [] 0 none) [] r o))
 (some ((AV.tup [iv 0], []))) := by kernel_rfl

theorem e103 (A : Ar) (D : Orc) (x0 : List (List AV)) (x1 : ByteArray) : fnK A D ownC hn103 .n 103 mf103 [AV.ls x0, sv x1] [] =
 askK D (Key.fn 121) [AV.ls x0, sv x1] [] fun r o =>
 unInt IntKind.i64 r fun n =>
 unEnd o <|
 br (A.le 0 n)
 (some ((bv true, [])))
 (some ((bv false, []))) := by kernel_rfl

theorem e101 (A : Ar) (D : Orc) (x0_0 : List (List AV)) (x0_1 : Int) (x0_2 : List (List AV)) (x0_3 : Bool) : fnK A D ownC hn101 .n 101 mf101 [AV.agg [AV.ls x0_0, iv x0_1, AV.ls x0_2, bv x0_3]] [] =
 br (A.eq (↑(lenR x0_0)) 0)
 (some ((AV.agg [iv 5, sv (bstr []), iv 0, iv 0], [])))
 (br (A.lt x0_1 0)
 (nthK x0_0 0 fun cs =>
 cInt IntKind.i64 cs fun n l =>
 cStr l fun s l1 =>
 cInt IntKind.i64 l1 fun n1 l2 =>
 cInt IntKind.i64 l2 fun n2 l3 =>
 unNil l3 <|
 some ((AV.agg [iv n, sv s, iv n1, iv n2], [])))
 (br (A.le (↑(lenR x0_0)) x0_1)
 (unI (A.sub IntKind.i64 (↑(lenR x0_0)) 1) fun i =>
 nthK x0_0 i fun cs =>
 cInt IntKind.i64 cs fun n l =>
 cStr l fun s l1 =>
 cInt IntKind.i64 l1 fun n1 l2 =>
 cInt IntKind.i64 l2 fun n2 l3 =>
 unNil l3 <|
 some ((AV.agg [iv n, sv s, iv n1, iv n2], [])))
 (unI x0_1 fun i =>
 nthK x0_0 i fun cs =>
 cInt IntKind.i64 cs fun n l =>
 cStr l fun s l1 =>
 cInt IntKind.i64 l1 fun n1 l2 =>
 cInt IntKind.i64 l2 fun n2 l3 =>
 unNil l3 <|
 some ((AV.agg [iv n, sv s, iv n1, iv n2], []))))) := by kernel_rfl

theorem e99 (A : Ar) (D : Orc) (x0_0 : List (List AV)) (x0_1 : Int) (x0_2 : List (List AV)) (x0_3 : Bool) (x1 : ByteArray) : fnK A D ownC hn99 .n 99 mf99 [AV.agg [AV.ls x0_0, iv x0_1, AV.ls x0_2, bv x0_3], sv x1] [] =
 askK D (Key.fn 101) [AV.agg [AV.ls x0_0, iv x0_1, AV.ls x0_2, bv x0_3]] [] fun r o =>
 unAgg r fun cs =>
 cInt IntKind.i64 cs fun n l =>
 cStr l fun s l1 =>
 cInt IntKind.i64 l1 fun _ l2 =>
 cInt IntKind.i64 l2 fun _ l3 =>
 unNil l3 <|
 unEnd o <|
 br (A.seq s x1)
 (br (A.eq n 1)
 (some ((bv true, [])))
 (br (A.eq n 2)
 (some ((bv true, [])))
 (br (A.eq n 4)
 (some ((bv true, [])))
 (some ((bv false, []))))))
 (some ((bv false, []))) := by kernel_rfl

theorem e100 (A : Ar) (D : Orc) (x0_0 : List (List AV)) (x0_1 : Int) (x0_2 : List (List AV)) (x0_3 : Bool) : fnK A D ownC hn100 .n 100 mf100 [AV.agg [AV.ls x0_0, iv x0_1, AV.ls x0_2, bv x0_3]] [] =
 some ((AV.agg [AV.ls x0_0, iv (A.add IntKind.i64 x0_1 1), AV.ls x0_2, bv x0_3], [])) := by kernel_rfl

theorem e102 (A : Ar) (D : Orc) (x0_0 : List (List AV)) (x0_1 : Int) (x0_2 : List (List AV)) (x0_3 : Bool) : fnK A D ownC hn102 .n 102 mf102 [AV.agg [AV.ls x0_0, iv x0_1, AV.ls x0_2, bv x0_3]] [] =
 askK D (Key.fn 101) [AV.agg [AV.ls x0_0, iv x0_1, AV.ls x0_2, bv x0_3]] [] fun r o =>
 unAgg r fun cs =>
 cInt IntKind.i64 cs fun n l =>
 cStr l fun s l1 =>
 cInt IntKind.i64 l1 fun _ l2 =>
 cInt IntKind.i64 l2 fun _ l3 =>
 unNil l3 <|
 unEnd o <|
 br (A.eq n 1)
 (askK D (Key.fn 77) [sv s] [] fun r1 o1 =>
 unBool r1 fun b =>
 unEnd o1 <|
 br b
 (some ((bv true, [])))
 (some ((bv false, []))))
 (some ((bv false, []))) := by kernel_rfl

theorem e237 (A : Ar) (D : Orc) (x0 : Int) : fnK A D ownC hn237 .n 237 mf237 [iv x0] [] =
 br (A.eq x0 0)
 (some ((sv (bstr [61]), [])))
 (br (A.eq x0 1)
 (some ((sv (bstr [33, 61]), [])))
 (br (A.eq x0 2)
 (some ((sv (bstr [60]), [])))
 (br (A.eq x0 3)
 (some ((sv (bstr [60, 61]), [])))
 (br (A.eq x0 4)
 (some ((sv (bstr [62]), [])))
 (some ((sv (bstr [62, 61]), []))))))) := by kernel_rfl

theorem e21 (A : Ar) (D : Orc) (x0_0 : Int) (x0_1 : List (List AV)) (x0_2 : List (List AV)) (x0_3 : Int) (x0_4 : ByteArray) (x0_5 : ByteArray) (x0_6 : List (List AV)) (x1 : Int) : fnK A D ownC hn21 .n 21 mf21 [AV.agg [iv x0_0, AV.ls x0_1, AV.ls x0_2, iv x0_3, sv x0_4, sv x0_5, AV.ls x0_6], iv x1] [] =
 askK D (Key.lp 21 0) [iv x1, AV.ptr 0 0, iv 1, iv 0] [ABlk.mk [iv x0_0, AV.ls x0_1, AV.ls x0_2, iv x0_3, sv x0_4, sv x0_5, AV.ls x0_6] true false] fun r o =>
 unTup r fun cs =>
 unCons cs fun c l =>
 br (axIs 1 c)
 (cInt IntKind.i64 l fun n l1 =>
 unNil l1 <|
 unOut o fun c1 l2 =>
 unDel c1 <|
 unEnd l2 <|
 some ((iv n, [])))
 (none) := by kernel_rfl

theorem e19 (A : Ar) (D : Orc) (x0 : List (List AV)) (x1 : List (List AV)) : fnK A D ownC hn19 .n 19 mf19 [AV.ls x0, AV.ls x1] [] =
 br (A.eq ↑(lenR x0) ↑(lenR x1))
 (askK D (Key.lp 19 0) [AV.ls x0, AV.ls x1, iv 0] [] fun r o =>
 unTup r fun cs =>
 unCons cs fun c l =>
 br (axIs 0 c)
 (cBool l fun b l1 =>
 unNil l1 <|
 unEnd o <|
 some ((bv b, [])))
 (br (axIs 1 c)
 (unNil l <|
 unEnd o <|
 some ((bv true, [])))
 (none)))
 (some ((bv false, []))) := by kernel_rfl

theorem e19_0 (A : Ar) (D : Orc) (t0 : List (List AV)) (t1 : List (List AV)) (t5 : Int) : lpK A D ownC hn19 .n 19 0 (lpAt mf19 0).fst (lpAt mf19 0).snd [AV.ls t0, AV.ls t1, iv t5] [] =
 br (A.lt t5 ↑(lenR t0))
 (unI t5 fun i =>
 nthK t0 i fun cs =>
 cBool cs fun b l =>
 cStr l fun s l1 =>
 cStr l1 fun s1 l2 =>
 unNil l2 <|
 unI t5 fun i1 =>
 nthK t1 i1 fun cs1 =>
 cBool cs1 fun b1 l3 =>
 cStr l3 fun s2 l4 =>
 cStr l4 fun s3 l5 =>
 unNil l5 <|
 br (A.not (A.band (A.beq b b1) (A.band (A.seq s s2) (A.band (A.seq s1 s3) true))))
 (some ((AV.tup [bv true, bv false], [])))
 (askK D (Key.lp 19 0) [AV.ls t0, AV.ls t1, iv (A.add IntKind.i64 t5 1)] [] fun r o =>
 tailK 0 [] (AH.mk [] 0 none) [] r o))
 (some ((AV.tup [iv 0], []))) := by kernel_rfl

theorem e20 (A : Ar) (D : Orc) (x0_0 : Int) (x0_1 : List (List AV)) (x0_2 : List (List AV)) (x0_3 : Int) (x0_4 : ByteArray) (x0_5 : ByteArray) (x0_6 : List (List AV)) (x1_0 : Int) (x1_1 : List (List AV)) (x1_2 : List (List AV)) (x1_3 : Int) (x1_4 : ByteArray) (x1_5 : ByteArray) (x1_6 : List (List AV)) : fnK A D ownC hn20 .n 20 mf20 [AV.agg [iv x0_0, AV.ls x0_1, AV.ls x0_2, iv x0_3, sv x0_4, sv x0_5, AV.ls x0_6], AV.agg [iv x1_0, AV.ls x1_1, AV.ls x1_2, iv x1_3, sv x1_4, sv x1_5, AV.ls x1_6]] [] =
 br (A.eq x0_0 x1_0)
 (br (A.eq x0_3 x1_3)
 (br (A.seq x0_4 x1_4)
 (br (A.seq x0_5 x1_5)
 (askK D (Key.fn 19) [AV.ls x0_1, AV.ls x1_1] [] fun r o =>
 unBool r fun b =>
 unEnd o <|
 br b
 (askK D (Key.fn 19) [AV.ls x0_2, AV.ls x1_2] [] fun r1 o1 =>
 unBool r1 fun b1 =>
 unEnd o1 <|
 br b1
 (br (A.eq ↑(lenR x0_6) ↑(lenR x1_6))
 (askK D (Key.lp 20 0) [AV.ptr 0 0, AV.ptr 1 0, iv 0] [ABlk.mk [iv x0_0, AV.ls x0_1, AV.ls x0_2, iv x0_3, sv x0_4, sv x0_5, AV.ls x0_6] true false, ABlk.mk [iv x1_0, AV.ls x1_1, AV.ls x1_2, iv x1_3, sv x1_4, sv x1_5, AV.ls x1_6] true false] fun r2 o2 =>
 unTup r2 fun cs =>
 unCons cs fun c l =>
 br (axIs 0 c)
 (cBool l fun b2 l1 =>
 unNil l1 <|
 unOut o2 fun c1 l2 =>
 unDel c1 <|
 unOut l2 fun c2 l3 =>
 unDel c2 <|
 unEnd l3 <|
 some ((bv b2, [])))
 (br (axIs 1 c)
 (unNil l <|
 unOut o2 fun c1 l1 =>
 unDel c1 <|
 unOut l1 fun c2 l2 =>
 unDel c2 <|
 unEnd l2 <|
 some ((bv true, [])))
 (none)))
 (some ((bv false, []))))
 (some ((bv false, []))))
 (some ((bv false, []))))
 (some ((bv false, []))))
 (some ((bv false, []))))
 (some ((bv false, []))))
 (some ((bv false, []))) := by kernel_rfl

theorem e20_0 (A : Ar) (D : Orc) (b2_0 : Int) (b2_1 : List (List AV)) (b2_2 : List (List AV)) (b2_3 : Int) (b2_4 : ByteArray) (b2_5 : ByteArray) (b2_6 : List (List AV)) (b3_0 : Int) (b3_1 : List (List AV)) (b3_2 : List (List AV)) (b3_3 : Int) (b3_4 : ByteArray) (b3_5 : ByteArray) (b3_6 : List (List AV)) (t5 : Int) : lpK A D ownC hn20 .n 20 0 (lpAt mf20 0).fst (lpAt mf20 0).snd [AV.ptr 0 0, AV.ptr 1 0, iv t5] [{ cells := [iv b2_0, AV.ls b2_1, AV.ls b2_2, iv b2_3, sv b2_4, sv b2_5, AV.ls b2_6], st := true, ex := false }, { cells := [iv b3_0, AV.ls b3_1, AV.ls b3_2, iv b3_3, sv b3_4, sv b3_5, AV.ls b3_6], st := true, ex := false }] =
 br (A.lt t5 ↑(lenR b2_6))
 (unI t5 fun i =>
 nthK b2_6 i fun cs =>
 cInt IntKind.i64 cs fun n l =>
 cLs l fun xs l1 =>
 cLs l1 fun xs1 l2 =>
 cInt IntKind.i64 l2 fun n1 l3 =>
 cStr l3 fun s l4 =>
 cStr l4 fun s1 l5 =>
 cLs l5 fun xs2 l6 =>
 unNil l6 <|
 unI t5 fun i1 =>
 nthK b3_6 i1 fun cs1 =>
 cInt IntKind.i64 cs1 fun n2 l7 =>
 cLs l7 fun xs3 l8 =>
 cLs l8 fun xs4 l9 =>
 cInt IntKind.i64 l9 fun n3 l10 =>
 cStr l10 fun s2 l11 =>
 cStr l11 fun s3 l12 =>
 cLs l12 fun xs5 l13 =>
 unNil l13 <|
 askK D (Key.fn 20) [AV.agg [iv n, AV.ls xs, AV.ls xs1, iv n1, sv s, sv s1, AV.ls xs2], AV.agg [iv n2, AV.ls xs3, AV.ls xs4, iv n3, sv s2, sv s3, AV.ls xs5]] [] fun r o =>
 unBool r fun b =>
 unEnd o <|
 br b
 (askK D (Key.lp 20 0) [AV.ptr 0 0, AV.ptr 1 0, iv (A.add IntKind.i64 t5 1)] [ABlk.mk [iv b2_0, AV.ls b2_1, AV.ls b2_2, iv b2_3, sv b2_4, sv b2_5, AV.ls b2_6] true false, ABlk.mk [iv b3_0, AV.ls b3_1, AV.ls b3_2, iv b3_3, sv b3_4, sv b3_5, AV.ls b3_6] true false] fun r1 o1 =>
 tailK 2 [0, 1] (AH.mk [(1, ABlk.mk [iv b3_0, AV.ls b3_1, AV.ls b3_2, iv b3_3, sv b3_4, sv b3_5, AV.ls b3_6] true false), (0, ABlk.mk [iv b2_0, AV.ls b2_1, AV.ls b2_2, iv b2_3, sv b2_4, sv b2_5, AV.ls b2_6] true false)] 2 none) [0, 1] r1 o1)
 (some ((AV.tup [bv true, bv false], [BO.del, BO.del]))))
 (some ((AV.tup [iv 0], [BO.del, BO.del]))) := by kernel_rfl

theorem e51 (A : Ar) (D : Orc) (x0_0 : List (List AV)) (x0_1 : Int) (x0_2 : List (List AV)) (x0_3 : Bool) : fnK A D ownC hn51 .n 51 mf51 [AV.agg [AV.ls x0_0, iv x0_1, AV.ls x0_2, bv x0_3]] [] =
 askK D (Key.fn 99) [AV.agg [AV.ls x0_0, iv x0_1, AV.ls x0_2, bv x0_3], sv (bstr [45])] [] fun r o =>
 unBool r fun b =>
 unEnd o <|
 br b
 (askK D (Key.fn 100) [AV.agg [AV.ls x0_0, iv x0_1, AV.ls x0_2, bv x0_3]] [] fun r1 o1 =>
 unAgg r1 fun cs =>
 cLs cs fun xs l =>
 cInt IntKind.i64 l fun n l1 =>
 cLs l1 fun xs1 l2 =>
 cBool l2 fun b1 l3 =>
 unNil l3 <|
 unEnd o1 <|
 askK D (Key.lp 51 0) [AV.ptr 0 0, AV.ptr 1 0, AV.sl 2 0 0 3, bv true] [ABlk.mk [AV.ls xs, iv n, AV.ls xs1, bv b1] true false, ABlk.mk [AV.ls [], iv 0, AV.ls [], bv false] true false, ABlk.mk [] true true] fun r2 o2 =>
 unTup r2 fun cs1 =>
 unCons cs1 fun c l4 =>
 br (axIs 0 c)
 (unCons l4 fun c1 l5 =>
 unPtr 1 0 c1 <|
 cLs l5 fun xs2 l6 =>
 cInt IntKind.i64 l6 fun n1 l7 =>
 unNil l7 <|
 unOut o2 fun c2 l8 =>
 unDel c2 <|
 unOut l8 fun c3 l9 =>
 unSet true false c3 fun cs2 =>
 cLs cs2 fun xs3 l10 =>
 cInt IntKind.i64 l10 fun n2 l11 =>
 cLs l11 fun xs4 l12 =>
 cBool l12 fun b2 l13 =>
 unNil l13 <|
 unOut l9 fun c4 l14 =>
 unDel c4 <|
 unEnd l14 <|
 some ((AV.tup [AV.agg [AV.ls xs3, iv n2, AV.ls xs4, bv b2], AV.ls xs2, iv n1], [])))
 (none))
 (askK D (Key.lp 51 0) [AV.ptr 0 0, AV.ptr 1 0, AV.sl 2 0 0 3, bv false] [ABlk.mk [AV.ls x0_0, iv x0_1, AV.ls x0_2, bv x0_3] true false, ABlk.mk [AV.ls [], iv 0, AV.ls [], bv false] true false, ABlk.mk [] true true] fun r1 o1 =>
 unTup r1 fun cs =>
 unCons cs fun c l =>
 br (axIs 0 c)
 (unCons l fun c1 l1 =>
 unPtr 1 0 c1 <|
 cLs l1 fun xs l2 =>
 cInt IntKind.i64 l2 fun n l3 =>
 unNil l3 <|
 unOut o1 fun c2 l4 =>
 unDel c2 <|
 unOut l4 fun c3 l5 =>
 unSet true false c3 fun cs1 =>
 cLs cs1 fun xs1 l6 =>
 cInt IntKind.i64 l6 fun n1 l7 =>
 cLs l7 fun xs2 l8 =>
 cBool l8 fun b1 l9 =>
 unNil l9 <|
 unOut l5 fun c4 l10 =>
 unDel c4 <|
 unEnd l10 <|
 some ((AV.tup [AV.agg [AV.ls xs1, iv n1, AV.ls xs2, bv b1], AV.ls xs, iv n], [])))
 (none)) := by kernel_rfl

theorem e51_0 (A : Ar) (D : Orc) (b1_0 : List (List AV)) (b1_1 : Int) (b1_2 : List (List AV)) (b1_3 : Bool) (b2_0 : List (List AV)) (b2_1 : Int) (b2_2 : List (List AV)) (b2_3 : Bool) (n5 : Nat) (c5 : List AV) (t6 : Bool) : lpK A D ownC hn51 (.b (.b .n (.b .n (.b .n (.b .n (.b .n (.b .n (.b .n (.b .n (.b .n (.t (.b (.b (.b .n (.b .n (.b (.b (.b (.t (.b .n (.b .n (.b (.b .n (.b .n (.b (.t (.t (.t (.t (.b (.t (.b .n (.t .n))) (.t (.b (.t .n) .n))))))) (.f (.f (.f (.f (.f (.f .n))))))))) .n)))) .n) .n) .n))) (.b (.b (.b (.b .n (.b (.b (.f (.b (.b (.b (.b .n (.b .n (.b (.t (.t (.t (.t (.b (.t (.b .n (.t .n))) (.t (.b (.t .n) .n))))))) (.f (.f (.f (.f (.f (.f .n))))))))) .n) .n) .n)) .n) .n)) .n) .n) .n)) .n))))))))))) (.b (.b (.b (.b (.b (.b .n (.b (.b .n (.b .n (.b .n (.b .n (.f (.b .n (.b (.b .n (.b .n (.b (.b (.b (.t (.b .n (.b .n (.b (.b .n (.b .n (.b (.t (.t (.t (.t (.b (.t (.b .n (.t .n))) (.t (.b (.t .n) .n))))))) (.f (.f (.f (.f (.f (.f .n))))))))) .n)))) .n) .n) .n))) (.b (.b (.b (.b .n (.b (.b (.f (.b (.b (.b (.b .n (.b .n (.b (.t (.t (.t (.t (.b (.t (.b .n (.t .n))) (.t (.b (.t .n) .n))))))) (.f (.f (.f (.f (.f (.f .n))))))))) .n) .n) .n)) .n) .n)) .n) .n) .n)))))))) .n)) .n) .n) .n) .n) .n)) 51 0 (lpAt mf51 0).fst (lpAt mf51 0).snd [AV.ptr 0 0, AV.ptr 1 0, AV.sl 2 0 n5 3, bv t6] [{ cells := [AV.ls b1_0, iv b1_1, AV.ls b1_2, bv b1_3], st := true, ex := false }, { cells := [AV.ls b2_0, iv b2_1, AV.ls b2_2, bv b2_3], st := true, ex := false }, { cells := c5, st := true, ex := true }] =
 askK D (Key.fn 101) [AV.agg [AV.ls b1_0, iv b1_1, AV.ls b1_2, bv b1_3]] [] fun r o =>
 unAgg r fun cs =>
 cInt IntKind.i64 cs fun n l =>
 cStr l fun s l1 =>
 cInt IntKind.i64 l1 fun n1 l2 =>
 cInt IntKind.i64 l2 fun n2 l3 =>
 unNil l3 <|
 unEnd o <|
 br (A.eq n 3)
 (br (A.eq (↑n5) 64)
 (some ((AV.tup [bv true, AV.ptr 1 0, AV.ls [], iv 3], [BO.del, BO.set (ABlk.mk [AV.ls b1_0, iv b1_1, AV.ls b1_2, bv b1_3] true false), BO.del])))
 (br (A.eq n 3) (askK D (Key.fn 100) [AV.agg [AV.ls b1_0, iv b1_1, AV.ls b1_2, bv b1_3]] [] fun r1 o1 =>
 unAgg r1 fun cs1 =>
 cLs cs1 fun xs l4 =>
 cInt IntKind.i64 l4 fun n3 l5 =>
 cLs l5 fun xs1 l6 =>
 cBool l6 fun b l7 =>
 unNil l7 <|
 unEnd o1 <|
 br (A.seq s (bstr []))
 (br (A.seq s (bstr [])) (askK D (Key.fn 102) [AV.agg [AV.ls xs, iv n3, AV.ls xs1, bv b]] [] fun r2 o2 =>
 unBool r2 fun b1 =>
 unEnd o2 <|
 br b1
 (askK D (Key.fn 101) [AV.agg [AV.ls xs, iv n3, AV.ls xs1, bv b]] [] fun r3 o3 =>
 unAgg r3 fun cs2 =>
 cInt IntKind.i64 cs2 fun _ l8 =>
 cStr l8 fun s1 l9 =>
 cInt IntKind.i64 l9 fun _ l10 =>
 cInt IntKind.i64 l10 fun _ l11 =>
 unNil l11 <|
 unEnd o3 <|
 br b
 (br b (br b (br b (br b (askK D (Key.fn 103) [AV.ls xs1, sv s1] [] fun r4 o4 =>
 unBool r4 fun b2 =>
 unEnd o4 <|
 br b2
 (br b (br b (askK D (Key.fn 100) [AV.agg [AV.ls xs, iv n3, AV.ls xs1, bv b]] [] fun r5 o5 =>
 unAgg r5 fun cs3 =>
 cLs cs3 fun xs2 l12 =>
 cInt IntKind.i64 l12 fun n8 l13 =>
 cLs l13 fun xs3 l14 =>
 cBool l14 fun b3 l15 =>
 unNil l15 <|
 unEnd o5 <|
 br (fitsB (n5 + 1) 40) (br ((0 + n5 * 3).ble c5.length) (askK D (Key.fn 99) [AV.agg [AV.ls xs2, iv n8, AV.ls xs3, bv b3], sv (bstr [45])] [] fun r6 o6 =>
 unBool r6 fun b4 =>
 unEnd o6 <|
 br b4
 (askK D (Key.fn 100) [AV.agg [AV.ls xs2, iv n8, AV.ls xs3, bv b3]] [] fun r7 o7 =>
 unAgg r7 fun cs4 =>
 cLs cs4 fun xs4 l16 =>
 cInt IntKind.i64 l16 fun n9 l17 =>
 cLs l17 fun xs5 l18 =>
 cBool l18 fun b5 l19 =>
 unNil l19 <|
 unEnd o7 <|
 askK D (Key.lp 51 0) [AV.ptr 0 0, AV.ptr 1 0, AV.sl 2 0 (n5 + 1) 3, bv true] [ABlk.mk [AV.ls xs4, iv n9, AV.ls xs5, bv b5] true false, ABlk.mk [AV.ls b2_0, iv b2_1, AV.ls b2_2, bv b2_3] true false, ABlk.mk (List.drop 0 (List.take (0 + n5 * 3) c5) ++ [bv t6, sv s, sv s1]) true true] fun r8 o8 =>
 tailK 3 [0, 1, 6] (AH.mk [(1, ABlk.mk [AV.ls b2_0, iv b2_1, AV.ls b2_2, bv b2_3] true false), (0, ABlk.mk [AV.ls xs4, iv n9, AV.ls xs5, bv b5] true false), (6, ABlk.mk (List.drop 0 (List.take (0 + n5 * 3) c5) ++ [bv t6, sv s, sv s1]) true true), (5, ABlk.mk [bv t6, sv s, sv s1] true true), (4, ABlk.mk [bv t6, sv s, sv s1] true false), (3, ABlk.mk [iv n, sv s, iv n1, iv n2] true false)] 7 none) [2, 0, 1] r8 o8)
 (askK D (Key.fn 99) [AV.agg [AV.ls xs2, iv n8, AV.ls xs3, bv b3], sv (bstr [43])] [] fun r7 o7 =>
 unBool r7 fun b5 =>
 unEnd o7 <|
 br b5
 (askK D (Key.fn 100) [AV.agg [AV.ls xs2, iv n8, AV.ls xs3, bv b3]] [] fun r8 o8 =>
 unAgg r8 fun cs4 =>
 cLs cs4 fun xs4 l16 =>
 cInt IntKind.i64 l16 fun n9 l17 =>
 cLs l17 fun xs5 l18 =>
 cBool l18 fun b6 l19 =>
 unNil l19 <|
 unEnd o8 <|
 askK D (Key.lp 51 0) [AV.ptr 0 0, AV.ptr 1 0, AV.sl 2 0 (n5 + 1) 3, bv false] [ABlk.mk [AV.ls xs4, iv n9, AV.ls xs5, bv b6] true false, ABlk.mk [AV.ls b2_0, iv b2_1, AV.ls b2_2, bv b2_3] true false, ABlk.mk (List.drop 0 (List.take (0 + n5 * 3) c5) ++ [bv t6, sv s, sv s1]) true true] fun r9 o9 =>
 tailK 3 [0, 1, 6] (AH.mk [(1, ABlk.mk [AV.ls b2_0, iv b2_1, AV.ls b2_2, bv b2_3] true false), (0, ABlk.mk [AV.ls xs4, iv n9, AV.ls xs5, bv b6] true false), (6, ABlk.mk (List.drop 0 (List.take (0 + n5 * 3) c5) ++ [bv t6, sv s, sv s1]) true true), (5, ABlk.mk [bv t6, sv s, sv s1] true true), (4, ABlk.mk [bv t6, sv s, sv s1] true false), (3, ABlk.mk [iv n, sv s, iv n1, iv n2] true false)] 7 none) [2, 0, 1] r9 o9)
 (br ((0 + (n5 + 1) * 3).ble (List.drop 0 (List.take (0 + n5 * 3) c5) ++ [bv t6, sv s, sv s1]).length) (some ((AV.tup [bv true, AV.ptr 1 0, AV.ls (chunk (n5 + 1) 3 (List.take ((n5 + 1) * 3) (List.drop 0 (List.drop 0 (List.take (0 + n5 * 3) c5) ++ [bv t6, sv s, sv s1])))), iv 0], [BO.del, BO.set (ABlk.mk [AV.ls xs2, iv n8, AV.ls xs3, bv b3] true false), BO.del]))) none))) none) none) none) none)
 (br b (br b (some ((AV.tup [bv true, AV.ptr 1 0, AV.ls [], iv 110], [BO.del, BO.set (ABlk.mk [AV.ls xs, iv n3, AV.ls xs1, bv b] true false), BO.del]))) none) none)) none) none) none) none)
 (br b none (br b none (br b none (br b none (br b none (br b none (askK D (Key.fn 100) [AV.agg [AV.ls xs, iv n3, AV.ls xs1, bv b]] [] fun r4 o4 =>
 unAgg r4 fun cs3 =>
 cLs cs3 fun xs2 l12 =>
 cInt IntKind.i64 l12 fun n8 l13 =>
 cLs l13 fun xs3 l14 =>
 cBool l14 fun b2 l15 =>
 unNil l15 <|
 unEnd o4 <|
 br (fitsB (n5 + 1) 40) (br ((0 + n5 * 3).ble c5.length) (askK D (Key.fn 99) [AV.agg [AV.ls xs2, iv n8, AV.ls xs3, bv b2], sv (bstr [45])] [] fun r5 o5 =>
 unBool r5 fun b3 =>
 unEnd o5 <|
 br b3
 (askK D (Key.fn 100) [AV.agg [AV.ls xs2, iv n8, AV.ls xs3, bv b2]] [] fun r6 o6 =>
 unAgg r6 fun cs4 =>
 cLs cs4 fun xs4 l16 =>
 cInt IntKind.i64 l16 fun n9 l17 =>
 cLs l17 fun xs5 l18 =>
 cBool l18 fun b4 l19 =>
 unNil l19 <|
 unEnd o6 <|
 askK D (Key.lp 51 0) [AV.ptr 0 0, AV.ptr 1 0, AV.sl 2 0 (n5 + 1) 3, bv true] [ABlk.mk [AV.ls xs4, iv n9, AV.ls xs5, bv b4] true false, ABlk.mk [AV.ls b2_0, iv b2_1, AV.ls b2_2, bv b2_3] true false, ABlk.mk (List.drop 0 (List.take (0 + n5 * 3) c5) ++ [bv t6, sv s, sv s1]) true true] fun r7 o7 =>
 tailK 3 [0, 1, 6] (AH.mk [(1, ABlk.mk [AV.ls b2_0, iv b2_1, AV.ls b2_2, bv b2_3] true false), (0, ABlk.mk [AV.ls xs4, iv n9, AV.ls xs5, bv b4] true false), (6, ABlk.mk (List.drop 0 (List.take (0 + n5 * 3) c5) ++ [bv t6, sv s, sv s1]) true true), (5, ABlk.mk [bv t6, sv s, sv s1] true true), (4, ABlk.mk [bv t6, sv s, sv s1] true false), (3, ABlk.mk [iv n, sv s, iv n1, iv n2] true false)] 7 none) [2, 0, 1] r7 o7)
 (askK D (Key.fn 99) [AV.agg [AV.ls xs2, iv n8, AV.ls xs3, bv b2], sv (bstr [43])] [] fun r6 o6 =>
 unBool r6 fun b4 =>
 unEnd o6 <|
 br b4
 (askK D (Key.fn 100) [AV.agg [AV.ls xs2, iv n8, AV.ls xs3, bv b2]] [] fun r7 o7 =>
 unAgg r7 fun cs4 =>
 cLs cs4 fun xs4 l16 =>
 cInt IntKind.i64 l16 fun n9 l17 =>
 cLs l17 fun xs5 l18 =>
 cBool l18 fun b5 l19 =>
 unNil l19 <|
 unEnd o7 <|
 askK D (Key.lp 51 0) [AV.ptr 0 0, AV.ptr 1 0, AV.sl 2 0 (n5 + 1) 3, bv false] [ABlk.mk [AV.ls xs4, iv n9, AV.ls xs5, bv b5] true false, ABlk.mk [AV.ls b2_0, iv b2_1, AV.ls b2_2, bv b2_3] true false, ABlk.mk (List.drop 0 (List.take (0 + n5 * 3) c5) ++ [bv t6, sv s, sv s1]) true true] fun r8 o8 =>
 tailK 3 [0, 1, 6] (AH.mk [(1, ABlk.mk [AV.ls b2_0, iv b2_1, AV.ls b2_2, bv b2_3] true false), (0, ABlk.mk [AV.ls xs4, iv n9, AV.ls xs5, bv b5] true false), (6, ABlk.mk (List.drop 0 (List.take (0 + n5 * 3) c5) ++ [bv t6, sv s, sv s1]) true true), (5, ABlk.mk [bv t6, sv s, sv s1] true true), (4, ABlk.mk [bv t6, sv s, sv s1] true false), (3, ABlk.mk [iv n, sv s, iv n1, iv n2] true false)] 7 none) [2, 0, 1] r8 o8)
 (br ((0 + (n5 + 1) * 3).ble (List.drop 0 (List.take (0 + n5 * 3) c5) ++ [bv t6, sv s, sv s1]).length) (some ((AV.tup [bv true, AV.ptr 1 0, AV.ls (chunk (n5 + 1) 3 (List.take ((n5 + 1) * 3) (List.drop 0 (List.drop 0 (List.take (0 + n5 * 3) c5) ++ [bv t6, sv s, sv s1])))), iv 0], [BO.del, BO.set (ABlk.mk [AV.ls xs2, iv n8, AV.ls xs3, bv b2] true false), BO.del]))) none))) none) none))))))))
 (some ((AV.tup [bv true, AV.ptr 1 0, AV.ls [], iv 101], [BO.del, BO.set (ABlk.mk [AV.ls xs, iv n3, AV.ls xs1, bv b] true false), BO.del])))) none)
 (askK D (Key.fn 99) [AV.agg [AV.ls xs, iv n3, AV.ls xs1, bv b], sv (bstr [42])] [] fun r2 o2 =>
 unBool r2 fun b1 =>
 unEnd o2 <|
 br b1
 (br (A.seq s (bstr [])) none (askK D (Key.fn 100) [AV.agg [AV.ls xs, iv n3, AV.ls xs1, bv b]] [] fun r3 o3 =>
 unAgg r3 fun cs2 =>
 cLs cs2 fun xs2 l8 =>
 cInt IntKind.i64 l8 fun n4 l9 =>
 cLs l9 fun xs3 l10 =>
 cBool l10 fun b2 l11 =>
 unNil l11 <|
 unEnd o3 <|
 askK D (Key.fn 102) [AV.agg [AV.ls xs2, iv n4, AV.ls xs3, bv b2]] [] fun r4 o4 =>
 unBool r4 fun b3 =>
 unEnd o4 <|
 br b3
 (askK D (Key.fn 101) [AV.agg [AV.ls xs2, iv n4, AV.ls xs3, bv b2]] [] fun r5 o5 =>
 unAgg r5 fun cs3 =>
 cInt IntKind.i64 cs3 fun _ l12 =>
 cStr l12 fun s1 l13 =>
 cInt IntKind.i64 l13 fun _ l14 =>
 cInt IntKind.i64 l14 fun _ l15 =>
 unNil l15 <|
 unEnd o5 <|
 br b2
 (br b2 (br b2 (br b2 (br b2 (askK D (Key.fn 103) [AV.ls xs3, sv s1] [] fun r6 o6 =>
 unBool r6 fun b4 =>
 unEnd o6 <|
 br b4
 (br b2 (br b2 (askK D (Key.fn 100) [AV.agg [AV.ls xs2, iv n4, AV.ls xs3, bv b2]] [] fun r7 o7 =>
 unAgg r7 fun cs4 =>
 cLs cs4 fun xs4 l16 =>
 cInt IntKind.i64 l16 fun n9 l17 =>
 cLs l17 fun xs5 l18 =>
 cBool l18 fun b5 l19 =>
 unNil l19 <|
 unEnd o7 <|
 br (fitsB (n5 + 1) 40) (br ((0 + n5 * 3).ble c5.length) (askK D (Key.fn 99) [AV.agg [AV.ls xs4, iv n9, AV.ls xs5, bv b5], sv (bstr [45])] [] fun r8 o8 =>
 unBool r8 fun b6 =>
 unEnd o8 <|
 br b6
 (askK D (Key.fn 100) [AV.agg [AV.ls xs4, iv n9, AV.ls xs5, bv b5]] [] fun r9 o9 =>
 unAgg r9 fun cs5 =>
 cLs cs5 fun xs6 l20 =>
 cInt IntKind.i64 l20 fun n10 l21 =>
 cLs l21 fun xs7 l22 =>
 cBool l22 fun b7 l23 =>
 unNil l23 <|
 unEnd o9 <|
 askK D (Key.lp 51 0) [AV.ptr 0 0, AV.ptr 1 0, AV.sl 2 0 (n5 + 1) 3, bv true] [ABlk.mk [AV.ls xs6, iv n10, AV.ls xs7, bv b7] true false, ABlk.mk [AV.ls b2_0, iv b2_1, AV.ls b2_2, bv b2_3] true false, ABlk.mk (List.drop 0 (List.take (0 + n5 * 3) c5) ++ [bv t6, sv s, sv s1]) true true] fun r10 o10 =>
 tailK 3 [0, 1, 6] (AH.mk [(1, ABlk.mk [AV.ls b2_0, iv b2_1, AV.ls b2_2, bv b2_3] true false), (0, ABlk.mk [AV.ls xs6, iv n10, AV.ls xs7, bv b7] true false), (6, ABlk.mk (List.drop 0 (List.take (0 + n5 * 3) c5) ++ [bv t6, sv s, sv s1]) true true), (5, ABlk.mk [bv t6, sv s, sv s1] true true), (4, ABlk.mk [bv t6, sv s, sv s1] true false), (3, ABlk.mk [iv n, sv s, iv n1, iv n2] true false)] 7 none) [2, 0, 1] r10 o10)
 (askK D (Key.fn 99) [AV.agg [AV.ls xs4, iv n9, AV.ls xs5, bv b5], sv (bstr [43])] [] fun r9 o9 =>
 unBool r9 fun b7 =>
 unEnd o9 <|
 br b7
 (askK D (Key.fn 100) [AV.agg [AV.ls xs4, iv n9, AV.ls xs5, bv b5]] [] fun r10 o10 =>
 unAgg r10 fun cs5 =>
 cLs cs5 fun xs6 l20 =>
 cInt IntKind.i64 l20 fun n10 l21 =>
 cLs l21 fun xs7 l22 =>
 cBool l22 fun b8 l23 =>
 unNil l23 <|
 unEnd o10 <|
 askK D (Key.lp 51 0) [AV.ptr 0 0, AV.ptr 1 0, AV.sl 2 0 (n5 + 1) 3, bv false] [ABlk.mk [AV.ls xs6, iv n10, AV.ls xs7, bv b8] true false, ABlk.mk [AV.ls b2_0, iv b2_1, AV.ls b2_2, bv b2_3] true false, ABlk.mk (List.drop 0 (List.take (0 + n5 * 3) c5) ++ [bv t6, sv s, sv s1]) true true] fun r11 o11 =>
 tailK 3 [0, 1, 6] (AH.mk [(1, ABlk.mk [AV.ls b2_0, iv b2_1, AV.ls b2_2, bv b2_3] true false), (0, ABlk.mk [AV.ls xs6, iv n10, AV.ls xs7, bv b8] true false), (6, ABlk.mk (List.drop 0 (List.take (0 + n5 * 3) c5) ++ [bv t6, sv s, sv s1]) true true), (5, ABlk.mk [bv t6, sv s, sv s1] true true), (4, ABlk.mk [bv t6, sv s, sv s1] true false), (3, ABlk.mk [iv n, sv s, iv n1, iv n2] true false)] 7 none) [2, 0, 1] r11 o11)
 (br ((0 + (n5 + 1) * 3).ble (List.drop 0 (List.take (0 + n5 * 3) c5) ++ [bv t6, sv s, sv s1]).length) (some ((AV.tup [bv true, AV.ptr 1 0, AV.ls (chunk (n5 + 1) 3 (List.take ((n5 + 1) * 3) (List.drop 0 (List.drop 0 (List.take (0 + n5 * 3) c5) ++ [bv t6, sv s, sv s1])))), iv 0], [BO.del, BO.set (ABlk.mk [AV.ls xs4, iv n9, AV.ls xs5, bv b5] true false), BO.del]))) none))) none) none) none) none)
 (br b2 (br b2 (some ((AV.tup [bv true, AV.ptr 1 0, AV.ls [], iv 110], [BO.del, BO.set (ABlk.mk [AV.ls xs2, iv n4, AV.ls xs3, bv b2] true false), BO.del]))) none) none)) none) none) none) none)
 (br b2 none (br b2 none (br b2 none (br b2 none (br b2 none (br b2 none (askK D (Key.fn 100) [AV.agg [AV.ls xs2, iv n4, AV.ls xs3, bv b2]] [] fun r6 o6 =>
 unAgg r6 fun cs4 =>
 cLs cs4 fun xs4 l16 =>
 cInt IntKind.i64 l16 fun n9 l17 =>
 cLs l17 fun xs5 l18 =>
 cBool l18 fun b4 l19 =>
 unNil l19 <|
 unEnd o6 <|
 br (fitsB (n5 + 1) 40) (br ((0 + n5 * 3).ble c5.length) (askK D (Key.fn 99) [AV.agg [AV.ls xs4, iv n9, AV.ls xs5, bv b4], sv (bstr [45])] [] fun r7 o7 =>
 unBool r7 fun b5 =>
 unEnd o7 <|
 br b5
 (askK D (Key.fn 100) [AV.agg [AV.ls xs4, iv n9, AV.ls xs5, bv b4]] [] fun r8 o8 =>
 unAgg r8 fun cs5 =>
 cLs cs5 fun xs6 l20 =>
 cInt IntKind.i64 l20 fun n10 l21 =>
 cLs l21 fun xs7 l22 =>
 cBool l22 fun b6 l23 =>
 unNil l23 <|
 unEnd o8 <|
 askK D (Key.lp 51 0) [AV.ptr 0 0, AV.ptr 1 0, AV.sl 2 0 (n5 + 1) 3, bv true] [ABlk.mk [AV.ls xs6, iv n10, AV.ls xs7, bv b6] true false, ABlk.mk [AV.ls b2_0, iv b2_1, AV.ls b2_2, bv b2_3] true false, ABlk.mk (List.drop 0 (List.take (0 + n5 * 3) c5) ++ [bv t6, sv s, sv s1]) true true] fun r9 o9 =>
 tailK 3 [0, 1, 6] (AH.mk [(1, ABlk.mk [AV.ls b2_0, iv b2_1, AV.ls b2_2, bv b2_3] true false), (0, ABlk.mk [AV.ls xs6, iv n10, AV.ls xs7, bv b6] true false), (6, ABlk.mk (List.drop 0 (List.take (0 + n5 * 3) c5) ++ [bv t6, sv s, sv s1]) true true), (5, ABlk.mk [bv t6, sv s, sv s1] true true), (4, ABlk.mk [bv t6, sv s, sv s1] true false), (3, ABlk.mk [iv n, sv s, iv n1, iv n2] true false)] 7 none) [2, 0, 1] r9 o9)
 (askK D (Key.fn 99) [AV.agg [AV.ls xs4, iv n9, AV.ls xs5, bv b4], sv (bstr [43])] [] fun r8 o8 =>
 unBool r8 fun b6 =>
 unEnd o8 <|
 br b6
 (askK D (Key.fn 100) [AV.agg [AV.ls xs4, iv n9, AV.ls xs5, bv b4]] [] fun r9 o9 =>
 unAgg r9 fun cs5 =>
 cLs cs5 fun xs6 l20 =>
 cInt IntKind.i64 l20 fun n10 l21 =>
 cLs l21 fun xs7 l22 =>
 cBool l22 fun b7 l23 =>
 unNil l23 <|
 unEnd o9 <|
 askK D (Key.lp 51 0) [AV.ptr 0 0, AV.ptr 1 0, AV.sl 2 0 (n5 + 1) 3, bv false] [ABlk.mk [AV.ls xs6, iv n10, AV.ls xs7, bv b7] true false, ABlk.mk [AV.ls b2_0, iv b2_1, AV.ls b2_2, bv b2_3] true false, ABlk.mk (List.drop 0 (List.take (0 + n5 * 3) c5) ++ [bv t6, sv s, sv s1]) true true] fun r10 o10 =>
 tailK 3 [0, 1, 6] (AH.mk [(1, ABlk.mk [AV.ls b2_0, iv b2_1, AV.ls b2_2, bv b2_3] true false), (0, ABlk.mk [AV.ls xs6, iv n10, AV.ls xs7, bv b7] true false), (6, ABlk.mk (List.drop 0 (List.take (0 + n5 * 3) c5) ++ [bv t6, sv s, sv s1]) true true), (5, ABlk.mk [bv t6, sv s, sv s1] true true), (4, ABlk.mk [bv t6, sv s, sv s1] true false), (3, ABlk.mk [iv n, sv s, iv n1, iv n2] true false)] 7 none) [2, 0, 1] r10 o10)
 (br ((0 + (n5 + 1) * 3).ble (List.drop 0 (List.take (0 + n5 * 3) c5) ++ [bv t6, sv s, sv s1]).length) (some ((AV.tup [bv true, AV.ptr 1 0, AV.ls (chunk (n5 + 1) 3 (List.take ((n5 + 1) * 3) (List.drop 0 (List.drop 0 (List.take (0 + n5 * 3) c5) ++ [bv t6, sv s, sv s1])))), iv 0], [BO.del, BO.set (ABlk.mk [AV.ls xs4, iv n9, AV.ls xs5, bv b4] true false), BO.del]))) none))) none) none))))))))
 (some ((AV.tup [bv true, AV.ptr 1 0, AV.ls [], iv 101], [BO.del, BO.set (ABlk.mk [AV.ls xs2, iv n4, AV.ls xs3, bv b2] true false), BO.del])))))
 (br (fitsB (n5 + 1) 40) (br ((0 + n5 * 3).ble c5.length) (askK D (Key.fn 99) [AV.agg [AV.ls xs, iv n3, AV.ls xs1, bv b], sv (bstr [45])] [] fun r3 o3 =>
 unBool r3 fun b2 =>
 unEnd o3 <|
 br b2
 (askK D (Key.fn 100) [AV.agg [AV.ls xs, iv n3, AV.ls xs1, bv b]] [] fun r4 o4 =>
 unAgg r4 fun cs2 =>
 cLs cs2 fun xs2 l8 =>
 cInt IntKind.i64 l8 fun n4 l9 =>
 cLs l9 fun xs3 l10 =>
 cBool l10 fun b3 l11 =>
 unNil l11 <|
 unEnd o4 <|
 askK D (Key.lp 51 0) [AV.ptr 0 0, AV.ptr 1 0, AV.sl 2 0 (n5 + 1) 3, bv true] [ABlk.mk [AV.ls xs2, iv n4, AV.ls xs3, bv b3] true false, ABlk.mk [AV.ls b2_0, iv b2_1, AV.ls b2_2, bv b2_3] true false, ABlk.mk (List.drop 0 (List.take (0 + n5 * 3) c5) ++ [bv t6, sv s, sv (bstr [])]) true true] fun r5 o5 =>
 tailK 3 [0, 1, 6] (AH.mk [(1, ABlk.mk [AV.ls b2_0, iv b2_1, AV.ls b2_2, bv b2_3] true false), (0, ABlk.mk [AV.ls xs2, iv n4, AV.ls xs3, bv b3] true false), (6, ABlk.mk (List.drop 0 (List.take (0 + n5 * 3) c5) ++ [bv t6, sv s, sv (bstr [])]) true true), (5, ABlk.mk [bv t6, sv s, sv (bstr [])] true true), (4, ABlk.mk [bv t6, sv s, sv (bstr [])] true false), (3, ABlk.mk [iv n, sv s, iv n1, iv n2] true false)] 7 none) [2, 0, 1] r5 o5)
 (askK D (Key.fn 99) [AV.agg [AV.ls xs, iv n3, AV.ls xs1, bv b], sv (bstr [43])] [] fun r4 o4 =>
 unBool r4 fun b3 =>
 unEnd o4 <|
 br b3
 (askK D (Key.fn 100) [AV.agg [AV.ls xs, iv n3, AV.ls xs1, bv b]] [] fun r5 o5 =>
 unAgg r5 fun cs2 =>
 cLs cs2 fun xs2 l8 =>
 cInt IntKind.i64 l8 fun n4 l9 =>
 cLs l9 fun xs3 l10 =>
 cBool l10 fun b4 l11 =>
 unNil l11 <|
 unEnd o5 <|
 askK D (Key.lp 51 0) [AV.ptr 0 0, AV.ptr 1 0, AV.sl 2 0 (n5 + 1) 3, bv false] [ABlk.mk [AV.ls xs2, iv n4, AV.ls xs3, bv b4] true false, ABlk.mk [AV.ls b2_0, iv b2_1, AV.ls b2_2, bv b2_3] true false, ABlk.mk (List.drop 0 (List.take (0 + n5 * 3) c5) ++ [bv t6, sv s, sv (bstr [])]) true true] fun r6 o6 =>
 tailK 3 [0, 1, 6] (AH.mk [(1, ABlk.mk [AV.ls b2_0, iv b2_1, AV.ls b2_2, bv b2_3] true false), (0, ABlk.mk [AV.ls xs2, iv n4, AV.ls xs3, bv b4] true false), (6, ABlk.mk (List.drop 0 (List.take (0 + n5 * 3) c5) ++ [bv t6, sv s, sv (bstr [])]) true true), (5, ABlk.mk [bv t6, sv s, sv (bstr [])] true true), (4, ABlk.mk [bv t6, sv s, sv (bstr [])] true false), (3, ABlk.mk [iv n, sv s, iv n1, iv n2] true false)] 7 none) [2, 0, 1] r6 o6)
 (br ((0 + (n5 + 1) * 3).ble (List.drop 0 (List.take (0 + n5 * 3) c5) ++ [bv t6, sv s, sv (bstr [])]).length) (some ((AV.tup [bv true, AV.ptr 1 0, AV.ls (chunk (n5 + 1) 3 (List.take ((n5 + 1) * 3) (List.drop 0 (List.drop 0 (List.take (0 + n5 * 3) c5) ++ [bv t6, sv s, sv (bstr [])])))), iv 0], [BO.del, BO.set (ABlk.mk [AV.ls xs, iv n3, AV.ls xs1, bv b] true false), BO.del]))) none))) none) none))) none))
 (askK D (Key.fn 102) [AV.agg [AV.ls b1_0, iv b1_1, AV.ls b1_2, bv b1_3]] [] fun r1 o1 =>
 unBool r1 fun b =>
 unEnd o1 <|
 br b
 (br (A.eq (↑n5) 64)
 (some ((AV.tup [bv true, AV.ptr 1 0, AV.ls [], iv 3], [BO.del, BO.set (ABlk.mk [AV.ls b1_0, iv b1_1, AV.ls b1_2, bv b1_3] true false), BO.del])))
 (br (A.eq n 3) none (br (A.seq (bstr []) (bstr []))
 (br (A.seq (bstr []) (bstr [])) (askK D (Key.fn 102) [AV.agg [AV.ls b1_0, iv b1_1, AV.ls b1_2, bv b1_3]] [] fun r2 o2 =>
 unBool r2 fun b1 =>
 unEnd o2 <|
 br b1
 (askK D (Key.fn 101) [AV.agg [AV.ls b1_0, iv b1_1, AV.ls b1_2, bv b1_3]] [] fun r3 o3 =>
 unAgg r3 fun cs1 =>
 cInt IntKind.i64 cs1 fun _ l4 =>
 cStr l4 fun s1 l5 =>
 cInt IntKind.i64 l5 fun _ l6 =>
 cInt IntKind.i64 l6 fun _ l7 =>
 unNil l7 <|
 unEnd o3 <|
 br b1_3
 (br b1_3 (br b1_3 (br b1_3 (br b1_3 (askK D (Key.fn 103) [AV.ls b1_2, sv s1] [] fun r4 o4 =>
 unBool r4 fun b2 =>
 unEnd o4 <|
 br b2
 (br b1_3 (br b1_3 (askK D (Key.fn 100) [AV.agg [AV.ls b1_0, iv b1_1, AV.ls b1_2, bv b1_3]] [] fun r5 o5 =>
 unAgg r5 fun cs2 =>
 cLs cs2 fun xs l8 =>
 cInt IntKind.i64 l8 fun n7 l9 =>
 cLs l9 fun xs1 l10 =>
 cBool l10 fun b3 l11 =>
 unNil l11 <|
 unEnd o5 <|
 br (fitsB (n5 + 1) 40) (br ((0 + n5 * 3).ble c5.length) (askK D (Key.fn 99) [AV.agg [AV.ls xs, iv n7, AV.ls xs1, bv b3], sv (bstr [45])] [] fun r6 o6 =>
 unBool r6 fun b4 =>
 unEnd o6 <|
 br b4
 (askK D (Key.fn 100) [AV.agg [AV.ls xs, iv n7, AV.ls xs1, bv b3]] [] fun r7 o7 =>
 unAgg r7 fun cs3 =>
 cLs cs3 fun xs2 l12 =>
 cInt IntKind.i64 l12 fun n8 l13 =>
 cLs l13 fun xs3 l14 =>
 cBool l14 fun b5 l15 =>
 unNil l15 <|
 unEnd o7 <|
 askK D (Key.lp 51 0) [AV.ptr 0 0, AV.ptr 1 0, AV.sl 2 0 (n5 + 1) 3, bv true] [ABlk.mk [AV.ls xs2, iv n8, AV.ls xs3, bv b5] true false, ABlk.mk [AV.ls b2_0, iv b2_1, AV.ls b2_2, bv b2_3] true false, ABlk.mk (List.drop 0 (List.take (0 + n5 * 3) c5) ++ [bv t6, sv (bstr []), sv s1]) true true] fun r8 o8 =>
 tailK 3 [0, 1, 6] (AH.mk [(1, ABlk.mk [AV.ls b2_0, iv b2_1, AV.ls b2_2, bv b2_3] true false), (0, ABlk.mk [AV.ls xs2, iv n8, AV.ls xs3, bv b5] true false), (6, ABlk.mk (List.drop 0 (List.take (0 + n5 * 3) c5) ++ [bv t6, sv (bstr []), sv s1]) true true), (5, ABlk.mk [bv t6, sv (bstr []), sv s1] true true), (4, ABlk.mk [bv t6, sv (bstr []), sv s1] true false), (3, ABlk.mk [iv n, sv s, iv n1, iv n2] true false)] 7 none) [2, 0, 1] r8 o8)
 (askK D (Key.fn 99) [AV.agg [AV.ls xs, iv n7, AV.ls xs1, bv b3], sv (bstr [43])] [] fun r7 o7 =>
 unBool r7 fun b5 =>
 unEnd o7 <|
 br b5
 (askK D (Key.fn 100) [AV.agg [AV.ls xs, iv n7, AV.ls xs1, bv b3]] [] fun r8 o8 =>
 unAgg r8 fun cs3 =>
 cLs cs3 fun xs2 l12 =>
 cInt IntKind.i64 l12 fun n8 l13 =>
 cLs l13 fun xs3 l14 =>
 cBool l14 fun b6 l15 =>
 unNil l15 <|
 unEnd o8 <|
 askK D (Key.lp 51 0) [AV.ptr 0 0, AV.ptr 1 0, AV.sl 2 0 (n5 + 1) 3, bv false] [ABlk.mk [AV.ls xs2, iv n8, AV.ls xs3, bv b6] true false, ABlk.mk [AV.ls b2_0, iv b2_1, AV.ls b2_2, bv b2_3] true false, ABlk.mk (List.drop 0 (List.take (0 + n5 * 3) c5) ++ [bv t6, sv (bstr []), sv s1]) true true] fun r9 o9 =>
 tailK 3 [0, 1, 6] (AH.mk [(1, ABlk.mk [AV.ls b2_0, iv b2_1, AV.ls b2_2, bv b2_3] true false), (0, ABlk.mk [AV.ls xs2, iv n8, AV.ls xs3, bv b6] true false), (6, ABlk.mk (List.drop 0 (List.take (0 + n5 * 3) c5) ++ [bv t6, sv (bstr []), sv s1]) true true), (5, ABlk.mk [bv t6, sv (bstr []), sv s1] true true), (4, ABlk.mk [bv t6, sv (bstr []), sv s1] true false), (3, ABlk.mk [iv n, sv s, iv n1, iv n2] true false)] 7 none) [2, 0, 1] r9 o9)
 (br ((0 + (n5 + 1) * 3).ble (List.drop 0 (List.take (0 + n5 * 3) c5) ++ [bv t6, sv (bstr []), sv s1]).length) (some ((AV.tup [bv true, AV.ptr 1 0, AV.ls (chunk (n5 + 1) 3 (List.take ((n5 + 1) * 3) (List.drop 0 (List.drop 0 (List.take (0 + n5 * 3) c5) ++ [bv t6, sv (bstr []), sv s1])))), iv 0], [BO.del, BO.set (ABlk.mk [AV.ls xs, iv n7, AV.ls xs1, bv b3] true false), BO.del]))) none))) none) none) none) none)
 (br b1_3 (br b1_3 (some ((AV.tup [bv true, AV.ptr 1 0, AV.ls [], iv 110], [BO.del, BO.set (ABlk.mk [AV.ls b1_0, iv b1_1, AV.ls b1_2, bv b1_3] true false), BO.del]))) none) none)) none) none) none) none)
 (br b1_3 none (br b1_3 none (br b1_3 none (br b1_3 none (br b1_3 none (br b1_3 none (askK D (Key.fn 100) [AV.agg [AV.ls b1_0, iv b1_1, AV.ls b1_2, bv b1_3]] [] fun r4 o4 =>
 unAgg r4 fun cs2 =>
 cLs cs2 fun xs l8 =>
 cInt IntKind.i64 l8 fun n7 l9 =>
 cLs l9 fun xs1 l10 =>
 cBool l10 fun b2 l11 =>
 unNil l11 <|
 unEnd o4 <|
 br (fitsB (n5 + 1) 40) (br ((0 + n5 * 3).ble c5.length) (askK D (Key.fn 99) [AV.agg [AV.ls xs, iv n7, AV.ls xs1, bv b2], sv (bstr [45])] [] fun r5 o5 =>
 unBool r5 fun b3 =>
 unEnd o5 <|
 br b3
 (askK D (Key.fn 100) [AV.agg [AV.ls xs, iv n7, AV.ls xs1, bv b2]] [] fun r6 o6 =>
 unAgg r6 fun cs3 =>
 cLs cs3 fun xs2 l12 =>
 cInt IntKind.i64 l12 fun n8 l13 =>
 cLs l13 fun xs3 l14 =>
 cBool l14 fun b4 l15 =>
 unNil l15 <|
 unEnd o6 <|
 askK D (Key.lp 51 0) [AV.ptr 0 0, AV.ptr 1 0, AV.sl 2 0 (n5 + 1) 3, bv true] [ABlk.mk [AV.ls xs2, iv n8, AV.ls xs3, bv b4] true false, ABlk.mk [AV.ls b2_0, iv b2_1, AV.ls b2_2, bv b2_3] true false, ABlk.mk (List.drop 0 (List.take (0 + n5 * 3) c5) ++ [bv t6, sv (bstr []), sv s1]) true true] fun r7 o7 =>
 tailK 3 [0, 1, 6] (AH.mk [(1, ABlk.mk [AV.ls b2_0, iv b2_1, AV.ls b2_2, bv b2_3] true false), (0, ABlk.mk [AV.ls xs2, iv n8, AV.ls xs3, bv b4] true false), (6, ABlk.mk (List.drop 0 (List.take (0 + n5 * 3) c5) ++ [bv t6, sv (bstr []), sv s1]) true true), (5, ABlk.mk [bv t6, sv (bstr []), sv s1] true true), (4, ABlk.mk [bv t6, sv (bstr []), sv s1] true false), (3, ABlk.mk [iv n, sv s, iv n1, iv n2] true false)] 7 none) [2, 0, 1] r7 o7)
 (askK D (Key.fn 99) [AV.agg [AV.ls xs, iv n7, AV.ls xs1, bv b2], sv (bstr [43])] [] fun r6 o6 =>
 unBool r6 fun b4 =>
 unEnd o6 <|
 br b4
 (askK D (Key.fn 100) [AV.agg [AV.ls xs, iv n7, AV.ls xs1, bv b2]] [] fun r7 o7 =>
 unAgg r7 fun cs3 =>
 cLs cs3 fun xs2 l12 =>
 cInt IntKind.i64 l12 fun n8 l13 =>
 cLs l13 fun xs3 l14 =>
 cBool l14 fun b5 l15 =>
 unNil l15 <|
 unEnd o7 <|
 askK D (Key.lp 51 0) [AV.ptr 0 0, AV.ptr 1 0, AV.sl 2 0 (n5 + 1) 3, bv false] [ABlk.mk [AV.ls xs2, iv n8, AV.ls xs3, bv b5] true false, ABlk.mk [AV.ls b2_0, iv b2_1, AV.ls b2_2, bv b2_3] true false, ABlk.mk (List.drop 0 (List.take (0 + n5 * 3) c5) ++ [bv t6, sv (bstr []), sv s1]) true true] fun r8 o8 =>
 tailK 3 [0, 1, 6] (AH.mk [(1, ABlk.mk [AV.ls b2_0, iv b2_1, AV.ls b2_2, bv b2_3] true false), (0, ABlk.mk [AV.ls xs2, iv n8, AV.ls xs3, bv b5] true false), (6, ABlk.mk (List.drop 0 (List.take (0 + n5 * 3) c5) ++ [bv t6, sv (bstr []), sv s1]) true true), (5, ABlk.mk [bv t6, sv (bstr []), sv s1] true true), (4, ABlk.mk [bv t6, sv (bstr []), sv s1] true false), (3, ABlk.mk [iv n, sv s, iv n1, iv n2] true false)] 7 none) [2, 0, 1] r8 o8)
 (br ((0 + (n5 + 1) * 3).ble (List.drop 0 (List.take (0 + n5 * 3) c5) ++ [bv t6, sv (bstr []), sv s1]).length) (some ((AV.tup [bv true, AV.ptr 1 0, AV.ls (chunk (n5 + 1) 3 (List.take ((n5 + 1) * 3) (List.drop 0 (List.drop 0 (List.take (0 + n5 * 3) c5) ++ [bv t6, sv (bstr []), sv s1])))), iv 0], [BO.del, BO.set (ABlk.mk [AV.ls xs, iv n7, AV.ls xs1, bv b2] true false), BO.del]))) none))) none) none))))))))
 (some ((AV.tup [bv true, AV.ptr 1 0, AV.ls [], iv 101], [BO.del, BO.set (ABlk.mk [AV.ls b1_0, iv b1_1, AV.ls b1_2, bv b1_3] true false), BO.del])))) none)
 (askK D (Key.fn 99) [AV.agg [AV.ls b1_0, iv b1_1, AV.ls b1_2, bv b1_3], sv (bstr [42])] [] fun r2 o2 =>
 unBool r2 fun b1 =>
 unEnd o2 <|
 br b1
 (br (A.seq (bstr []) (bstr [])) none (askK D (Key.fn 100) [AV.agg [AV.ls b1_0, iv b1_1, AV.ls b1_2, bv b1_3]] [] fun r3 o3 =>
 unAgg r3 fun cs1 =>
 cLs cs1 fun xs l4 =>
 cInt IntKind.i64 l4 fun n3 l5 =>
 cLs l5 fun xs1 l6 =>
 cBool l6 fun b2 l7 =>
 unNil l7 <|
 unEnd o3 <|
 askK D (Key.fn 102) [AV.agg [AV.ls xs, iv n3, AV.ls xs1, bv b2]] [] fun r4 o4 =>
 unBool r4 fun b3 =>
 unEnd o4 <|
 br b3
 (askK D (Key.fn 101) [AV.agg [AV.ls xs, iv n3, AV.ls xs1, bv b2]] [] fun r5 o5 =>
 unAgg r5 fun cs2 =>
 cInt IntKind.i64 cs2 fun _ l8 =>
 cStr l8 fun s1 l9 =>
 cInt IntKind.i64 l9 fun _ l10 =>
 cInt IntKind.i64 l10 fun _ l11 =>
 unNil l11 <|
 unEnd o5 <|
 br b2
 (br b2 (br b2 (br b2 (br b2 (askK D (Key.fn 103) [AV.ls xs1, sv s1] [] fun r6 o6 =>
 unBool r6 fun b4 =>
 unEnd o6 <|
 br b4
 (br b2 (br b2 (askK D (Key.fn 100) [AV.agg [AV.ls xs, iv n3, AV.ls xs1, bv b2]] [] fun r7 o7 =>
 unAgg r7 fun cs3 =>
 cLs cs3 fun xs2 l12 =>
 cInt IntKind.i64 l12 fun n8 l13 =>
 cLs l13 fun xs3 l14 =>
 cBool l14 fun b5 l15 =>
 unNil l15 <|
 unEnd o7 <|
 br (fitsB (n5 + 1) 40) (br ((0 + n5 * 3).ble c5.length) (askK D (Key.fn 99) [AV.agg [AV.ls xs2, iv n8, AV.ls xs3, bv b5], sv (bstr [45])] [] fun r8 o8 =>
 unBool r8 fun b6 =>
 unEnd o8 <|
 br b6
 (askK D (Key.fn 100) [AV.agg [AV.ls xs2, iv n8, AV.ls xs3, bv b5]] [] fun r9 o9 =>
 unAgg r9 fun cs4 =>
 cLs cs4 fun xs4 l16 =>
 cInt IntKind.i64 l16 fun n9 l17 =>
 cLs l17 fun xs5 l18 =>
 cBool l18 fun b7 l19 =>
 unNil l19 <|
 unEnd o9 <|
 askK D (Key.lp 51 0) [AV.ptr 0 0, AV.ptr 1 0, AV.sl 2 0 (n5 + 1) 3, bv true] [ABlk.mk [AV.ls xs4, iv n9, AV.ls xs5, bv b7] true false, ABlk.mk [AV.ls b2_0, iv b2_1, AV.ls b2_2, bv b2_3] true false, ABlk.mk (List.drop 0 (List.take (0 + n5 * 3) c5) ++ [bv t6, sv (bstr []), sv s1]) true true] fun r10 o10 =>
 tailK 3 [0, 1, 6] (AH.mk [(1, ABlk.mk [AV.ls b2_0, iv b2_1, AV.ls b2_2, bv b2_3] true false), (0, ABlk.mk [AV.ls xs4, iv n9, AV.ls xs5, bv b7] true false), (6, ABlk.mk (List.drop 0 (List.take (0 + n5 * 3) c5) ++ [bv t6, sv (bstr []), sv s1]) true true), (5, ABlk.mk [bv t6, sv (bstr []), sv s1] true true), (4, ABlk.mk [bv t6, sv (bstr []), sv s1] true false), (3, ABlk.mk [iv n, sv s, iv n1, iv n2] true false)] 7 none) [2, 0, 1] r10 o10)
 (askK D (Key.fn 99) [AV.agg [AV.ls xs2, iv n8, AV.ls xs3, bv b5], sv (bstr [43])] [] fun r9 o9 =>
 unBool r9 fun b7 =>
 unEnd o9 <|
 br b7
 (askK D (Key.fn 100) [AV.agg [AV.ls xs2, iv n8, AV.ls xs3, bv b5]] [] fun r10 o10 =>
 unAgg r10 fun cs4 =>
 cLs cs4 fun xs4 l16 =>
 cInt IntKind.i64 l16 fun n9 l17 =>
 cLs l17 fun xs5 l18 =>
 cBool l18 fun b8 l19 =>
 unNil l19 <|
 unEnd o10 <|
 askK D (Key.lp 51 0) [AV.ptr 0 0, AV.ptr 1 0, AV.sl 2 0 (n5 + 1) 3, bv false] [ABlk.mk [AV.ls xs4, iv n9, AV.ls xs5, bv b8] true false, ABlk.mk [AV.ls b2_0, iv b2_1, AV.ls b2_2, bv b2_3] true false, ABlk.mk (List.drop 0 (List.take (0 + n5 * 3) c5) ++ [bv t6, sv (bstr []), sv s1]) true true] fun r11 o11 =>
 tailK 3 [0, 1, 6] (AH.mk [(1, ABlk.mk [AV.ls b2_0, iv b2_1, AV.ls b2_2, bv b2_3] true false), (0, ABlk.mk [AV.ls xs4, iv n9, AV.ls xs5, bv b8] true false), (6, ABlk.mk (List.drop 0 (List.take (0 + n5 * 3) c5) ++ [bv t6, sv (bstr []), sv s1]) true true), (5, ABlk.mk [bv t6, sv (bstr []), sv s1] true true), (4, ABlk.mk [bv t6, sv (bstr []), sv s1] true false), (3, ABlk.mk [iv n, sv s, iv n1, iv n2] true false)] 7 none) [2, 0, 1] r11 o11)
 (br ((0 + (n5 + 1) * 3).ble (List.drop 0 (List.take (0 + n5 * 3) c5) ++ [bv t6, sv (bstr []), sv s1]).length) (some ((AV.tup [bv true, AV.ptr 1 0, AV.ls (chunk (n5 + 1) 3 (List.take ((n5 + 1) * 3) (List.drop 0 (List.drop 0 (List.take (0 + n5 * 3) c5) ++ [bv t6, sv (bstr []), sv s1])))), iv 0], [BO.del, BO.set (ABlk.mk [AV.ls xs2, iv n8, AV.ls xs3, bv b5] true false), BO.del]))) none))) none) none) none) none)
 (br b2 (br b2 (some ((AV.tup [bv true, AV.ptr 1 0, AV.ls [], iv 110], [BO.del, BO.set (ABlk.mk [AV.ls xs, iv n3, AV.ls xs1, bv b2] true false), BO.del]))) none) none)) none) none) none) none)
 (br b2 none (br b2 none (br b2 none (br b2 none (br b2 none (br b2 none (askK D (Key.fn 100) [AV.agg [AV.ls xs, iv n3, AV.ls xs1, bv b2]] [] fun r6 o6 =>
 unAgg r6 fun cs3 =>
 cLs cs3 fun xs2 l12 =>
 cInt IntKind.i64 l12 fun n8 l13 =>
 cLs l13 fun xs3 l14 =>
 cBool l14 fun b4 l15 =>
 unNil l15 <|
 unEnd o6 <|
 br (fitsB (n5 + 1) 40) (br ((0 + n5 * 3).ble c5.length) (askK D (Key.fn 99) [AV.agg [AV.ls xs2, iv n8, AV.ls xs3, bv b4], sv (bstr [45])] [] fun r7 o7 =>
 unBool r7 fun b5 =>
 unEnd o7 <|
 br b5
 (askK D (Key.fn 100) [AV.agg [AV.ls xs2, iv n8, AV.ls xs3, bv b4]] [] fun r8 o8 =>
 unAgg r8 fun cs4 =>
 cLs cs4 fun xs4 l16 =>
 cInt IntKind.i64 l16 fun n9 l17 =>
 cLs l17 fun xs5 l18 =>
 cBool l18 fun b6 l19 =>
 unNil l19 <|
 unEnd o8 <|
 askK D (Key.lp 51 0) [AV.ptr 0 0, AV.ptr 1 0, AV.sl 2 0 (n5 + 1) 3, bv true] [ABlk.mk [AV.ls xs4, iv n9, AV.ls xs5, bv b6] true false, ABlk.mk [AV.ls b2_0, iv b2_1, AV.ls b2_2, bv b2_3] true false, ABlk.mk (List.drop 0 (List.take (0 + n5 * 3) c5) ++ [bv t6, sv (bstr []), sv s1]) true true] fun r9 o9 =>
 tailK 3 [0, 1, 6] (AH.mk [(1, ABlk.mk [AV.ls b2_0, iv b2_1, AV.ls b2_2, bv b2_3] true false), (0, ABlk.mk [AV.ls xs4, iv n9, AV.ls xs5, bv b6] true false), (6, ABlk.mk (List.drop 0 (List.take (0 + n5 * 3) c5) ++ [bv t6, sv (bstr []), sv s1]) true true), (5, ABlk.mk [bv t6, sv (bstr []), sv s1] true true), (4, ABlk.mk [bv t6, sv (bstr []), sv s1] true false), (3, ABlk.mk [iv n, sv s, iv n1, iv n2] true false)] 7 none) [2, 0, 1] r9 o9)
 (askK D (Key.fn 99) [AV.agg [AV.ls xs2, iv n8, AV.ls xs3, bv b4], sv (bstr [43])] [] fun r8 o8 =>
 unBool r8 fun b6 =>
 unEnd o8 <|
 br b6
 (askK D (Key.fn 100) [AV.agg [AV.ls xs2, iv n8, AV.ls xs3, bv b4]] [] fun r9 o9 =>
 unAgg r9 fun cs4 =>
 cLs cs4 fun xs4 l16 =>
 cInt IntKind.i64 l16 fun n9 l17 =>
 cLs l17 fun xs5 l18 =>
 cBool l18 fun b7 l19 =>
 unNil l19 <|
 unEnd o9 <|
 askK D (Key.lp 51 0) [AV.ptr 0 0, AV.ptr 1 0, AV.sl 2 0 (n5 + 1) 3, bv false] [ABlk.mk [AV.ls xs4, iv n9, AV.ls xs5, bv b7] true false, ABlk.mk [AV.ls b2_0, iv b2_1, AV.ls b2_2, bv b2_3] true false, ABlk.mk (List.drop 0 (List.take (0 + n5 * 3) c5) ++ [bv t6, sv (bstr []), sv s1]) true true] fun r10 o10 =>
 tailK 3 [0, 1, 6] (AH.mk [(1, ABlk.mk [AV.ls b2_0, iv b2_1, AV.ls b2_2, bv b2_3] true false), (0, ABlk.mk [AV.ls xs4, iv n9, AV.ls xs5, bv b7] true false), (6, ABlk.mk (List.drop 0 (List.take (0 + n5 * 3) c5) ++ [bv t6, sv (bstr []), sv s1]) true true), (5, ABlk.mk [bv t6, sv (bstr []), sv s1] true true), (4, ABlk.mk [bv t6, sv (bstr []), sv s1] true false), (3, ABlk.mk [iv n, sv s, iv n1, iv n2] true false)] 7 none) [2, 0, 1] r10 o10)
 (br ((0 + (n5 + 1) * 3).ble (List.drop 0 (List.take (0 + n5 * 3) c5) ++ [bv t6, sv (bstr []), sv s1]).length) (some ((AV.tup [bv true, AV.ptr 1 0, AV.ls (chunk (n5 + 1) 3 (List.take ((n5 + 1) * 3) (List.drop 0 (List.drop 0 (List.take (0 + n5 * 3) c5) ++ [bv t6, sv (bstr []), sv s1])))), iv 0], [BO.del, BO.set (ABlk.mk [AV.ls xs2, iv n8, AV.ls xs3, bv b4] true false), BO.del]))) none))) none) none))))))))
 (some ((AV.tup [bv true, AV.ptr 1 0, AV.ls [], iv 101], [BO.del, BO.set (ABlk.mk [AV.ls xs, iv n3, AV.ls xs1, bv b2] true false), BO.del])))))
 (br (fitsB (n5 + 1) 40) (br ((0 + n5 * 3).ble c5.length) (askK D (Key.fn 99) [AV.agg [AV.ls b1_0, iv b1_1, AV.ls b1_2, bv b1_3], sv (bstr [45])] [] fun r3 o3 =>
 unBool r3 fun b2 =>
 unEnd o3 <|
 br b2
 (askK D (Key.fn 100) [AV.agg [AV.ls b1_0, iv b1_1, AV.ls b1_2, bv b1_3]] [] fun r4 o4 =>
 unAgg r4 fun cs1 =>
 cLs cs1 fun xs l4 =>
 cInt IntKind.i64 l4 fun n3 l5 =>
 cLs l5 fun xs1 l6 =>
 cBool l6 fun b3 l7 =>
 unNil l7 <|
 unEnd o4 <|
 askK D (Key.lp 51 0) [AV.ptr 0 0, AV.ptr 1 0, AV.sl 2 0 (n5 + 1) 3, bv true] [ABlk.mk [AV.ls xs, iv n3, AV.ls xs1, bv b3] true false, ABlk.mk [AV.ls b2_0, iv b2_1, AV.ls b2_2, bv b2_3] true false, ABlk.mk (List.drop 0 (List.take (0 + n5 * 3) c5) ++ [bv t6, sv (bstr []), sv (bstr [])]) true true] fun r5 o5 =>
 tailK 3 [0, 1, 6] (AH.mk [(1, ABlk.mk [AV.ls b2_0, iv b2_1, AV.ls b2_2, bv b2_3] true false), (0, ABlk.mk [AV.ls xs, iv n3, AV.ls xs1, bv b3] true false), (6, ABlk.mk (List.drop 0 (List.take (0 + n5 * 3) c5) ++ [bv t6, sv (bstr []), sv (bstr [])]) true true), (5, ABlk.mk [bv t6, sv (bstr []), sv (bstr [])] true true), (4, ABlk.mk [bv t6, sv (bstr []), sv (bstr [])] true false), (3, ABlk.mk [iv n, sv s, iv n1, iv n2] true false)] 7 none) [2, 0, 1] r5 o5)
 (askK D (Key.fn 99) [AV.agg [AV.ls b1_0, iv b1_1, AV.ls b1_2, bv b1_3], sv (bstr [43])] [] fun r4 o4 =>
 unBool r4 fun b3 =>
 unEnd o4 <|
 br b3
 (askK D (Key.fn 100) [AV.agg [AV.ls b1_0, iv b1_1, AV.ls b1_2, bv b1_3]] [] fun r5 o5 =>
 unAgg r5 fun cs1 =>
 cLs cs1 fun xs l4 =>
 cInt IntKind.i64 l4 fun n3 l5 =>
 cLs l5 fun xs1 l6 =>
 cBool l6 fun b4 l7 =>
 unNil l7 <|
 unEnd o5 <|
 askK D (Key.lp 51 0) [AV.ptr 0 0, AV.ptr 1 0, AV.sl 2 0 (n5 + 1) 3, bv false] [ABlk.mk [AV.ls xs, iv n3, AV.ls xs1, bv b4] true false, ABlk.mk [AV.ls b2_0, iv b2_1, AV.ls b2_2, bv b2_3] true false, ABlk.mk (List.drop 0 (List.take (0 + n5 * 3) c5) ++ [bv t6, sv (bstr []), sv (bstr [])]) true true] fun r6 o6 =>
 tailK 3 [0, 1, 6] (AH.mk [(1, ABlk.mk [AV.ls b2_0, iv b2_1, AV.ls b2_2, bv b2_3] true false), (0, ABlk.mk [AV.ls xs, iv n3, AV.ls xs1, bv b4] true false), (6, ABlk.mk (List.drop 0 (List.take (0 + n5 * 3) c5) ++ [bv t6, sv (bstr []), sv (bstr [])]) true true), (5, ABlk.mk [bv t6, sv (bstr []), sv (bstr [])] true true), (4, ABlk.mk [bv t6, sv (bstr []), sv (bstr [])] true false), (3, ABlk.mk [iv n, sv s, iv n1, iv n2] true false)] 7 none) [2, 0, 1] r6 o6)
 (br ((0 + (n5 + 1) * 3).ble (List.drop 0 (List.take (0 + n5 * 3) c5) ++ [bv t6, sv (bstr []), sv (bstr [])]).length) (some ((AV.tup [bv true, AV.ptr 1 0, AV.ls (chunk (n5 + 1) 3 (List.take ((n5 + 1) * 3) (List.drop 0 (List.drop 0 (List.take (0 + n5 * 3) c5) ++ [bv t6, sv (bstr []), sv (bstr [])])))), iv 0], [BO.del, BO.set (ABlk.mk [AV.ls b1_0, iv b1_1, AV.ls b1_2, bv b1_3] true false), BO.del]))) none))) none) none)))))
 (some ((AV.tup [bv true, AV.ptr 1 0, AV.ls [], iv 101], [BO.del, BO.set (ABlk.mk [AV.ls b1_0, iv b1_1, AV.ls b1_2, bv b1_3] true false), BO.del])))) := by kernel_rfl

theorem e221 (A : Ar) (D : Orc) (x0_0 : List (List AV)) (x0_1 : Int) (x0_2 : List (List AV)) (x0_3 : Bool) : fnK A D ownC hn221 .n 221 mf221 [AV.agg [AV.ls x0_0, iv x0_1, AV.ls x0_2, bv x0_3]] [] =
 askK D (Key.fn 51) [AV.agg [AV.ls x0_0, iv x0_1, AV.ls x0_2, bv x0_3]] [] fun r o =>
 unTup r fun cs =>
 unCons cs fun c l =>
 unAgg c fun cs1 =>
 cLs cs1 fun xs l1 =>
 cInt IntKind.i64 l1 fun n l2 =>
 cLs l2 fun xs1 l3 =>
 cBool l3 fun b l4 =>
 unNil l4 <|
 cLs l fun xs2 l5 =>
 cInt IntKind.i64 l5 fun n1 l6 =>
 unNil l6 <|
 unEnd o <|
 br (A.eq n1 0)
 (askK D (Key.lp 221 0) [AV.ptr 0 0, AV.ptr 1 0, AV.ptr 2 0, AV.ls xs2, iv (-1), iv 0] [ABlk.mk [AV.ls xs, iv n, AV.ls xs1, bv b] true false, ABlk.mk [AV.ls [], iv 0, AV.ls [], bv false] true false, ABlk.mk [iv 0, AV.ls [], AV.ls [], iv 0, sv (bstr []), sv (bstr []), AV.ls []] true false] fun r1 o1 =>
 unTup r1 fun cs2 =>
 unCons cs2 fun c1 l7 =>
 br (axIs 1 c1)
 (unCons l7 fun c2 l8 =>
 unPtr 0 0 c2 <|
 unCons l8 fun c3 l9 =>
 unPtr 1 0 c3 <|
 unCons l9 fun c4 l10 =>
 unPtr 2 0 c4 <|
 cLs l10 fun xs3 l11 =>
 cInt IntKind.i64 l11 fun n2 l12 =>
 unNil l12 <|
 unOut o1 fun c5 l13 =>
 unSet true false c5 fun cs3 =>
 cLs cs3 fun xs4 l14 =>
 cInt IntKind.i64 l14 fun n3 l15 =>
 cLs l15 fun xs5 l16 =>
 cBool l16 fun b1 l17 =>
 unNil l17 <|
 unOut l13 fun c6 l18 =>
 unSet true false c6 fun cs4 =>
 cLs cs4 fun _ l19 =>
 cInt IntKind.i64 l19 fun _ l20 =>
 cLs l20 fun _ l21 =>
 cBool l21 fun _ l22 =>
 unNil l22 <|
 unOut l18 fun c7 l23 =>
 unSet true false c7 fun cs5 =>
 cInt IntKind.i64 cs5 fun _ l24 =>
 cLs l24 fun _ l25 =>
 cLs l25 fun _ l26 =>
 cInt IntKind.i64 l26 fun _ l27 =>
 cStr l27 fun _ l28 =>
 cStr l28 fun _ l29 =>
 cLs l29 fun _ l30 =>
 unNil l30 <|
 unEnd l23 <|
 br (A.lt n2 0)
 (some ((AV.tup [AV.agg [AV.ls xs4, iv n3, AV.ls xs5, bv b1], AV.agg [iv 0, AV.ls [], AV.ls [], iv 0, sv (bstr []), sv (bstr []), AV.ls []], iv 101], [])))
 (askK D (Key.fn 100) [AV.agg [AV.ls xs4, iv n3, AV.ls xs5, bv b1]] [] fun r2 o2 =>
 unAgg r2 fun cs6 =>
 cLs cs6 fun xs11 l31 =>
 cInt IntKind.i64 l31 fun n7 l32 =>
 cLs l32 fun xs12 l33 =>
 cBool l33 fun b3 l34 =>
 unNil l34 <|
 unEnd o2 <|
 askK D (Key.fn 51) [AV.agg [AV.ls xs11, iv n7, AV.ls xs12, bv b3]] [] fun r3 o3 =>
 unTup r3 fun cs7 =>
 unCons cs7 fun c8 l35 =>
 unAgg c8 fun cs8 =>
 cLs cs8 fun xs13 l36 =>
 cInt IntKind.i64 l36 fun n8 l37 =>
 cLs l37 fun xs14 l38 =>
 cBool l38 fun b4 l39 =>
 unNil l39 <|
 cLs l35 fun xs15 l40 =>
 cInt IntKind.i64 l40 fun n9 l41 =>
 unNil l41 <|
 unEnd o3 <|
 br (A.eq n9 0)
 (some ((AV.tup [AV.agg [AV.ls xs13, iv n8, AV.ls xs14, bv b4], AV.agg [iv 2, AV.ls xs3, AV.ls xs15, iv n2, sv (bstr []), sv (bstr []), AV.ls []], iv 0], [])))
 (some ((AV.tup [AV.agg [AV.ls xs13, iv n8, AV.ls xs14, bv b4], AV.agg [iv 0, AV.ls [], AV.ls [], iv 0, sv (bstr []), sv (bstr []), AV.ls []], iv n9], [])))))
 (none))
 (some ((AV.tup [AV.agg [AV.ls xs, iv n, AV.ls xs1, bv b], AV.agg [iv 0, AV.ls [], AV.ls [], iv 0, sv (bstr []), sv (bstr []), AV.ls []], iv n1], []))) := by kernel_rfl

theorem e221_0 (A : Ar) (D : Orc) (b1_0 : List (List AV)) (b1_1 : Int) (b1_2 : List (List AV)) (b1_3 : Bool) (b2_0 : List (List AV)) (b2_1 : Int) (b2_2 : List (List AV)) (b2_3 : Bool) (b3_0 : Int) (b3_1 : List (List AV)) (b3_2 : List (List AV)) (b3_3 : Int) (b3_4 : ByteArray) (b3_5 : ByteArray) (b3_6 : List (List AV)) (t5 : List (List AV)) (t7 : Int) (t8 : Int) : lpK A D ownC hn221 .n 221 0 (lpAt mf221 0).fst (lpAt mf221 0).snd [AV.ptr 0 0, AV.ptr 1 0, AV.ptr 2 0, AV.ls t5, iv t7, iv t8] [{ cells := [AV.ls b1_0, iv b1_1, AV.ls b1_2, bv b1_3], st := true, ex := false }, { cells := [AV.ls b2_0, iv b2_1, AV.ls b2_2, bv b2_3], st := true, ex := false }, { cells := [iv b3_0, AV.ls b3_1, AV.ls b3_2, iv b3_3, sv b3_4, sv b3_5, AV.ls b3_6], st := true, ex := false }] =
 br (A.lt t8 6)
 (askK D (Key.fn 237) [iv t8] [] fun r o =>
 unStr r fun s =>
 unEnd o <|
 askK D (Key.fn 99) [AV.agg [AV.ls b1_0, iv b1_1, AV.ls b1_2, bv b1_3], sv s] [] fun r1 o1 =>
 unBool r1 fun b =>
 unEnd o1 <|
 br b
 (askK D (Key.lp 221 0) [AV.ptr 0 0, AV.ptr 1 0, AV.ptr 2 0, AV.ls t5, iv t8, iv (A.add IntKind.i64 t8 1)] [ABlk.mk [AV.ls b1_0, iv b1_1, AV.ls b1_2, bv b1_3] true false, ABlk.mk [AV.ls b2_0, iv b2_1, AV.ls b2_2, bv b2_3] true false, ABlk.mk [iv b3_0, AV.ls b3_1, AV.ls b3_2, iv b3_3, sv b3_4, sv b3_5, AV.ls b3_6] true false] fun r2 o2 =>
 tailK 3 [0, 1, 2] (AH.mk [(2, ABlk.mk [iv b3_0, AV.ls b3_1, AV.ls b3_2, iv b3_3, sv b3_4, sv b3_5, AV.ls b3_6] true false), (1, ABlk.mk [AV.ls b2_0, iv b2_1, AV.ls b2_2, bv b2_3] true false), (0, ABlk.mk [AV.ls b1_0, iv b1_1, AV.ls b1_2, bv b1_3] true false)] 3 none) [0, 1, 2] r2 o2)
 (askK D (Key.lp 221 0) [AV.ptr 0 0, AV.ptr 1 0, AV.ptr 2 0, AV.ls t5, iv t7, iv (A.add IntKind.i64 t8 1)] [ABlk.mk [AV.ls b1_0, iv b1_1, AV.ls b1_2, bv b1_3] true false, ABlk.mk [AV.ls b2_0, iv b2_1, AV.ls b2_2, bv b2_3] true false, ABlk.mk [iv b3_0, AV.ls b3_1, AV.ls b3_2, iv b3_3, sv b3_4, sv b3_5, AV.ls b3_6] true false] fun r2 o2 =>
 tailK 3 [0, 1, 2] (AH.mk [(2, ABlk.mk [iv b3_0, AV.ls b3_1, AV.ls b3_2, iv b3_3, sv b3_4, sv b3_5, AV.ls b3_6] true false), (1, ABlk.mk [AV.ls b2_0, iv b2_1, AV.ls b2_2, bv b2_3] true false), (0, ABlk.mk [AV.ls b1_0, iv b1_1, AV.ls b1_2, bv b1_3] true false)] 3 none) [0, 1, 2] r2 o2))
 (some ((AV.tup [iv 0, AV.ptr 0 0, AV.ptr 1 0, AV.ptr 2 0, AV.ls t5, iv t7], [BO.set (ABlk.mk [AV.ls b1_0, iv b1_1, AV.ls b1_2, bv b1_3] true false), BO.set (ABlk.mk [AV.ls b2_0, iv b2_1, AV.ls b2_2, bv b2_3] true false), BO.set (ABlk.mk [iv b3_0, AV.ls b3_1, AV.ls b3_2, iv b3_3, sv b3_4, sv b3_5, AV.ls b3_6] true false)]))) := by kernel_rfl

theorem e166 (A : Ar) (D : Orc) (x0_0 : List (List AV)) (x0_1 : Int) (x0_2 : List (List AV)) (x0_3 : Bool) (x1 : Int) : fnK A D ownC hn166 (.b (.b .n (.b .n (.b (.b (.b (.b (.b .n (.b (.b .n (.b .n (.b .n (.b .n (.b .n (.b .n (.b .n (.b .n (.b (.b (.b (.b (.b (.b (.b (.b .n (.b (.b .n (.b .n (.t .n))) .n)) .n) .n) .n) .n) (.b .n (.b .n (.b .n (.b .n (.b .n (.b .n (.f .n)))))))) .n) .n))))))))) .n)) .n) .n) .n) .n))) (.b (.b (.b (.b .n (.b (.b (.b (.b .n (.b (.b .n (.b .n (.b .n (.b .n (.b .n (.b .n (.b .n (.b .n (.b (.b (.b (.b (.b (.b (.b (.b .n (.b (.b .n (.b .n (.t .n))) .n)) .n) .n) .n) .n) (.b .n (.b .n (.b .n (.b .n (.b .n (.b .n (.f .n)))))))) .n) .n))))))))) .n)) .n) .n) .n)) (.b .n (.b .n (.b .n (.b .n (.b .n (.b .n (.b .n (.b .n (.b .n (.b .n (.b .n (.b .n (.b .n (.b (.b (.b (.b (.b (.b (.b (.b .n (.b (.b .n (.b .n (.t .n))) .n)) .n) .n) .n) .n) (.b .n (.b .n (.b .n (.b .n (.b .n (.b .n (.f .n)))))))) .n) .n))))))))))))))) .n) .n)) 166 mf166 [AV.agg [AV.ls x0_0, iv x0_1, AV.ls x0_2, bv x0_3], iv x1] [] =
 askK D (Key.fn 99) [AV.agg [AV.ls x0_0, iv x0_1, AV.ls x0_2, bv x0_3], sv (bstr [33])] [] fun r o =>
 unBool r fun b =>
 unEnd o <|
 br b
 (br (A.eq x1 60)
 (some ((AV.tup [AV.agg [AV.ls x0_0, iv x0_1, AV.ls x0_2, bv x0_3], AV.agg [iv 0, AV.ls [], AV.ls [], iv 0, sv (bstr []), sv (bstr []), AV.ls []], iv 102], [])))
 (askK D (Key.fn 99) [AV.agg [AV.ls x0_0, iv x0_1, AV.ls x0_2, bv x0_3], sv (bstr [116, 114, 117, 101])] [] fun r1 o1 =>
 unBool r1 fun b1 =>
 unEnd o1 <|
 br b1
 (askK D (Key.fn 100) [AV.agg [AV.ls x0_0, iv x0_1, AV.ls x0_2, bv x0_3]] [] fun r2 o2 =>
 unAgg r2 fun cs =>
 cLs cs fun xs l =>
 cInt IntKind.i64 l fun n l1 =>
 cLs l1 fun xs1 l2 =>
 cBool l2 fun b2 l3 =>
 unNil l3 <|
 unEnd o2 <|
 some ((AV.tup [AV.agg [AV.ls xs, iv n, AV.ls xs1, bv b2], AV.agg [iv 0, AV.ls [], AV.ls [], iv 0, sv (bstr []), sv (bstr []), AV.ls []], iv 0], [])))
 (askK D (Key.fn 99) [AV.agg [AV.ls x0_0, iv x0_1, AV.ls x0_2, bv x0_3], sv (bstr [102, 97, 108, 115, 101])] [] fun r2 o2 =>
 unBool r2 fun b2 =>
 unEnd o2 <|
 br b2
 (askK D (Key.fn 100) [AV.agg [AV.ls x0_0, iv x0_1, AV.ls x0_2, bv x0_3]] [] fun r3 o3 =>
 unAgg r3 fun cs =>
 cLs cs fun xs l =>
 cInt IntKind.i64 l fun n l1 =>
 cLs l1 fun xs1 l2 =>
 cBool l2 fun b3 l3 =>
 unNil l3 <|
 unEnd o3 <|
 some ((AV.tup [AV.agg [AV.ls xs, iv n, AV.ls xs1, bv b3], AV.agg [iv 1, AV.ls [], AV.ls [], iv 0, sv (bstr []), sv (bstr []), AV.ls []], iv 0], [])))
 (askK D (Key.fn 99) [AV.agg [AV.ls x0_0, iv x0_1, AV.ls x0_2, bv x0_3], sv (bstr [33])] [] fun r3 o3 =>
 unBool r3 fun b3 =>
 unEnd o3 <|
 br b3
 (askK D (Key.fn 100) [AV.agg [AV.ls x0_0, iv x0_1, AV.ls x0_2, bv x0_3]] [] fun r4 o4 =>
 unAgg r4 fun cs =>
 cLs cs fun xs l =>
 cInt IntKind.i64 l fun n l1 =>
 cLs l1 fun xs1 l2 =>
 cBool l2 fun b4 l3 =>
 unNil l3 <|
 unEnd o4 <|
 askK D (Key.fn 166) [AV.agg [AV.ls xs, iv n, AV.ls xs1, bv b4], iv (A.add IntKind.i64 x1 1)] [] fun r5 o5 =>
 unTup r5 fun cs1 =>
 unCons cs1 fun c l4 =>
 unAgg c fun cs2 =>
 cLs cs2 fun xs2 l5 =>
 cInt IntKind.i64 l5 fun n1 l6 =>
 cLs l6 fun xs3 l7 =>
 cBool l7 fun b5 l8 =>
 unNil l8 <|
 unCons l4 fun c1 l9 =>
 unAgg c1 fun cs3 =>
 cInt IntKind.i64 cs3 fun n2 l10 =>
 cLs l10 fun xs4 l11 =>
 cLs l11 fun xs5 l12 =>
 cInt IntKind.i64 l12 fun n3 l13 =>
 cStr l13 fun s l14 =>
 cStr l14 fun s1 l15 =>
 cLs l15 fun xs6 l16 =>
 unNil l16 <|
 cInt IntKind.i64 l9 fun n4 l17 =>
 unNil l17 <|
 unEnd o5 <|
 br (A.eq n4 0)
 (some ((AV.tup [AV.agg [AV.ls xs2, iv n1, AV.ls xs3, bv b5], AV.agg [iv 3, AV.ls [], AV.ls [], iv 0, sv (bstr []), sv (bstr []), AV.ls [[iv n2, AV.ls xs4, AV.ls xs5, iv n3, sv s, sv s1, AV.ls xs6]]], iv 0], [])))
 (some ((AV.tup [AV.agg [AV.ls xs2, iv n1, AV.ls xs3, bv b5], AV.agg [iv 0, AV.ls [], AV.ls [], iv 0, sv (bstr []), sv (bstr []), AV.ls []], iv n4], []))))
 (askK D (Key.fn 99) [AV.agg [AV.ls x0_0, iv x0_1, AV.ls x0_2, bv x0_3], sv (bstr [40])] [] fun r4 o4 =>
 unBool r4 fun b4 =>
 unEnd o4 <|
 br b4
 (askK D (Key.fn 100) [AV.agg [AV.ls x0_0, iv x0_1, AV.ls x0_2, bv x0_3]] [] fun r5 o5 =>
 unAgg r5 fun cs =>
 cLs cs fun xs l =>
 cInt IntKind.i64 l fun n l1 =>
 cLs l1 fun xs1 l2 =>
 cBool l2 fun b5 l3 =>
 unNil l3 <|
 unEnd o5 <|
 askK D (Key.fn 55) [AV.agg [AV.ls xs, iv n, AV.ls xs1, bv b5], iv (A.add IntKind.i64 x1 1)] [] fun r6 o6 =>
 unTup r6 fun cs1 =>
 unCons cs1 fun c l4 =>
 unAgg c fun cs2 =>
 cLs cs2 fun xs2 l5 =>
 cInt IntKind.i64 l5 fun n1 l6 =>
 cLs l6 fun xs3 l7 =>
 cBool l7 fun b6 l8 =>
 unNil l8 <|
 unCons l4 fun c1 l9 =>
 unAgg c1 fun cs3 =>
 cInt IntKind.i64 cs3 fun n2 l10 =>
 cLs l10 fun xs4 l11 =>
 cLs l11 fun xs5 l12 =>
 cInt IntKind.i64 l12 fun n3 l13 =>
 cStr l13 fun s l14 =>
 cStr l14 fun s1 l15 =>
 cLs l15 fun xs6 l16 =>
 unNil l16 <|
 cInt IntKind.i64 l9 fun n4 l17 =>
 unNil l17 <|
 unEnd o6 <|
 br (A.eq n4 0)
 (askK D (Key.fn 99) [AV.agg [AV.ls xs2, iv n1, AV.ls xs3, bv b6], sv (bstr [41])] [] fun r7 o7 =>
 unBool r7 fun b7 =>
 unEnd o7 <|
 br b7
 (br (A.eq n4 0) (askK D (Key.fn 100) [AV.agg [AV.ls xs2, iv n1, AV.ls xs3, bv b6]] [] fun r8 o8 =>
 unAgg r8 fun cs4 =>
 cLs cs4 fun xs7 l18 =>
 cInt IntKind.i64 l18 fun n5 l19 =>
 cLs l19 fun xs8 l20 =>
 cBool l20 fun b8 l21 =>
 unNil l21 <|
 unEnd o8 <|
 some ((AV.tup [AV.agg [AV.ls xs7, iv n5, AV.ls xs8, bv b8], AV.agg [iv n2, AV.ls xs4, AV.ls xs5, iv n3, sv s, sv s1, AV.ls xs6], iv 0], []))) none)
 (br (A.eq 101 0)
 (askK D (Key.fn 100) [AV.agg [AV.ls xs2, iv n1, AV.ls xs3, bv b6]] [] fun r8 o8 =>
 unAgg r8 fun cs4 =>
 cLs cs4 fun xs7 l18 =>
 cInt IntKind.i64 l18 fun n5 l19 =>
 cLs l19 fun xs8 l20 =>
 cBool l20 fun b8 l21 =>
 unNil l21 <|
 unEnd o8 <|
 some ((AV.tup [AV.agg [AV.ls xs7, iv n5, AV.ls xs8, bv b8], AV.agg [iv n2, AV.ls xs4, AV.ls xs5, iv n3, sv s, sv s1, AV.ls xs6], iv 0], [])))
 (some ((AV.tup [AV.agg [AV.ls xs2, iv n1, AV.ls xs3, bv b6], AV.agg [iv 0, AV.ls [], AV.ls [], iv 0, sv (bstr []), sv (bstr []), AV.ls []], iv 101], [])))))
 (br (A.eq n4 0) none (some ((AV.tup [AV.agg [AV.ls xs2, iv n1, AV.ls xs3, bv b6], AV.agg [iv 0, AV.ls [], AV.ls [], iv 0, sv (bstr []), sv (bstr []), AV.ls []], iv n4], [])))))
 (askK D (Key.fn 221) [AV.agg [AV.ls x0_0, iv x0_1, AV.ls x0_2, bv x0_3]] [] fun r5 o5 =>
 unTup r5 fun cs =>
 unCons cs fun c l =>
 unAgg c fun cs1 =>
 cLs cs1 fun xs l1 =>
 cInt IntKind.i64 l1 fun n l2 =>
 cLs l2 fun xs1 l3 =>
 cBool l3 fun b5 l4 =>
 unNil l4 <|
 unCons l fun c1 l5 =>
 unAgg c1 fun cs2 =>
 cInt IntKind.i64 cs2 fun n1 l6 =>
 cLs l6 fun xs2 l7 =>
 cLs l7 fun xs3 l8 =>
 cInt IntKind.i64 l8 fun n2 l9 =>
 cStr l9 fun s l10 =>
 cStr l10 fun s1 l11 =>
 cLs l11 fun xs4 l12 =>
 unNil l12 <|
 cInt IntKind.i64 l5 fun n3 l13 =>
 unNil l13 <|
 unEnd o5 <|
 some ((AV.tup [AV.agg [AV.ls xs, iv n, AV.ls xs1, bv b5], AV.agg [iv n1, AV.ls xs2, AV.ls xs3, iv n2, sv s, sv s1, AV.ls xs4], iv n3], []))))))))
 (askK D (Key.fn 99) [AV.agg [AV.ls x0_0, iv x0_1, AV.ls x0_2, bv x0_3], sv (bstr [40])] [] fun r1 o1 =>
 unBool r1 fun b1 =>
 unEnd o1 <|
 br b1
 (br (A.eq x1 60)
 (some ((AV.tup [AV.agg [AV.ls x0_0, iv x0_1, AV.ls x0_2, bv x0_3], AV.agg [iv 0, AV.ls [], AV.ls [], iv 0, sv (bstr []), sv (bstr []), AV.ls []], iv 102], [])))
 (askK D (Key.fn 99) [AV.agg [AV.ls x0_0, iv x0_1, AV.ls x0_2, bv x0_3], sv (bstr [116, 114, 117, 101])] [] fun r2 o2 =>
 unBool r2 fun b2 =>
 unEnd o2 <|
 br b2
 (askK D (Key.fn 100) [AV.agg [AV.ls x0_0, iv x0_1, AV.ls x0_2, bv x0_3]] [] fun r3 o3 =>
 unAgg r3 fun cs =>
 cLs cs fun xs l =>
 cInt IntKind.i64 l fun n l1 =>
 cLs l1 fun xs1 l2 =>
 cBool l2 fun b3 l3 =>
 unNil l3 <|
 unEnd o3 <|
 some ((AV.tup [AV.agg [AV.ls xs, iv n, AV.ls xs1, bv b3], AV.agg [iv 0, AV.ls [], AV.ls [], iv 0, sv (bstr []), sv (bstr []), AV.ls []], iv 0], [])))
 (askK D (Key.fn 99) [AV.agg [AV.ls x0_0, iv x0_1, AV.ls x0_2, bv x0_3], sv (bstr [102, 97, 108, 115, 101])] [] fun r3 o3 =>
 unBool r3 fun b3 =>
 unEnd o3 <|
 br b3
 (askK D (Key.fn 100) [AV.agg [AV.ls x0_0, iv x0_1, AV.ls x0_2, bv x0_3]] [] fun r4 o4 =>
 unAgg r4 fun cs =>
 cLs cs fun xs l =>
 cInt IntKind.i64 l fun n l1 =>
 cLs l1 fun xs1 l2 =>
 cBool l2 fun b4 l3 =>
 unNil l3 <|
 unEnd o4 <|
 some ((AV.tup [AV.agg [AV.ls xs, iv n, AV.ls xs1, bv b4], AV.agg [iv 1, AV.ls [], AV.ls [], iv 0, sv (bstr []), sv (bstr []), AV.ls []], iv 0], [])))
 (askK D (Key.fn 99) [AV.agg [AV.ls x0_0, iv x0_1, AV.ls x0_2, bv x0_3], sv (bstr [33])] [] fun r4 o4 =>
 unBool r4 fun b4 =>
 unEnd o4 <|
 br b4
 (askK D (Key.fn 100) [AV.agg [AV.ls x0_0, iv x0_1, AV.ls x0_2, bv x0_3]] [] fun r5 o5 =>
 unAgg r5 fun cs =>
 cLs cs fun xs l =>
 cInt IntKind.i64 l fun n l1 =>
 cLs l1 fun xs1 l2 =>
 cBool l2 fun b5 l3 =>
 unNil l3 <|
 unEnd o5 <|
 askK D (Key.fn 166) [AV.agg [AV.ls xs, iv n, AV.ls xs1, bv b5], iv (A.add IntKind.i64 x1 1)] [] fun r6 o6 =>
 unTup r6 fun cs1 =>
 unCons cs1 fun c l4 =>
 unAgg c fun cs2 =>
 cLs cs2 fun xs2 l5 =>
 cInt IntKind.i64 l5 fun n1 l6 =>
 cLs l6 fun xs3 l7 =>
 cBool l7 fun b6 l8 =>
 unNil l8 <|
 unCons l4 fun c1 l9 =>
 unAgg c1 fun cs3 =>
 cInt IntKind.i64 cs3 fun n2 l10 =>
 cLs l10 fun xs4 l11 =>
 cLs l11 fun xs5 l12 =>
 cInt IntKind.i64 l12 fun n3 l13 =>
 cStr l13 fun s l14 =>
 cStr l14 fun s1 l15 =>
 cLs l15 fun xs6 l16 =>
 unNil l16 <|
 cInt IntKind.i64 l9 fun n4 l17 =>
 unNil l17 <|
 unEnd o6 <|
 br (A.eq n4 0)
 (some ((AV.tup [AV.agg [AV.ls xs2, iv n1, AV.ls xs3, bv b6], AV.agg [iv 3, AV.ls [], AV.ls [], iv 0, sv (bstr []), sv (bstr []), AV.ls [[iv n2, AV.ls xs4, AV.ls xs5, iv n3, sv s, sv s1, AV.ls xs6]]], iv 0], [])))
 (some ((AV.tup [AV.agg [AV.ls xs2, iv n1, AV.ls xs3, bv b6], AV.agg [iv 0, AV.ls [], AV.ls [], iv 0, sv (bstr []), sv (bstr []), AV.ls []], iv n4], []))))
 (askK D (Key.fn 99) [AV.agg [AV.ls x0_0, iv x0_1, AV.ls x0_2, bv x0_3], sv (bstr [40])] [] fun r5 o5 =>
 unBool r5 fun b5 =>
 unEnd o5 <|
 br b5
 (askK D (Key.fn 100) [AV.agg [AV.ls x0_0, iv x0_1, AV.ls x0_2, bv x0_3]] [] fun r6 o6 =>
 unAgg r6 fun cs =>
 cLs cs fun xs l =>
 cInt IntKind.i64 l fun n l1 =>
 cLs l1 fun xs1 l2 =>
 cBool l2 fun b6 l3 =>
 unNil l3 <|
 unEnd o6 <|
 askK D (Key.fn 55) [AV.agg [AV.ls xs, iv n, AV.ls xs1, bv b6], iv (A.add IntKind.i64 x1 1)] [] fun r7 o7 =>
 unTup r7 fun cs1 =>
 unCons cs1 fun c l4 =>
 unAgg c fun cs2 =>
 cLs cs2 fun xs2 l5 =>
 cInt IntKind.i64 l5 fun n1 l6 =>
 cLs l6 fun xs3 l7 =>
 cBool l7 fun b7 l8 =>
 unNil l8 <|
 unCons l4 fun c1 l9 =>
 unAgg c1 fun cs3 =>
 cInt IntKind.i64 cs3 fun n2 l10 =>
 cLs l10 fun xs4 l11 =>
 cLs l11 fun xs5 l12 =>
 cInt IntKind.i64 l12 fun n3 l13 =>
 cStr l13 fun s l14 =>
 cStr l14 fun s1 l15 =>
 cLs l15 fun xs6 l16 =>
 unNil l16 <|
 cInt IntKind.i64 l9 fun n4 l17 =>
 unNil l17 <|
 unEnd o7 <|
 br (A.eq n4 0)
 (askK D (Key.fn 99) [AV.agg [AV.ls xs2, iv n1, AV.ls xs3, bv b7], sv (bstr [41])] [] fun r8 o8 =>
 unBool r8 fun b8 =>
 unEnd o8 <|
 br b8
 (br (A.eq n4 0) (askK D (Key.fn 100) [AV.agg [AV.ls xs2, iv n1, AV.ls xs3, bv b7]] [] fun r9 o9 =>
 unAgg r9 fun cs4 =>
 cLs cs4 fun xs7 l18 =>
 cInt IntKind.i64 l18 fun n5 l19 =>
 cLs l19 fun xs8 l20 =>
 cBool l20 fun b9 l21 =>
 unNil l21 <|
 unEnd o9 <|
 some ((AV.tup [AV.agg [AV.ls xs7, iv n5, AV.ls xs8, bv b9], AV.agg [iv n2, AV.ls xs4, AV.ls xs5, iv n3, sv s, sv s1, AV.ls xs6], iv 0], []))) none)
 (br (A.eq 101 0)
 (askK D (Key.fn 100) [AV.agg [AV.ls xs2, iv n1, AV.ls xs3, bv b7]] [] fun r9 o9 =>
 unAgg r9 fun cs4 =>
 cLs cs4 fun xs7 l18 =>
 cInt IntKind.i64 l18 fun n5 l19 =>
 cLs l19 fun xs8 l20 =>
 cBool l20 fun b9 l21 =>
 unNil l21 <|
 unEnd o9 <|
 some ((AV.tup [AV.agg [AV.ls xs7, iv n5, AV.ls xs8, bv b9], AV.agg [iv n2, AV.ls xs4, AV.ls xs5, iv n3, sv s, sv s1, AV.ls xs6], iv 0], [])))
 (some ((AV.tup [AV.agg [AV.ls xs2, iv n1, AV.ls xs3, bv b7], AV.agg [iv 0, AV.ls [], AV.ls [], iv 0, sv (bstr []), sv (bstr []), AV.ls []], iv 101], [])))))
 (br (A.eq n4 0) none (some ((AV.tup [AV.agg [AV.ls xs2, iv n1, AV.ls xs3, bv b7], AV.agg [iv 0, AV.ls [], AV.ls [], iv 0, sv (bstr []), sv (bstr []), AV.ls []], iv n4], [])))))
 (askK D (Key.fn 221) [AV.agg [AV.ls x0_0, iv x0_1, AV.ls x0_2, bv x0_3]] [] fun r6 o6 =>
 unTup r6 fun cs =>
 unCons cs fun c l =>
 unAgg c fun cs1 =>
 cLs cs1 fun xs l1 =>
 cInt IntKind.i64 l1 fun n l2 =>
 cLs l2 fun xs1 l3 =>
 cBool l3 fun b6 l4 =>
 unNil l4 <|
 unCons l fun c1 l5 =>
 unAgg c1 fun cs2 =>
 cInt IntKind.i64 cs2 fun n1 l6 =>
 cLs l6 fun xs2 l7 =>
 cLs l7 fun xs3 l8 =>
 cInt IntKind.i64 l8 fun n2 l9 =>
 cStr l9 fun s l10 =>
 cStr l10 fun s1 l11 =>
 cLs l11 fun xs4 l12 =>
 unNil l12 <|
 cInt IntKind.i64 l5 fun n3 l13 =>
 unNil l13 <|
 unEnd o6 <|
 some ((AV.tup [AV.agg [AV.ls xs, iv n, AV.ls xs1, bv b6], AV.agg [iv n1, AV.ls xs2, AV.ls xs3, iv n2, sv s, sv s1, AV.ls xs4], iv n3], []))))))))
 (askK D (Key.fn 99) [AV.agg [AV.ls x0_0, iv x0_1, AV.ls x0_2, bv x0_3], sv (bstr [116, 114, 117, 101])] [] fun r2 o2 =>
 unBool r2 fun b2 =>
 unEnd o2 <|
 br b2
 (askK D (Key.fn 100) [AV.agg [AV.ls x0_0, iv x0_1, AV.ls x0_2, bv x0_3]] [] fun r3 o3 =>
 unAgg r3 fun cs =>
 cLs cs fun xs l =>
 cInt IntKind.i64 l fun n l1 =>
 cLs l1 fun xs1 l2 =>
 cBool l2 fun b3 l3 =>
 unNil l3 <|
 unEnd o3 <|
 some ((AV.tup [AV.agg [AV.ls xs, iv n, AV.ls xs1, bv b3], AV.agg [iv 0, AV.ls [], AV.ls [], iv 0, sv (bstr []), sv (bstr []), AV.ls []], iv 0], [])))
 (askK D (Key.fn 99) [AV.agg [AV.ls x0_0, iv x0_1, AV.ls x0_2, bv x0_3], sv (bstr [102, 97, 108, 115, 101])] [] fun r3 o3 =>
 unBool r3 fun b3 =>
 unEnd o3 <|
 br b3
 (askK D (Key.fn 100) [AV.agg [AV.ls x0_0, iv x0_1, AV.ls x0_2, bv x0_3]] [] fun r4 o4 =>
 unAgg r4 fun cs =>
 cLs cs fun xs l =>
 cInt IntKind.i64 l fun n l1 =>
 cLs l1 fun xs1 l2 =>
 cBool l2 fun b4 l3 =>
 unNil l3 <|
 unEnd o4 <|
 some ((AV.tup [AV.agg [AV.ls xs, iv n, AV.ls xs1, bv b4], AV.agg [iv 1, AV.ls [], AV.ls [], iv 0, sv (bstr []), sv (bstr []), AV.ls []], iv 0], [])))
 (askK D (Key.fn 99) [AV.agg [AV.ls x0_0, iv x0_1, AV.ls x0_2, bv x0_3], sv (bstr [33])] [] fun r4 o4 =>
 unBool r4 fun b4 =>
 unEnd o4 <|
 br b4
 (askK D (Key.fn 100) [AV.agg [AV.ls x0_0, iv x0_1, AV.ls x0_2, bv x0_3]] [] fun r5 o5 =>
 unAgg r5 fun cs =>
 cLs cs fun xs l =>
 cInt IntKind.i64 l fun n l1 =>
 cLs l1 fun xs1 l2 =>
 cBool l2 fun b5 l3 =>
 unNil l3 <|
 unEnd o5 <|
 askK D (Key.fn 166) [AV.agg [AV.ls xs, iv n, AV.ls xs1, bv b5], iv (A.add IntKind.i64 x1 1)] [] fun r6 o6 =>
 unTup r6 fun cs1 =>
 unCons cs1 fun c l4 =>
 unAgg c fun cs2 =>
 cLs cs2 fun xs2 l5 =>
 cInt IntKind.i64 l5 fun n1 l6 =>
 cLs l6 fun xs3 l7 =>
 cBool l7 fun b6 l8 =>
 unNil l8 <|
 unCons l4 fun c1 l9 =>
 unAgg c1 fun cs3 =>
 cInt IntKind.i64 cs3 fun n2 l10 =>
 cLs l10 fun xs4 l11 =>
 cLs l11 fun xs5 l12 =>
 cInt IntKind.i64 l12 fun n3 l13 =>
 cStr l13 fun s l14 =>
 cStr l14 fun s1 l15 =>
 cLs l15 fun xs6 l16 =>
 unNil l16 <|
 cInt IntKind.i64 l9 fun n4 l17 =>
 unNil l17 <|
 unEnd o6 <|
 br (A.eq n4 0)
 (some ((AV.tup [AV.agg [AV.ls xs2, iv n1, AV.ls xs3, bv b6], AV.agg [iv 3, AV.ls [], AV.ls [], iv 0, sv (bstr []), sv (bstr []), AV.ls [[iv n2, AV.ls xs4, AV.ls xs5, iv n3, sv s, sv s1, AV.ls xs6]]], iv 0], [])))
 (some ((AV.tup [AV.agg [AV.ls xs2, iv n1, AV.ls xs3, bv b6], AV.agg [iv 0, AV.ls [], AV.ls [], iv 0, sv (bstr []), sv (bstr []), AV.ls []], iv n4], []))))
 (askK D (Key.fn 99) [AV.agg [AV.ls x0_0, iv x0_1, AV.ls x0_2, bv x0_3], sv (bstr [40])] [] fun r5 o5 =>
 unBool r5 fun b5 =>
 unEnd o5 <|
 br b5
 (askK D (Key.fn 100) [AV.agg [AV.ls x0_0, iv x0_1, AV.ls x0_2, bv x0_3]] [] fun r6 o6 =>
 unAgg r6 fun cs =>
 cLs cs fun xs l =>
 cInt IntKind.i64 l fun n l1 =>
 cLs l1 fun xs1 l2 =>
 cBool l2 fun b6 l3 =>
 unNil l3 <|
 unEnd o6 <|
 askK D (Key.fn 55) [AV.agg [AV.ls xs, iv n, AV.ls xs1, bv b6], iv (A.add IntKind.i64 x1 1)] [] fun r7 o7 =>
 unTup r7 fun cs1 =>
 unCons cs1 fun c l4 =>
 unAgg c fun cs2 =>
 cLs cs2 fun xs2 l5 =>
 cInt IntKind.i64 l5 fun n1 l6 =>
 cLs l6 fun xs3 l7 =>
 cBool l7 fun b7 l8 =>
 unNil l8 <|
 unCons l4 fun c1 l9 =>
 unAgg c1 fun cs3 =>
 cInt IntKind.i64 cs3 fun n2 l10 =>
 cLs l10 fun xs4 l11 =>
 cLs l11 fun xs5 l12 =>
 cInt IntKind.i64 l12 fun n3 l13 =>
 cStr l13 fun s l14 =>
 cStr l14 fun s1 l15 =>
 cLs l15 fun xs6 l16 =>
 unNil l16 <|
 cInt IntKind.i64 l9 fun n4 l17 =>
 unNil l17 <|
 unEnd o7 <|
 br (A.eq n4 0)
 (askK D (Key.fn 99) [AV.agg [AV.ls xs2, iv n1, AV.ls xs3, bv b7], sv (bstr [41])] [] fun r8 o8 =>
 unBool r8 fun b8 =>
 unEnd o8 <|
 br b8
 (br (A.eq n4 0) (askK D (Key.fn 100) [AV.agg [AV.ls xs2, iv n1, AV.ls xs3, bv b7]] [] fun r9 o9 =>
 unAgg r9 fun cs4 =>
 cLs cs4 fun xs7 l18 =>
 cInt IntKind.i64 l18 fun n5 l19 =>
 cLs l19 fun xs8 l20 =>
 cBool l20 fun b9 l21 =>
 unNil l21 <|
 unEnd o9 <|
 some ((AV.tup [AV.agg [AV.ls xs7, iv n5, AV.ls xs8, bv b9], AV.agg [iv n2, AV.ls xs4, AV.ls xs5, iv n3, sv s, sv s1, AV.ls xs6], iv 0], []))) none)
 (br (A.eq 101 0)
 (askK D (Key.fn 100) [AV.agg [AV.ls xs2, iv n1, AV.ls xs3, bv b7]] [] fun r9 o9 =>
 unAgg r9 fun cs4 =>
 cLs cs4 fun xs7 l18 =>
 cInt IntKind.i64 l18 fun n5 l19 =>
 cLs l19 fun xs8 l20 =>
 cBool l20 fun b9 l21 =>
 unNil l21 <|
 unEnd o9 <|
 some ((AV.tup [AV.agg [AV.ls xs7, iv n5, AV.ls xs8, bv b9], AV.agg [iv n2, AV.ls xs4, AV.ls xs5, iv n3, sv s, sv s1, AV.ls xs6], iv 0], [])))
 (some ((AV.tup [AV.agg [AV.ls xs2, iv n1, AV.ls xs3, bv b7], AV.agg [iv 0, AV.ls [], AV.ls [], iv 0, sv (bstr []), sv (bstr []), AV.ls []], iv 101], [])))))
 (br (A.eq n4 0) none (some ((AV.tup [AV.agg [AV.ls xs2, iv n1, AV.ls xs3, bv b7], AV.agg [iv 0, AV.ls [], AV.ls [], iv 0, sv (bstr []), sv (bstr []), AV.ls []], iv n4], [])))))
 (askK D (Key.fn 221) [AV.agg [AV.ls x0_0, iv x0_1, AV.ls x0_2, bv x0_3]] [] fun r6 o6 =>
 unTup r6 fun cs =>
 unCons cs fun c l =>
 unAgg c fun cs1 =>
 cLs cs1 fun xs l1 =>
 cInt IntKind.i64 l1 fun n l2 =>
 cLs l2 fun xs1 l3 =>
 cBool l3 fun b6 l4 =>
 unNil l4 <|
 unCons l fun c1 l5 =>
 unAgg c1 fun cs2 =>
 cInt IntKind.i64 cs2 fun n1 l6 =>
 cLs l6 fun xs2 l7 =>
 cLs l7 fun xs3 l8 =>
 cInt IntKind.i64 l8 fun n2 l9 =>
 cStr l9 fun s l10 =>
 cStr l10 fun s1 l11 =>
 cLs l11 fun xs4 l12 =>
 unNil l12 <|
 cInt IntKind.i64 l5 fun n3 l13 =>
 unNil l13 <|
 unEnd o6 <|
 some ((AV.tup [AV.agg [AV.ls xs, iv n, AV.ls xs1, bv b6], AV.agg [iv n1, AV.ls xs2, AV.ls xs3, iv n2, sv s, sv s1, AV.ls xs4], iv n3], [])))))))) := by kernel_rfl

theorem e105 (A : Ar) (D : Orc) (x0_0 : List (List AV)) (x0_1 : Int) (x0_2 : List (List AV)) (x0_3 : Bool) (x1 : Int) : fnK A D ownC hn105 .n 105 mf105 [AV.agg [AV.ls x0_0, iv x0_1, AV.ls x0_2, bv x0_3], iv x1] [] =
 askK D (Key.fn 166) [AV.agg [AV.ls x0_0, iv x0_1, AV.ls x0_2, bv x0_3], iv x1] [] fun r o =>
 unTup r fun cs =>
 unCons cs fun c l =>
 unAgg c fun cs1 =>
 cLs cs1 fun xs l1 =>
 cInt IntKind.i64 l1 fun n l2 =>
 cLs l2 fun xs1 l3 =>
 cBool l3 fun b l4 =>
 unNil l4 <|
 unCons l fun c1 l5 =>
 unAgg c1 fun cs2 =>
 cInt IntKind.i64 cs2 fun n1 l6 =>
 cLs l6 fun xs2 l7 =>
 cLs l7 fun xs3 l8 =>
 cInt IntKind.i64 l8 fun n2 l9 =>
 cStr l9 fun s l10 =>
 cStr l10 fun s1 l11 =>
 cLs l11 fun xs4 l12 =>
 unNil l12 <|
 cInt IntKind.i64 l5 fun n3 l13 =>
 unNil l13 <|
 unEnd o <|
 askK D (Key.lp 105 0) [iv x1, AV.ptr 0 0, AV.ptr 1 0, AV.ptr 2 0, AV.ptr 3 0, iv n3] [ABlk.mk [AV.ls xs, iv n, AV.ls xs1, bv b] true false, ABlk.mk [AV.ls [], iv 0, AV.ls [], bv false] true false, ABlk.mk [iv 0, AV.ls [], AV.ls [], iv 0, sv (bstr []), sv (bstr []), AV.ls []] true false, ABlk.mk [iv n1, AV.ls xs2, AV.ls xs3, iv n2, sv s, sv s1, AV.ls xs4] true false] fun r1 o1 =>
 unTup r1 fun cs3 =>
 unCons cs3 fun c2 l14 =>
 br (axIs 1 c2)
 (unCons l14 fun c3 l15 =>
 unPtr 0 0 c3 <|
 unCons l15 fun c4 l16 =>
 unPtr 1 0 c4 <|
 unCons l16 fun c5 l17 =>
 unPtr 2 0 c5 <|
 unCons l17 fun c6 l18 =>
 unPtr 3 0 c6 <|
 cInt IntKind.i64 l18 fun n4 l19 =>
 unNil l19 <|
 unOut o1 fun c7 l20 =>
 unSet true false c7 fun cs4 =>
 cLs cs4 fun xs5 l21 =>
 cInt IntKind.i64 l21 fun n5 l22 =>
 cLs l22 fun xs6 l23 =>
 cBool l23 fun b1 l24 =>
 unNil l24 <|
 unOut l20 fun c8 l25 =>
 unSet true false c8 fun cs5 =>
 cLs cs5 fun _ l26 =>
 cInt IntKind.i64 l26 fun _ l27 =>
 cLs l27 fun _ l28 =>
 cBool l28 fun _ l29 =>
 unNil l29 <|
 unOut l25 fun c9 l30 =>
 unSet true false c9 fun cs6 =>
 cInt IntKind.i64 cs6 fun _ l31 =>
 cLs l31 fun _ l32 =>
 cLs l32 fun _ l33 =>
 cInt IntKind.i64 l33 fun _ l34 =>
 cStr l34 fun _ l35 =>
 cStr l35 fun _ l36 =>
 cLs l36 fun _ l37 =>
 unNil l37 <|
 unOut l30 fun c10 l38 =>
 unSet true false c10 fun cs7 =>
 cInt IntKind.i64 cs7 fun n9 l39 =>
 cLs l39 fun xs12 l40 =>
 cLs l40 fun xs13 l41 =>
 cInt IntKind.i64 l41 fun n10 l42 =>
 cStr l42 fun s4 l43 =>
 cStr l43 fun s5 l44 =>
 cLs l44 fun xs14 l45 =>
 unNil l45 <|
 unEnd l38 <|
 br (A.eq n4 0)
 (some ((AV.tup [AV.agg [AV.ls xs5, iv n5, AV.ls xs6, bv b1], AV.agg [iv n9, AV.ls xs12, AV.ls xs13, iv n10, sv s4, sv s5, AV.ls xs14], iv 0], [])))
 (some ((AV.tup [AV.agg [AV.ls xs5, iv n5, AV.ls xs6, bv b1], AV.agg [iv 0, AV.ls [], AV.ls [], iv 0, sv (bstr []), sv (bstr []), AV.ls []], iv n4], []))))
 (none) := by kernel_rfl

theorem e105_0 (A : Ar) (D : Orc) (t1 : Int) (b2_0 : List (List AV)) (b2_1 : Int) (b2_2 : List (List AV)) (b2_3 : Bool) (b4_0 : List (List AV)) (b4_1 : Int) (b4_2 : List (List AV)) (b4_3 : Bool) (b5_0 : Int) (b5_1 : List (List AV)) (b5_2 : List (List AV)) (b5_3 : Int) (b5_4 : ByteArray) (b5_5 : ByteArray) (b5_6 : List (List AV)) (b7_0 : Int) (b7_1 : List (List AV)) (b7_2 : List (List AV)) (b7_3 : Int) (b7_4 : ByteArray) (b7_5 : ByteArray) (b7_6 : List (List AV)) (t8 : Int) : lpK A D ownC hn105 .n 105 0 (lpAt mf105 0).fst (lpAt mf105 0).snd [iv t1, AV.ptr 0 0, AV.ptr 1 0, AV.ptr 2 0, AV.ptr 3 0, iv t8] [{ cells := [AV.ls b2_0, iv b2_1, AV.ls b2_2, bv b2_3], st := true, ex := false }, { cells := [AV.ls b4_0, iv b4_1, AV.ls b4_2, bv b4_3], st := true, ex := false }, { cells := [iv b5_0, AV.ls b5_1, AV.ls b5_2, iv b5_3, sv b5_4, sv b5_5, AV.ls b5_6], st := true, ex := false }, { cells := [iv b7_0, AV.ls b7_1, AV.ls b7_2, iv b7_3, sv b7_4, sv b7_5, AV.ls b7_6], st := true, ex := false }] =
 br (A.eq t8 0)
 (askK D (Key.fn 99) [AV.agg [AV.ls b2_0, iv b2_1, AV.ls b2_2, bv b2_3], sv (bstr [38])] [] fun r o =>
 unBool r fun b =>
 unEnd o <|
 br b
 (askK D (Key.fn 100) [AV.agg [AV.ls b2_0, iv b2_1, AV.ls b2_2, bv b2_3]] [] fun r1 o1 =>
 unAgg r1 fun cs =>
 cLs cs fun xs l =>
 cInt IntKind.i64 l fun n l1 =>
 cLs l1 fun xs1 l2 =>
 cBool l2 fun b1 l3 =>
 unNil l3 <|
 unEnd o1 <|
 askK D (Key.fn 166) [AV.agg [AV.ls xs, iv n, AV.ls xs1, bv b1], iv t1] [] fun r2 o2 =>
 unTup r2 fun cs1 =>
 unCons cs1 fun c l4 =>
 unAgg c fun cs2 =>
 cLs cs2 fun xs2 l5 =>
 cInt IntKind.i64 l5 fun n1 l6 =>
 cLs l6 fun xs3 l7 =>
 cBool l7 fun b2 l8 =>
 unNil l8 <|
 unCons l4 fun c1 l9 =>
 unAgg c1 fun cs3 =>
 cInt IntKind.i64 cs3 fun n2 l10 =>
 cLs l10 fun xs4 l11 =>
 cLs l11 fun xs5 l12 =>
 cInt IntKind.i64 l12 fun n3 l13 =>
 cStr l13 fun s l14 =>
 cStr l14 fun s1 l15 =>
 cLs l15 fun xs6 l16 =>
 unNil l16 <|
 cInt IntKind.i64 l9 fun n4 l17 =>
 unNil l17 <|
 unEnd o2 <|
 askK D (Key.lp 105 0) [iv t1, AV.ptr 0 0, AV.ptr 1 0, AV.ptr 2 0, AV.ptr 3 0, iv n4] [ABlk.mk [AV.ls xs2, iv n1, AV.ls xs3, bv b2] true false, ABlk.mk [AV.ls b4_0, iv b4_1, AV.ls b4_2, bv b4_3] true false, ABlk.mk [iv b5_0, AV.ls b5_1, AV.ls b5_2, iv b5_3, sv b5_4, sv b5_5, AV.ls b5_6] true false, ABlk.mk [iv 4, AV.ls [], AV.ls [], iv 0, sv (bstr []), sv (bstr []), AV.ls [[iv b7_0, AV.ls b7_1, AV.ls b7_2, iv b7_3, sv b7_4, sv b7_5, AV.ls b7_6], [iv n2, AV.ls xs4, AV.ls xs5, iv n3, sv s, sv s1, AV.ls xs6]]] true false] fun r3 o3 =>
 tailK 4 [0, 1, 2, 3] (AH.mk [(3, ABlk.mk [iv 4, AV.ls [], AV.ls [], iv 0, sv (bstr []), sv (bstr []), AV.ls [[iv b7_0, AV.ls b7_1, AV.ls b7_2, iv b7_3, sv b7_4, sv b7_5, AV.ls b7_6], [iv n2, AV.ls xs4, AV.ls xs5, iv n3, sv s, sv s1, AV.ls xs6]]] true false), (6, ABlk.mk [iv b7_0, AV.ls b7_1, AV.ls b7_2, iv b7_3, sv b7_4, sv b7_5, AV.ls b7_6, iv n2, AV.ls xs4, AV.ls xs5, iv n3, sv s, sv s1, AV.ls xs6] false true), (2, ABlk.mk [iv b5_0, AV.ls b5_1, AV.ls b5_2, iv b5_3, sv b5_4, sv b5_5, AV.ls b5_6] true false), (1, ABlk.mk [AV.ls b4_0, iv b4_1, AV.ls b4_2, bv b4_3] true false), (0, ABlk.mk [AV.ls xs2, iv n1, AV.ls xs3, bv b2] true false), (5, ABlk.mk [iv n2, AV.ls xs4, AV.ls xs5, iv n3, sv s, sv s1, AV.ls xs6] true false), (4, ABlk.mk [AV.ls xs2, iv n1, AV.ls xs3, bv b2] true false)] 7 none) [0, 1, 2, 3] r3 o3)
 (some ((AV.tup [iv 0, AV.ptr 0 0, AV.ptr 1 0, AV.ptr 2 0, AV.ptr 3 0, iv t8], [BO.set (ABlk.mk [AV.ls b2_0, iv b2_1, AV.ls b2_2, bv b2_3] true false), BO.set (ABlk.mk [AV.ls b4_0, iv b4_1, AV.ls b4_2, bv b4_3] true false), BO.set (ABlk.mk [iv b5_0, AV.ls b5_1, AV.ls b5_2, iv b5_3, sv b5_4, sv b5_5, AV.ls b5_6] true false), BO.set (ABlk.mk [iv b7_0, AV.ls b7_1, AV.ls b7_2, iv b7_3, sv b7_4, sv b7_5, AV.ls b7_6] true false)]))))
 (some ((AV.tup [iv 0, AV.ptr 0 0, AV.ptr 1 0, AV.ptr 2 0, AV.ptr 3 0, iv t8], [BO.set (ABlk.mk [AV.ls b2_0, iv b2_1, AV.ls b2_2, bv b2_3] true false), BO.set (ABlk.mk [AV.ls b4_0, iv b4_1, AV.ls b4_2, bv b4_3] true false), BO.set (ABlk.mk [iv b5_0, AV.ls b5_1, AV.ls b5_2, iv b5_3, sv b5_4, sv b5_5, AV.ls b5_6] true false), BO.set (ABlk.mk [iv b7_0, AV.ls b7_1, AV.ls b7_2, iv b7_3, sv b7_4, sv b7_5, AV.ls b7_6] true false)]))) := by kernel_rfl

theorem e55 (A : Ar) (D : Orc) (x0_0 : List (List AV)) (x0_1 : Int) (x0_2 : List (List AV)) (x0_3 : Bool) (x1 : Int) : fnK A D ownC hn55 .n 55 mf55 [AV.agg [AV.ls x0_0, iv x0_1, AV.ls x0_2, bv x0_3], iv x1] [] =
 askK D (Key.fn 105) [AV.agg [AV.ls x0_0, iv x0_1, AV.ls x0_2, bv x0_3], iv x1] [] fun r o =>
 unTup r fun cs =>
 unCons cs fun c l =>
 unAgg c fun cs1 =>
 cLs cs1 fun xs l1 =>
 cInt IntKind.i64 l1 fun n l2 =>
 cLs l2 fun xs1 l3 =>
 cBool l3 fun b l4 =>
 unNil l4 <|
 unCons l fun c1 l5 =>
 unAgg c1 fun cs2 =>
 cInt IntKind.i64 cs2 fun n1 l6 =>
 cLs l6 fun xs2 l7 =>
 cLs l7 fun xs3 l8 =>
 cInt IntKind.i64 l8 fun n2 l9 =>
 cStr l9 fun s l10 =>
 cStr l10 fun s1 l11 =>
 cLs l11 fun xs4 l12 =>
 unNil l12 <|
 cInt IntKind.i64 l5 fun n3 l13 =>
 unNil l13 <|
 unEnd o <|
 askK D (Key.lp 55 0) [iv x1, AV.ptr 0 0, AV.ptr 1 0, AV.ptr 2 0, AV.ptr 3 0, iv n3] [ABlk.mk [AV.ls xs, iv n, AV.ls xs1, bv b] true false, ABlk.mk [AV.ls [], iv 0, AV.ls [], bv false] true false, ABlk.mk [iv 0, AV.ls [], AV.ls [], iv 0, sv (bstr []), sv (bstr []), AV.ls []] true false, ABlk.mk [iv n1, AV.ls xs2, AV.ls xs3, iv n2, sv s, sv s1, AV.ls xs4] true false] fun r1 o1 =>
 unTup r1 fun cs3 =>
 unCons cs3 fun c2 l14 =>
 br (axIs 1 c2)
 (unCons l14 fun c3 l15 =>
 unPtr 0 0 c3 <|
 unCons l15 fun c4 l16 =>
 unPtr 1 0 c4 <|
 unCons l16 fun c5 l17 =>
 unPtr 2 0 c5 <|
 unCons l17 fun c6 l18 =>
 unPtr 3 0 c6 <|
 cInt IntKind.i64 l18 fun n4 l19 =>
 unNil l19 <|
 unOut o1 fun c7 l20 =>
 unSet true false c7 fun cs4 =>
 cLs cs4 fun xs5 l21 =>
 cInt IntKind.i64 l21 fun n5 l22 =>
 cLs l22 fun xs6 l23 =>
 cBool l23 fun b1 l24 =>
 unNil l24 <|
 unOut l20 fun c8 l25 =>
 unSet true false c8 fun cs5 =>
 cLs cs5 fun _ l26 =>
 cInt IntKind.i64 l26 fun _ l27 =>
 cLs l27 fun _ l28 =>
 cBool l28 fun _ l29 =>
 unNil l29 <|
 unOut l25 fun c9 l30 =>
 unSet true false c9 fun cs6 =>
 cInt IntKind.i64 cs6 fun _ l31 =>
 cLs l31 fun _ l32 =>
 cLs l32 fun _ l33 =>
 cInt IntKind.i64 l33 fun _ l34 =>
 cStr l34 fun _ l35 =>
 cStr l35 fun _ l36 =>
 cLs l36 fun _ l37 =>
 unNil l37 <|
 unOut l30 fun c10 l38 =>
 unSet true false c10 fun cs7 =>
 cInt IntKind.i64 cs7 fun n9 l39 =>
 cLs l39 fun xs12 l40 =>
 cLs l40 fun xs13 l41 =>
 cInt IntKind.i64 l41 fun n10 l42 =>
 cStr l42 fun s4 l43 =>
 cStr l43 fun s5 l44 =>
 cLs l44 fun xs14 l45 =>
 unNil l45 <|
 unEnd l38 <|
 br (A.eq n4 0)
 (some ((AV.tup [AV.agg [AV.ls xs5, iv n5, AV.ls xs6, bv b1], AV.agg [iv n9, AV.ls xs12, AV.ls xs13, iv n10, sv s4, sv s5, AV.ls xs14], iv 0], [])))
 (some ((AV.tup [AV.agg [AV.ls xs5, iv n5, AV.ls xs6, bv b1], AV.agg [iv 0, AV.ls [], AV.ls [], iv 0, sv (bstr []), sv (bstr []), AV.ls []], iv n4], []))))
 (none) := by kernel_rfl

theorem e55_0 (A : Ar) (D : Orc) (t1 : Int) (b2_0 : List (List AV)) (b2_1 : Int) (b2_2 : List (List AV)) (b2_3 : Bool) (b4_0 : List (List AV)) (b4_1 : Int) (b4_2 : List (List AV)) (b4_3 : Bool) (b5_0 : Int) (b5_1 : List (List AV)) (b5_2 : List (List AV)) (b5_3 : Int) (b5_4 : ByteArray) (b5_5 : ByteArray) (b5_6 : List (List AV)) (b7_0 : Int) (b7_1 : List (List AV)) (b7_2 : List (List AV)) (b7_3 : Int) (b7_4 : ByteArray) (b7_5 : ByteArray) (b7_6 : List (List AV)) (t8 : Int) : lpK A D ownC hn55 .n 55 0 (lpAt mf55 0).fst (lpAt mf55 0).snd [iv t1, AV.ptr 0 0, AV.ptr 1 0, AV.ptr 2 0, AV.ptr 3 0, iv t8] [{ cells := [AV.ls b2_0, iv b2_1, AV.ls b2_2, bv b2_3], st := true, ex := false }, { cells := [AV.ls b4_0, iv b4_1, AV.ls b4_2, bv b4_3], st := true, ex := false }, { cells := [iv b5_0, AV.ls b5_1, AV.ls b5_2, iv b5_3, sv b5_4, sv b5_5, AV.ls b5_6], st := true, ex := false }, { cells := [iv b7_0, AV.ls b7_1, AV.ls b7_2, iv b7_3, sv b7_4, sv b7_5, AV.ls b7_6], st := true, ex := false }] =
 br (A.eq t8 0)
 (askK D (Key.fn 99) [AV.agg [AV.ls b2_0, iv b2_1, AV.ls b2_2, bv b2_3], sv (bstr [124])] [] fun r o =>
 unBool r fun b =>
 unEnd o <|
 br b
 (askK D (Key.fn 100) [AV.agg [AV.ls b2_0, iv b2_1, AV.ls b2_2, bv b2_3]] [] fun r1 o1 =>
 unAgg r1 fun cs =>
 cLs cs fun xs l =>
 cInt IntKind.i64 l fun n l1 =>
 cLs l1 fun xs1 l2 =>
 cBool l2 fun b1 l3 =>
 unNil l3 <|
 unEnd o1 <|
 askK D (Key.fn 105) [AV.agg [AV.ls xs, iv n, AV.ls xs1, bv b1], iv t1] [] fun r2 o2 =>
 unTup r2 fun cs1 =>
 unCons cs1 fun c l4 =>
 unAgg c fun cs2 =>
 cLs cs2 fun xs2 l5 =>
 cInt IntKind.i64 l5 fun n1 l6 =>
 cLs l6 fun xs3 l7 =>
 cBool l7 fun b2 l8 =>
 unNil l8 <|
 unCons l4 fun c1 l9 =>
 unAgg c1 fun cs3 =>
 cInt IntKind.i64 cs3 fun n2 l10 =>
 cLs l10 fun xs4 l11 =>
 cLs l11 fun xs5 l12 =>
 cInt IntKind.i64 l12 fun n3 l13 =>
 cStr l13 fun s l14 =>
 cStr l14 fun s1 l15 =>
 cLs l15 fun xs6 l16 =>
 unNil l16 <|
 cInt IntKind.i64 l9 fun n4 l17 =>
 unNil l17 <|
 unEnd o2 <|
 askK D (Key.lp 55 0) [iv t1, AV.ptr 0 0, AV.ptr 1 0, AV.ptr 2 0, AV.ptr 3 0, iv n4] [ABlk.mk [AV.ls xs2, iv n1, AV.ls xs3, bv b2] true false, ABlk.mk [AV.ls b4_0, iv b4_1, AV.ls b4_2, bv b4_3] true false, ABlk.mk [iv b5_0, AV.ls b5_1, AV.ls b5_2, iv b5_3, sv b5_4, sv b5_5, AV.ls b5_6] true false, ABlk.mk [iv 5, AV.ls [], AV.ls [], iv 0, sv (bstr []), sv (bstr []), AV.ls [[iv b7_0, AV.ls b7_1, AV.ls b7_2, iv b7_3, sv b7_4, sv b7_5, AV.ls b7_6], [iv n2, AV.ls xs4, AV.ls xs5, iv n3, sv s, sv s1, AV.ls xs6]]] true false] fun r3 o3 =>
 tailK 4 [0, 1, 2, 3] (AH.mk [(3, ABlk.mk [iv 5, AV.ls [], AV.ls [], iv 0, sv (bstr []), sv (bstr []), AV.ls [[iv b7_0, AV.ls b7_1, AV.ls b7_2, iv b7_3, sv b7_4, sv b7_5, AV.ls b7_6], [iv n2, AV.ls xs4, AV.ls xs5, iv n3, sv s, sv s1, AV.ls xs6]]] true false), (6, ABlk.mk [iv b7_0, AV.ls b7_1, AV.ls b7_2, iv b7_3, sv b7_4, sv b7_5, AV.ls b7_6, iv n2, AV.ls xs4, AV.ls xs5, iv n3, sv s, sv s1, AV.ls xs6] false true), (2, ABlk.mk [iv b5_0, AV.ls b5_1, AV.ls b5_2, iv b5_3, sv b5_4, sv b5_5, AV.ls b5_6] true false), (1, ABlk.mk [AV.ls b4_0, iv b4_1, AV.ls b4_2, bv b4_3] true false), (0, ABlk.mk [AV.ls xs2, iv n1, AV.ls xs3, bv b2] true false), (5, ABlk.mk [iv n2, AV.ls xs4, AV.ls xs5, iv n3, sv s, sv s1, AV.ls xs6] true false), (4, ABlk.mk [AV.ls xs2, iv n1, AV.ls xs3, bv b2] true false)] 7 none) [0, 1, 2, 3] r3 o3)
 (some ((AV.tup [iv 0, AV.ptr 0 0, AV.ptr 1 0, AV.ptr 2 0, AV.ptr 3 0, iv t8], [BO.set (ABlk.mk [AV.ls b2_0, iv b2_1, AV.ls b2_2, bv b2_3] true false), BO.set (ABlk.mk [AV.ls b4_0, iv b4_1, AV.ls b4_2, bv b4_3] true false), BO.set (ABlk.mk [iv b5_0, AV.ls b5_1, AV.ls b5_2, iv b5_3, sv b5_4, sv b5_5, AV.ls b5_6] true false), BO.set (ABlk.mk [iv b7_0, AV.ls b7_1, AV.ls b7_2, iv b7_3, sv b7_4, sv b7_5, AV.ls b7_6] true false)]))))
 (some ((AV.tup [iv 0, AV.ptr 0 0, AV.ptr 1 0, AV.ptr 2 0, AV.ptr 3 0, iv t8], [BO.set (ABlk.mk [AV.ls b2_0, iv b2_1, AV.ls b2_2, bv b2_3] true false), BO.set (ABlk.mk [AV.ls b4_0, iv b4_1, AV.ls b4_2, bv b4_3] true false), BO.set (ABlk.mk [iv b5_0, AV.ls b5_1, AV.ls b5_2, iv b5_3, sv b5_4, sv b5_5, AV.ls b5_6] true false), BO.set (ABlk.mk [iv b7_0, AV.ls b7_1, AV.ls b7_2, iv b7_3, sv b7_4, sv b7_5, AV.ls b7_6] true false)]))) := by kernel_rfl

theorem e52 (A : Ar) (D : Orc) (x0_0 : List (List AV)) (x0_1 : Int) (x0_2 : List (List AV)) (x0_3 : Bool) (x1 : Int) : fnK A D ownC hn52 (.b (.b (.b (.b (.b (.b (.b .n (.b (.b .n (.b .n (.t .n))) .n)) .n) .n) .n) .n) .n) (.b .n (.b .n (.b .n (.b .n (.b .n (.b .n (.b .n (.f .n))))))))) 52 mf52 [AV.agg [AV.ls x0_0, iv x0_1, AV.ls x0_2, bv x0_3], iv x1] [] =
 br (A.eq x1 0)
 (askK D (Key.fn 101) [AV.agg [AV.ls x0_0, iv x0_1, AV.ls x0_2, bv x0_3]] [] fun r o =>
 unAgg r fun cs =>
 cInt IntKind.i64 cs fun n l =>
 cStr l fun _ l1 =>
 cInt IntKind.i64 l1 fun _ l2 =>
 cInt IntKind.i64 l2 fun _ l3 =>
 unNil l3 <|
 unEnd o <|
 br (A.eq n 5)
 (br (A.eq x1 0) (some ((AV.tup [AV.agg [iv 0, iv 0], iv 0], []))) none)
 (br (A.eq 101 0)
 (some ((AV.tup [AV.agg [iv 0, iv 0], iv 0], [])))
 (askK D (Key.fn 101) [AV.agg [AV.ls x0_0, iv x0_1, AV.ls x0_2, bv x0_3]] [] fun r1 o1 =>
 unAgg r1 fun cs1 =>
 cInt IntKind.i64 cs1 fun _ l4 =>
 cStr l4 fun _ l5 =>
 cInt IntKind.i64 l5 fun n4 l6 =>
 cInt IntKind.i64 l6 fun n5 l7 =>
 unNil l7 <|
 unEnd o1 <|
 some ((AV.tup [AV.agg [iv n4, iv n5], iv 101], [])))))
 (br (A.eq x1 0) none (askK D (Key.fn 101) [AV.agg [AV.ls x0_0, iv x0_1, AV.ls x0_2, bv x0_3]] [] fun r o =>
 unAgg r fun cs =>
 cInt IntKind.i64 cs fun _ l =>
 cStr l fun _ l1 =>
 cInt IntKind.i64 l1 fun n1 l2 =>
 cInt IntKind.i64 l2 fun n2 l3 =>
 unNil l3 <|
 unEnd o <|
 some ((AV.tup [AV.agg [iv n1, iv n2], iv x1], [])))) := by kernel_rfl
end Go.Proofs.YtlmhajfbpplpoaaGreat
namespace Go.Proofs.YtlmhajfbpplpoaaGreat
open Go.RowKit

section
variable {D : Orc}
structure RNameF (D : Orc) : Prop where
 name : ∀ s : List UInt8, s.length < 4611686018427387904 → D.ask (.fn 77) [sv (bstr s)] [] = some (bv (nameB s), [])
theorem place_lp (K : Knows ownC tabRa D) (xs : List ByteArray) (hx : xs.length < 4611686018427387904) (s : ByteArray) : ∀ (k i : Nat), xs.length - i = k → D.ask (.lp 121 0) [.ls (xs.map eS), sv s, iv (i : Int)] [] = some (placeR i ((xs.drop i).findIdx? (s = ·)), []) := by
 intro k
 induction k with
 | zero =>
  intro i hi
  refine K.lp' hn121 _ rfl (by kernel_rfl) ((e121_0 ..).trans ?_)
  have : xs.drop i = [] := List.drop_eq_nil_of_le (by omega)
  simp only [r_lt, lenR_map, this, br_if]
  rw [if_neg (by simp; omega)]
  rfl
 | succ k ih =>
  intro i hi
  have hlt : i < xs.length := by omega
  refine K.lp' hn121 _ rfl (by kernel_rfl) ((e121_0 ..).trans ?_)
  have e1 : xs.drop i = xs[i] :: xs.drop (i + 1) := List.drop_eq_getElem_cons hlt
  have ih' := ih (i + 1) (by omega)
  have e2 : realA.add .i64 (i : Int) 1 = ((i + 1 : Nat) : Int) := add1 (by omega)
  simp only [r_lt, lenR_map, unI_n, nthK_map, List.getElem?_eq_getElem hlt, eS, cStr_sv, unNil_nil, r_seq, e2, br_if]
  rw [if_pos (by simpa using hlt), e1, List.findIdx?_cons]
  by_cases h : s = xs[i]
  ·simp [← h, placeR]
  ·rw [if_neg (by simpa using fun e => h e.symm), if_neg (by simpa using h)]
   refine (askK_of ih' _).trans ?_
   cases (xs.drop (i + 1)).findIdx? (s = ·) with
   | none => rfl
   | some j =>
    simp only [placeR, Option.map_some, show i + (j + 1) = i + 1 + j by omega]
    rfl
theorem place_ok (K : Knows ownC tabRa D) (xs : List ByteArray) (hx : xs.length < 4611686018427387904) (s : ByteArray) : D.ask (.fn 121) [.ls (xs.map eS), sv s] [] = some (iv (placeI (xs.findIdx? (s = ·))), []) := by
 refine K.fn' hn121 _ rfl ((e121 ..).trans ?_)
 refine (askK_of (place_lp K xs hx s _ 0 rfl) _).trans ?_
 rw [List.drop_zero]
 cases xs.findIdx? (s = ·) with
 | none => rfl
 | some j => simp only [placeR, ND, Nat.zero_add]; rfl
theorem in_ok (K : Knows ownC tabRa D) (xs : List ByteArray) (hx : xs.length < 4611686018427387904) (s : ByteArray) : D.ask (.fn 103) [.ls (xs.map eS), sv s] [] = some (bv (decide (s ∈ xs)), []) := by
 refine K.fn' hn103 _ rfl ((e103 ..).trans ?_)
 refine (askK_of (place_ok K xs hx s) _).trans ?_
 simp only [ND, r_le, placeI_mem]
 cases decide (s ∈ xs) <;> rfl
theorem next_ok (K : Knows ownC tabRa D) (ts : List Tk) (vars : List ByteArray) (kn : Bool) (i : Nat) (hts : ts.length < 4611686018427387904) : D.ask (.fn 101) [cuA ts vars kn i] [] = some (.agg (eTk (nx ts i)), []) := by
 refine K.fn' hn101 _ rfl ((e101 ..).trans ?_)
 simp only [r_eq, r_lt, r_le, lenR_map, br_if]
 by_cases h0 : ts = []
 ·subst h0
  rw [if_pos (by simp)]
  rfl
 ·have hl : 0 < ts.length := List.length_pos_iff.2 h0
  rw [if_neg (by simp [h0]), if_neg (by simp)]
  unfold nx
  by_cases h : i < ts.length
  ·rw [if_neg (by simp; omega), unI_n, nthK_some (List.getElem?_eq_getElem h), List.getElem?_eq_getElem h]
   simp only [eTk, ND]
  ·have e1 : realA.sub .i64 (ts.length : Int) 1 = ((ts.length - 1 : Nat) : Int) := by rw [r_sub (by omega) (by omega)]; omega
   rw [if_pos (by simp; omega), e1, unI_n, nthK_some (nth_last ts h0 ⟨5, [], 0, 0⟩), List.getElem?_eq_none (show ts.length ≤ i by omega)]
   simp only [eTk, ND]
theorem tis_ok (K : Knows ownC tabRa D) (ts : List Tk) (vars : List ByteArray) (kn : Bool) (i : Nat) (hts : ts.length < 4611686018427387904) (s : List UInt8) : D.ask (.fn 99) [cuA ts vars kn i, sv (bstr s)] [] = some (bv (isT ts i s), []) := by
 refine K.fn' hn99 _ rfl ((e99 ..).trans ?_)
 refine (askK_of (next_ok K ts vars kn i hts) _).trans ?_
 unfold isT
 simp only [eTk, ND, ci0, ci1, ci2, ci3, ci4, ci5, ci6, r_lt, r_le, r_eq, r_seq, r_slen, r_cat, r_beq, br_if, bstr_inj]
 by_cases h1 : (nx ts i).text = s <;> by_cases h2 : (nx ts i).kind = 1 <;> by_cases h3 : (nx ts i).kind = 2 <;> by_cases h4 : (nx ts i).kind = 4 <;> simp [h1, h2, h3, h4]
theorem on_ok (K : Knows ownC tabRa D) (ts : List Tk) (vars : List ByteArray) (kn : Bool) (i : Nat) (hi : i < 4611686018427387904) : D.ask (.fn 100) [cuA ts vars kn i] [] = some (cuA ts vars kn (i + 1), []) := by
 refine K.fn' hn100 _ rfl ((e100 ..).trans ?_)
 rw [add1 hi]
 rfl
theorem tname_ok (K : Knows ownC tabRa D) (L : RNameF D) (ts : List Tk) (vars : List ByteArray) (kn : Bool) (i : Nat) (hts : ts.length < 4611686018427387904) (hs : ShortT ts) : D.ask (.fn 102) [cuA ts vars kn i] [] = some (bv (isN ts i), []) := by
 refine K.fn' hn102 _ rfl ((e102 ..).trans ?_)
 refine (askK_of (next_ok K ts vars kn i hts) _).trans ?_
 unfold isN
 simp only [eTk, ND, ci0, ci1, ci2, ci3, ci4, ci5, ci6, r_lt, r_le, r_eq, r_seq, r_slen, r_cat, r_beq]
 by_cases h : (nx ts i).kind = 1
 ·simp only [h, decide_true, ND]
  refine (askK_of (L.name _ (hs i)) _).trans ?_
  simp only [ND]
  cases nameB (nx ts i).text <;> rfl
 ·simp only [h, decide_false, ND]
  rfl
end
end Go.Proofs.YtlmhajfbpplpoaaGreat
namespace Go.Proofs.YtlmhajfbpplpoaaGreat
open Go.RowKit

section
variable {D : Orc}
theorem eMo_len (m : Mo) : (eMo m).length = 3 := rfl
theorem begP_mono {ts : List Tk} {vars : List ByteArray} {kn : Bool} {i : Nat} {neg : Bool} (h : begP ts i = false) : (monoP ts vars kn i neg).1 = i ∧ (monoP ts vars kn i neg).2.1 = 101 := by
 unfold begP at h
 simp only [Bool.or_eq_false_iff, decide_eq_false_iff_not] at h
 unfold monoP varP
 rw [if_neg h.1, if_pos h.2]
 exact ⟨rfl, rfl⟩
theorem sum_lp (K : Knows ownC tabEa D) (L : NameF D) (ts : List Tk) (vars : List ByteArray) (kn : Bool) (hts : ts.length < 4611686018427387904) (hv : vars.length < 4611686018427387904) (hs : ShortT ts) : ∀ (k : Nat) (out : List Mo) (neg : Bool) (i : Nat), out.length + k = 64 → i + 4 * (k + 1) < 4611686018427387904 →
  D.ask (.lp 49 0) [.ptr 0 0, .sl 1 0 out.length 3, bv neg] [cuB ts vars kn i, ABlk.mk (rowC eMo out) true true] = some (.tup [bv true, .ptr 0 0, .ls ((sumL ts vars kn k out neg i).2.2.map eMo), iv ((sumL ts vars kn k out neg i).2.1 : Int)], [.set (cuB ts vars kn (sumL ts vars kn k out neg i).1), .del]) := by
 intro k
 induction k with
 | zero =>
  intro out neg i hk hi
  refine K.lp' hn49 _ rfl (by kernel_rfl) ((e49_0 ..).trans ?_)
  have h64 : decide ((out.length : Int) = 64) = true := by simp; omega
  simp only [r_eq, h64, br_t]
  refine (askK_of (begins_ok K L ts vars kn i hts hs (by omega)) _).trans ?_
  simp only [cuB, ND]
  unfold sumL
  cases hb : begP ts i with
  | true => rfl
  | false =>
   simp only [ND]
   refine (askK_of (mono_ok K L ts vars kn i hts hv hs (by omega) neg) _).trans ?_
   obtain ⟨h1, h2⟩ := begP_mono (vars := vars) (kn := kn) (neg := neg) hb
   simp only [cuB, eMo, ND, h1, h2]
   rfl
 | succ k ih =>
  intro out neg i hk hi
  refine K.lp' hn49 _ rfl (by kernel_rfl) ((e49_0 ..).trans ?_)
  have h64 : decide ((out.length : Int) = 64) = false := by simp; omega
  simp only [r_eq, h64, br_f]
  refine (askK_of (mono_ok K L ts vars kn i hts hv hs (by omega) neg) _).trans ?_
  have hle := monoP_le ts vars kn i neg
  cases hb : begP ts i with
  | false =>
   obtain ⟨h1, h2⟩ := begP_mono (vars := vars) (kn := kn) (neg := neg) hb
   have e : sumL ts vars kn (k + 1) out neg i = (i, 101, []) := by unfold sumL; rw [if_pos hb]
   rw [e]
   simp only [cuB, eMo, ND, h1, h2]
   rfl
  | true =>
   by_cases he : (monoP ts vars kn i neg).2.1 = 0
   ·have e3 : List.drop 0 (List.take (0 + out.length * 3) (rowC eMo out)) ++ [bv (monoP ts vars kn i neg).2.2.neg, sv (monoP ts vars kn i neg).2.2.num, sv (monoP ts vars kn i neg).2.2.var] = rowC eMo (out ++ [(monoP ts vars kn i neg).2.2]) := by
     rw [List.drop_zero, rowC_all eMo_len out (by omega)]
     exact rowC_snoc eMo out _
    have hf : fitsB (out.length + 1) 40 = true := fits_small (by omega) (by omega)
    have hb1 : Nat.ble (0 + out.length * 3) (rowC eMo out).length = true := ble_row eMo_len out (by omega)
    have hd : decide (((monoP ts vars kn i neg).2.1 : Int) = 0) = true := by rw [he]; rfl
    have hb2 : Nat.ble (0 + (out.length + 1) * 3) (rowC eMo (out ++ [(monoP ts vars kn i neg).2.2])).length = true := ble_row eMo_len _ (by simp)
    have hc : chunk (out.length + 1) 3 (List.take ((out.length + 1) * 3) (List.drop 0 (rowC eMo (out ++ [(monoP ts vars kn i neg).2.2])))) = (out ++ [(monoP ts vars kn i neg).2.2]).map eMo := by
     rw [List.drop_zero]
     exact chunk_of eMo_len _ (by simp)
    simp only [cuB, eMo, ND, r_eq, hd, hf, hb1, e3, hb2, hc]
    refine (askK_of (is_ok K ts vars kn _ hts (by omega) _) _).trans ?_
    have ih1 := ih (out ++ [(monoP ts vars kn i neg).2.2]) true ((monoP ts vars kn i neg).1 + 1) (by simp; omega) (by omega)
    have ih2 := ih (out ++ [(monoP ts vars kn i neg).2.2]) false ((monoP ts vars kn i neg).1 + 1) (by simp; omega) (by omega)
    rw [List.length_append, List.length_singleton] at ih1 ih2
    have e : sumL ts vars kn (k + 1) out neg i = if isT ts (monoP ts vars kn i neg).1 [45] then sumL ts vars kn k (out ++ [(monoP ts vars kn i neg).2.2]) true ((monoP ts vars kn i neg).1 + 1)
      else if isT ts (monoP ts vars kn i neg).1 [43] then sumL ts vars kn k (out ++ [(monoP ts vars kn i neg).2.2]) false ((monoP ts vars kn i neg).1 + 1)
      else ((monoP ts vars kn i neg).1, 0, out ++ [(monoP ts vars kn i neg).2.2]) := by
     rw [sumL, hb, if_neg (by simp)]
     rw [if_neg (by simp [he])]
    rw [e]
    simp only [cuB, ND]
    have tk := take_ok K ts vars kn (monoP ts vars kn i neg).1 hts (by omega) [45]
    have tp := take_ok K ts vars kn (monoP ts vars kn i neg).1 hts (by omega) [43]
    cases h45 : isT ts (monoP ts vars kn i neg).1 [45] with
    | true =>
     rw [h45] at tk
     simp only [ND, if_true]
     refine (askK_of tk _).trans ?_
     simp only [cuB, ND, if_true]
     refine (askK_of ih1 _).trans ?_
     rfl
    | false =>
     rw [h45] at tk
     simp only [ND]
     refine (askK_of tk _).trans ?_
     simp only [cuB, ND, Bool.false_eq_true, if_false]
     refine (askK_of tp _).trans ?_
     simp only [cuB, ND]
     cases h43 : isT ts (monoP ts vars kn i neg).1 [43] with
     | true =>
      simp only [ND, if_true]
      refine (askK_of ih2 _).trans ?_
      rfl
     | false => rfl
   ·have e : sumL ts vars kn (k + 1) out neg i = ((monoP ts vars kn i neg).1, (monoP ts vars kn i neg).2.1, []) := by
     rw [sumL, hb, if_neg (by simp)]
     rw [if_pos he]
    rw [e]
    have hd : decide (((monoP ts vars kn i neg).2.1 : Int) = 0) = false := by simp; exact he
    simp only [cuB, eMo, ND, r_eq, hd]
    rfl
theorem sum_ok (K : Knows ownC tabEa D) (L : NameF D) (ts : List Tk) (vars : List ByteArray) (kn : Bool) (hts : ts.length < 4611686018427387904) (hv : vars.length < 4611686018427387904) (hs : ShortT ts) (i : Nat) (hi : i + 300 < 4611686018427387904) : D.ask (.fn 49) [.ptr 0 0] [cuB ts vars kn i] = some (.tup [.ls ((sumP ts vars kn i).2.2.map eMo), iv ((sumP ts vars kn i).2.1 : Int)], [.set (cuB ts vars kn (sumP ts vars kn i).1)]) := by
 refine K.fn' hn49 _ rfl ((e49 ..).trans ?_)
 refine (askK_of (take_ok K ts vars kn i hts (by omega) _) _).trans ?_
 unfold sumP
 simp only [cuB, ND]
 cases isT ts i [45] with
 | true =>
  simp only [ND, if_true]
  refine (askK_of (sum_lp K L ts vars kn hts hv hs 64 [] true (i + 1) rfl (by omega)) _).trans ?_
  rfl
 | false =>
  simp only [ND, Bool.false_eq_true, if_false]
  refine (askK_of (sum_lp K L ts vars kn hts hv hs 64 [] false i rfl (by omega)) _).trans ?_
  rfl
end
end Go.Proofs.YtlmhajfbpplpoaaGreat
