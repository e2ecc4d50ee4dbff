/-
  What functions may be called, and which arguments go over as they are.
  Functions of the program as trees: what a call comes to.
  Functions of the program as trees: what a call comes to.
  Functions of the program as trees: what a call comes to.
  Functions of the program as trees: what a call comes to.
  Functions of the program as trees: what a call comes to.
-/
import Derived.Test.YtlmhajfbpplpoaaQ7
import Derived.Test.YtlmhajfbpplpoaaChecked
set_option linter.unusedSectionVars false
set_option linter.unusedSimpArgs false
set_option linter.unusedVariables false
namespace Go.Proofs.Ytlmhajfbpplpoaa
def entsC : Nat := 516508834063867445244
def ownC : List (Nat × Nat) := []
end Go.Proofs.Ytlmhajfbpplpoaa
namespace Go.Proofs.Ytlmhajfbpplpoaa
open Go.RowKit
/- plumbline/plumblineref11.Place -/
def hs45 : Hints := [⟨19, [true, true, false, false, false, true], [], [], [(0, ([false, false, false, false, true], ([], []))), (1, ([], ([], [])))]⟩]
noncomputable def mf45 : MFn := mfD Try.prog entsC hs45 false false 45
def hn45 : Hnt := ⟨[], [(0, [(0, ([.int .i64], [])), (1, ([], []))])], [(14, [.str]), (15, [.str])]⟩
/- plumbline/plumblineref11.In -/
def hs30 : Hints := []
noncomputable def mf30 : MFn := mfD Try.prog entsC hs30 false false 30
def hn30 : Hnt := ⟨[(45, (.int .i64, []))], [], []⟩
/- plumbline/plumblineref11.Next -/
def hs15 : Hints := []
noncomputable def mf15 : MFn := mfD Try.prog entsC hs15 false false 15
def hn15 : Hnt := ⟨[], [], [(4, [.ls]), (9, [.int .i64]), (12, [.ls]), (13, [.int .i64, .str, .int .i64, .int .i64]), (14, [.int .i64, .str, .int .i64, .int .i64]), (16, [.int .i64]), (18, [.ls]), (22, [.ls]), (24, [.ls]), (27, [.int .i64, .str, .int .i64, .int .i64]), (28, [.int .i64, .str, .int .i64, .int .i64]), (30, [.ls]), (32, [.int .i64]), (33, [.int .i64, .str, .int .i64, .int .i64]), (34, [.int .i64, .str, .int .i64, .int .i64])]⟩
/- plumbline/plumblineref11.Is -/
def hs18 : Hints := []
noncomputable def mf18 : MFn := mfD Try.prog entsC hs18 false false 18
def hn18 : Hnt := ⟨[(15, (.agg [.int .i64, .str, .int .i64, .int .i64], []))], [], [(6, [.ls, .int .i64, .ls, .bool]), (9, [.str]), (14, [.int .i64]), (18, [.int .i64]), (23, [.int .i64])]⟩
/- plumbline/plumblineref11.On -/
def hs28 : Hints := []
noncomputable def mf28 : MFn := mfD Try.prog entsC hs28 false false 28
def hn28 : Hnt := ⟨[], [], [(4, [.int .i64]), (7, [.ls, .int .i64, .ls, .bool])]⟩
/- plumbline/plumblineref11.IsName -/
def hs29 : Hints := []
noncomputable def mf29 : MFn := mfD Try.prog entsC hs29 false false 29
def hn29 : Hnt := ⟨[(15, (.agg [.int .i64, .str, .int .i64, .int .i64], [])), (44, (.bool, []))], [], [(4, [.ls, .int .i64, .ls, .bool]), (7, [.int .i64]), (11, [.str])]⟩
/- plumbline/plumblineref11.Sign -/
def hs65 : Hints := []
noncomputable def mf65 : MFn := mfD Try.prog entsC hs65 false false 65
def hn65 : Hnt := ⟨[], [], []⟩
/- plumbline/plumblineref11.SameSum -/
def hs11 : Hints := [⟨26, [true, true, false, false, false, true], [], [], [(0, ([false, false, false, false, true], ([], []))), (1, ([], ([], [])))]⟩]
noncomputable def mf11 : MFn := mfD Try.prog entsC hs11 false false 11
def hn11 : Hnt := ⟨[], [(0, [(0, ([.bool], [])), (1, ([], []))])], [(19, [.bool, .str, .str]), (20, [.bool, .str, .str]), (23, [.bool, .str, .str]), (24, [.bool, .str, .str])]⟩
/- plumbline/plumblineref11.Same -/
def hs12 : Hints := [⟨76, [false, false, true, true, false, true], [], [2, 3], [(0, ([false, false, false, false, true], ([], [2, 3]))), (1, ([], ([], [2, 3])))]⟩]
noncomputable def mf12 : MFn := mfD Try.prog entsC hs12 false false 12
def hn12 : Hnt := ⟨[(11, (.bool, [])), (12, (.bool, []))], [(0, [(0, ([.bool], [.del, .del])), (1, ([], [.del, .del]))])], [(7, [.int .i64]), (9, [.int .i64]), (13, [.int .i64]), (15, [.int .i64]), (20, [.str]), (22, [.str]), (27, [.str]), (29, [.str]), (34, [.ls]), (36, [.ls]), (42, [.ls]), (44, [.ls]), (50, [.ls]), (53, [.ls]), (59, [.ls]), (65, [.ls]), (67, [.int .i64, .ls, .ls, .int .i64, .str, .str, .ls]), (68, [.int .i64, .ls, .ls, .int .i64, .str, .str, .ls]), (70, [.ls]), (72, [.int .i64, .ls, .ls, .int .i64, .str, .str, .ls]), (73, [.int .i64, .ls, .ls, .int .i64, .str, .str, .ls])]⟩
/- plumbline/plumblineref11.Sum -/
def hs8 : Hints := [⟨90, [false, true, true, false, false, true, true], [(5, 3)], [1, 2], [(0, ([false, false, true, true, true], ([2, 3], [1, 5])))]⟩]
noncomputable def mf8 : MFn := mfD Try.prog entsC hs8 false false 8
def hn8 : Hnt := ⟨[(15, (.agg [.int .i64, .str, .int .i64, .int .i64], [])), (18, (.bool, [])), (28, (.agg [.ls, .int .i64, .ls, .bool], [])), (29, (.bool, [])), (30, (.bool, []))], [(0, [(0, ([.ptr 1 0, .ls, .int .i64], [.del, .box [.ls, .int .i64, .ls, .bool], .del]))])], [(10, [.ls, .int .i64, .ls, .bool]), (13, [.ls, .int .i64, .ls, .bool]), (15, [.ls, .int .i64, .ls, .bool]), (18, [.int .i64]), (21, [.ls, .int .i64, .ls, .bool]), (25, [.ls, .int .i64, .ls, .bool]), (29, [.ls, .int .i64, .ls, .bool]), (33, [.int .i64]), (36, [.str]), (38, [.ls, .int .i64, .ls, .bool]), (41, [.str]), (44, [.ls, .int .i64, .ls, .bool]), (48, [.str]), (50, [.ls, .int .i64, .ls, .bool]), (52, [.ls, .int .i64, .ls, .bool]), (55, [.ls, .int .i64, .ls, .bool]), (56, [.ls, .int .i64, .ls, .bool]), (61, [.bool]), (64, [.ls]), (66, [.str]), (70, [.ls, .int .i64, .ls, .bool]), (71, [.ls, .int .i64, .ls, .bool]), (74, [.bool, .str, .str]), (77, [.ls, .int .i64, .ls, .bool]), (82, [.ls, .int .i64, .ls, .bool]), (86, [.ls, .int .i64, .ls, .bool]), (88, [.ls, .int .i64, .ls, .bool])]⟩
/- plumbline/plumblineref11.Compare -/
def hs58 : Hints := [⟨52, [false, true, true, true, false, true, false, true, true], [], [1, 2, 3], [(1, ([false, true, true, true, false, true, false, true], ([], [])))]⟩]
noncomputable def mf58 : MFn := mfD Try.prog entsC hs58 false false 58
def hn58 : Hnt := ⟨[(8, (.tup [.agg [.ls, .int .i64, .ls, .bool], .ls, .int .i64], [])), (18, (.bool, [])), (28, (.agg [.ls, .int .i64, .ls, .bool], [])), (65, (.str, []))], [(0, [(1, ([.ptr 0 0, .ptr 1 0, .ptr 2 0, .ls, .int .i64], [.box [.ls, .int .i64, .ls, .bool], .box [.ls, .int .i64, .ls, .bool], .box [.int .i64, .ls, .ls, .int .i64, .str, .str, .ls]]))])], [(12, [.ls, .int .i64, .ls, .bool]), (19, [.ls, .int .i64, .ls, .bool]), (26, [.ls, .int .i64, .ls, .bool]), (33, [.ls, .int .i64, .ls, .bool]), (36, [.ls, .int .i64, .ls, .bool]), (44, [.ls, .int .i64, .ls, .bool]), (47, [.ls, .int .i64, .ls, .bool])]⟩
/- plumbline/plumblineref11.One -/
def hs48 : Hints := []
noncomputable def mf48 : MFn := mfD Try.prog entsC hs48 false false 48
def hn48 : Hnt := ⟨[(10, (.tup [.agg [.ls, .int .i64, .ls, .bool], .agg [.int .i64, .ls, .ls, .int .i64, .str, .str, .ls], .int .i64], [])), (18, (.bool, [])), (28, (.agg [.ls, .int .i64, .ls, .bool], [])), (48, (.tup [.agg [.ls, .int .i64, .ls, .bool], .agg [.int .i64, .ls, .ls, .int .i64, .str, .str, .ls], .int .i64], [])), (58, (.tup [.agg [.ls, .int .i64, .ls, .bool], .agg [.int .i64, .ls, .ls, .int .i64, .str, .str, .ls], .int .i64], []))], [], [(13, [.ls, .int .i64, .ls, .bool]), (16, [.ls, .int .i64, .ls, .bool]), (23, [.ls, .int .i64, .ls, .bool]), (25, [.ls, .int .i64, .ls, .bool]), (27, [.ls, .int .i64, .ls, .bool]), (30, [.ls, .int .i64, .ls, .bool]), (32, [.ls, .int .i64, .ls, .bool]), (35, [.ls, .int .i64, .ls, .bool]), (38, [.ls, .int .i64, .ls, .bool]), (48, [.ls, .int .i64, .ls, .bool]), (51, [.ls, .int .i64, .ls, .bool]), (52, [.int .i64, .ls, .ls, .int .i64, .str, .str, .ls]), (55, [.ls, .int .i64, .ls, .bool]), (58, [.ls, .int .i64, .ls, .bool]), (69, [.ls, .int .i64, .ls, .bool]), (75, [.ls, .int .i64, .ls, .bool]), (78, [.ls, .int .i64, .ls, .bool]), (80, [.int .i64, .ls, .ls, .int .i64, .str, .str, .ls]), (81, [.ls, .int .i64, .ls, .bool])]⟩
/- plumbline/plumblineref11.both -/
def hs32 : Hints := [⟨46, [false, true, true, false, true, true, false, true, true], [], [2, 4, 5, 7], [(1, ([false, false, true, false, true, true, false, true, true], ([], [])))]⟩]
noncomputable def mf32 : MFn := mfD Try.prog entsC hs32 false false 32
def hn32 : Hnt := ⟨[(18, (.bool, [])), (28, (.agg [.ls, .int .i64, .ls, .bool], [])), (48, (.tup [.agg [.ls, .int .i64, .ls, .bool], .agg [.int .i64, .ls, .ls, .int .i64, .str, .str, .ls], .int .i64], []))], [(0, [(1, ([.ptr 0 0, .ptr 1 0, .ptr 2 0, .ptr 3 0, .int .i64], [.box [.ls, .int .i64, .ls, .bool], .box [.ls, .int .i64, .ls, .bool], .box [.int .i64, .ls, .ls, .int .i64, .str, .str, .ls], .box [.int .i64, .ls, .ls, .int .i64, .str, .str, .ls]]))])], [(13, [.ls, .int .i64, .ls, .bool]), (22, [.ls, .int .i64, .ls, .bool]), (26, [.ls, .int .i64, .ls, .bool]), (33, [.ls, .int .i64, .ls, .bool]), (35, [.int .i64, .ls, .ls, .int .i64, .str, .str, .ls]), (36, [.int .i64, .ls, .ls, .int .i64, .str, .str, .ls]), (41, [.ls, .int .i64, .ls, .bool]), (44, [.ls, .int .i64, .ls, .bool]), (45, [.int .i64, .ls, .ls, .int .i64, .str, .str, .ls])]⟩
/- plumbline/plumblineref11.Cond -/
def hs10 : Hints := [⟨46, [false, true, true, false, true, true, false, true, true], [], [2, 4, 5, 7], [(1, ([false, false, true, false, true, true, false, true, true], ([], [])))]⟩]
noncomputable def mf10 : MFn := mfD Try.prog entsC hs10 false false 10
def hn10 : Hnt := ⟨[(18, (.bool, [])), (28, (.agg [.ls, .int .i64, .ls, .bool], [])), (32, (.tup [.agg [.ls, .int .i64, .ls, .bool], .agg [.int .i64, .ls, .ls, .int .i64, .str, .str, .ls], .int .i64], []))], [(0, [(1, ([.ptr 0 0, .ptr 1 0, .ptr 2 0, .ptr 3 0, .int .i64], [.box [.ls, .int .i64, .ls, .bool], .box [.ls, .int .i64, .ls, .bool], .box [.int .i64, .ls, .ls, .int .i64, .str, .str, .ls], .box [.int .i64, .ls, .ls, .int .i64, .str, .str, .ls]]))])], [(13, [.ls, .int .i64, .ls, .bool]), (22, [.ls, .int .i64, .ls, .bool]), (26, [.ls, .int .i64, .ls, .bool]), (33, [.ls, .int .i64, .ls, .bool]), (35, [.int .i64, .ls, .ls, .int .i64, .str, .str, .ls]), (36, [.int .i64, .ls, .ls, .int .i64, .str, .str, .ls]), (41, [.ls, .int .i64, .ls, .bool]), (44, [.ls, .int .i64, .ls, .bool]), (45, [.int .i64, .ls, .ls, .int .i64, .str, .str, .ls])]⟩
/- plumbline/plumblineref11.End -/
def hs14 : Hints := []
noncomputable def mf14 : MFn := mfD Try.prog entsC hs14 false false 14
def hn14 : Hnt := ⟨[(15, (.agg [.int .i64, .str, .int .i64, .int .i64], []))], [], [(9, [.ls, .int .i64, .ls, .bool]), (16, [.ls, .int .i64, .ls, .bool])]⟩
noncomputable def tabRa : List (Nat × MFn) := [(45, mf45), (30, mf30), (15, mf15), (18, mf18), (28, mf28), (29, mf29), (65, mf65), (11, mf11), (12, mf12), (8, mf8), (58, mf58), (48, mf48), (32, mf32), (10, mf10), (14, mf14)]
theorem e45 (A : Ar) (D : Orc) (x0 : List (List AV)) (x1 : ByteArray) : fnK A D ownC hn45 .n 45 mf45 [AV.ls x0, sv x1] [] =
  askK D (Key.lp 45 0) [AV.ls x0, sv x1, iv 0] [] fun r o =>
  unTup r fun cs =>
  unCons cs fun c l =>
  br (axIs 0 c)
   (cInt IntKind.i64 l fun n l1 =>
   unNil l1 <|
   unEnd o <|
   some ((iv n, [])))
   (br (axIs 1 c)
    (unNil l <|
    unEnd o <|
    some ((iv (-1), [])))
    (none)) := by kernel_rfl

theorem e45_0 (A : Ar) (D : Orc) (t0 : List (List AV)) (t1 : ByteArray) (t5 : Int) : lpK A D ownC hn45 .n 45 0 (lpAt mf45 0).fst (lpAt mf45 0).snd [AV.ls t0, sv t1, iv t5] [] =
  br (A.lt t5 ↑(lenR t0))
   (unI t5 fun i =>
   nthK t0 i fun cs =>
   cStr cs fun s l =>
   unNil l <|
   br (A.seq s t1)
    (some ((AV.tup [bv true, iv t5], [])))
    (askK D (Key.lp 45 0) [AV.ls t0, sv t1, iv (A.add IntKind.i64 t5 1)] [] fun r o =>
    tailK 0 [] (AH.mk [] 0 none) [] r o))
   (some ((AV.tup [iv 0], []))) := by kernel_rfl

theorem e30 (A : Ar) (D : Orc) (x0 : List (List AV)) (x1 : ByteArray) : fnK A D ownC hn30 .n 30 mf30 [AV.ls x0, sv x1] [] =
  askK D (Key.fn 45) [AV.ls x0, sv x1] [] fun r o =>
  unInt IntKind.i64 r fun n =>
  unEnd o <|
  br (A.le 0 n)
   (some ((bv true, [])))
   (some ((bv false, []))) := by kernel_rfl

theorem e15 (A : Ar) (D : Orc) (x0_0 : List (List AV)) (x0_1 : Int) (x0_2 : List (List AV)) (x0_3 : Bool) : fnK A D ownC hn15 .n 15 mf15 [AV.agg [AV.ls x0_0, iv x0_1, AV.ls x0_2, bv x0_3]] [] =
  br (A.eq (↑(lenR x0_0)) 0)
   (some ((AV.agg [iv 5, sv (bstr []), iv 0, iv 0], [])))
   (br (A.lt x0_1 0)
    (nthK x0_0 0 fun cs =>
    cInt IntKind.i64 cs fun n l =>
    cStr l fun s l1 =>
    cInt IntKind.i64 l1 fun n1 l2 =>
    cInt IntKind.i64 l2 fun n2 l3 =>
    unNil l3 <|
    some ((AV.agg [iv n, sv s, iv n1, iv n2], [])))
    (br (A.le (↑(lenR x0_0)) x0_1)
     (unI (A.sub IntKind.i64 (↑(lenR x0_0)) 1) fun i =>
     nthK x0_0 i fun cs =>
     cInt IntKind.i64 cs fun n l =>
     cStr l fun s l1 =>
     cInt IntKind.i64 l1 fun n1 l2 =>
     cInt IntKind.i64 l2 fun n2 l3 =>
     unNil l3 <|
     some ((AV.agg [iv n, sv s, iv n1, iv n2], [])))
     (unI x0_1 fun i =>
     nthK x0_0 i fun cs =>
     cInt IntKind.i64 cs fun n l =>
     cStr l fun s l1 =>
     cInt IntKind.i64 l1 fun n1 l2 =>
     cInt IntKind.i64 l2 fun n2 l3 =>
     unNil l3 <|
     some ((AV.agg [iv n, sv s, iv n1, iv n2], []))))) := by kernel_rfl

theorem e18 (A : Ar) (D : Orc) (x0_0 : List (List AV)) (x0_1 : Int) (x0_2 : List (List AV)) (x0_3 : Bool) (x1 : ByteArray) : fnK A D ownC hn18 .n 18 mf18 [AV.agg [AV.ls x0_0, iv x0_1, AV.ls x0_2, bv x0_3], sv x1] [] =
  askK D (Key.fn 15) [AV.agg [AV.ls x0_0, iv x0_1, AV.ls x0_2, bv x0_3]] [] fun r o =>
  unAgg r fun cs =>
  cInt IntKind.i64 cs fun n l =>
  cStr l fun s l1 =>
  cInt IntKind.i64 l1 fun _ l2 =>
  cInt IntKind.i64 l2 fun _ l3 =>
  unNil l3 <|
  unEnd o <|
  br (A.seq s x1)
   (br (A.eq n 1)
    (some ((bv true, [])))
    (br (A.eq n 2)
     (some ((bv true, [])))
     (br (A.eq n 4)
      (some ((bv true, [])))
      (some ((bv false, []))))))
   (some ((bv false, []))) := by kernel_rfl

theorem e28 (A : Ar) (D : Orc) (x0_0 : List (List AV)) (x0_1 : Int) (x0_2 : List (List AV)) (x0_3 : Bool) : fnK A D ownC hn28 .n 28 mf28 [AV.agg [AV.ls x0_0, iv x0_1, AV.ls x0_2, bv x0_3]] [] =
  some ((AV.agg [AV.ls x0_0, iv (A.add IntKind.i64 x0_1 1), AV.ls x0_2, bv x0_3], [])) := by kernel_rfl

theorem e29 (A : Ar) (D : Orc) (x0_0 : List (List AV)) (x0_1 : Int) (x0_2 : List (List AV)) (x0_3 : Bool) : fnK A D ownC hn29 .n 29 mf29 [AV.agg [AV.ls x0_0, iv x0_1, AV.ls x0_2, bv x0_3]] [] =
  askK D (Key.fn 15) [AV.agg [AV.ls x0_0, iv x0_1, AV.ls x0_2, bv x0_3]] [] fun r o =>
  unAgg r fun cs =>
  cInt IntKind.i64 cs fun n l =>
  cStr l fun s l1 =>
  cInt IntKind.i64 l1 fun _ l2 =>
  cInt IntKind.i64 l2 fun _ l3 =>
  unNil l3 <|
  unEnd o <|
  br (A.eq n 1)
   (askK D (Key.fn 44) [sv s] [] fun r1 o1 =>
   unBool r1 fun b =>
   unEnd o1 <|
   br b
    (some ((bv true, [])))
    (some ((bv false, []))))
   (some ((bv false, []))) := by kernel_rfl

theorem e65 (A : Ar) (D : Orc) (x0 : Int) : fnK A D ownC hn65 .n 65 mf65 [iv x0] [] =
  br (A.eq x0 0)
   (some ((sv (bstr [61]), [])))
   (br (A.eq x0 1)
    (some ((sv (bstr [33, 61]), [])))
    (br (A.eq x0 2)
     (some ((sv (bstr [60]), [])))
     (br (A.eq x0 3)
      (some ((sv (bstr [60, 61]), [])))
      (br (A.eq x0 4)
       (some ((sv (bstr [62]), [])))
       (some ((sv (bstr [62, 61]), []))))))) := by kernel_rfl

theorem e11 (A : Ar) (D : Orc) (x0 : List (List AV)) (x1 : List (List AV)) : fnK A D ownC hn11 .n 11 mf11 [AV.ls x0, AV.ls x1] [] =
  br (A.eq ↑(lenR x0) ↑(lenR x1))
   (askK D (Key.lp 11 0) [AV.ls x0, AV.ls x1, iv 0] [] fun r o =>
   unTup r fun cs =>
   unCons cs fun c l =>
   br (axIs 0 c)
    (cBool l fun b l1 =>
    unNil l1 <|
    unEnd o <|
    some ((bv b, [])))
    (br (axIs 1 c)
     (unNil l <|
     unEnd o <|
     some ((bv true, [])))
     (none)))
   (some ((bv false, []))) := by kernel_rfl

theorem e11_0 (A : Ar) (D : Orc) (t0 : List (List AV)) (t1 : List (List AV)) (t5 : Int) : lpK A D ownC hn11 .n 11 0 (lpAt mf11 0).fst (lpAt mf11 0).snd [AV.ls t0, AV.ls t1, iv t5] [] =
  br (A.lt t5 ↑(lenR t0))
   (unI t5 fun i =>
   nthK t0 i fun cs =>
   cBool cs fun b l =>
   cStr l fun s l1 =>
   cStr l1 fun s1 l2 =>
   unNil l2 <|
   unI t5 fun i1 =>
   nthK t1 i1 fun cs1 =>
   cBool cs1 fun b1 l3 =>
   cStr l3 fun s2 l4 =>
   cStr l4 fun s3 l5 =>
   unNil l5 <|
   br (A.not (A.band (A.beq b b1) (A.band (A.seq s s2) (A.band (A.seq s1 s3) true))))
    (some ((AV.tup [bv true, bv false], [])))
    (askK D (Key.lp 11 0) [AV.ls t0, AV.ls t1, iv (A.add IntKind.i64 t5 1)] [] fun r o =>
    tailK 0 [] (AH.mk [] 0 none) [] r o))
   (some ((AV.tup [iv 0], []))) := by kernel_rfl

theorem e12 (A : Ar) (D : Orc) (x0_0 : Int) (x0_1 : List (List AV)) (x0_2 : List (List AV)) (x0_3 : Int) (x0_4 : ByteArray) (x0_5 : ByteArray) (x0_6 : List (List AV)) (x1_0 : Int) (x1_1 : List (List AV)) (x1_2 : List (List AV)) (x1_3 : Int) (x1_4 : ByteArray) (x1_5 : ByteArray) (x1_6 : List (List AV)) : fnK A D ownC hn12 .n 12 mf12 [AV.agg [iv x0_0, AV.ls x0_1, AV.ls x0_2, iv x0_3, sv x0_4, sv x0_5, AV.ls x0_6], AV.agg [iv x1_0, AV.ls x1_1, AV.ls x1_2, iv x1_3, sv x1_4, sv x1_5, AV.ls x1_6]] [] =
  br (A.eq x0_0 x1_0)
   (br (A.eq x0_3 x1_3)
    (br (A.seq x0_4 x1_4)
     (br (A.seq x0_5 x1_5)
      (askK D (Key.fn 11) [AV.ls x0_1, AV.ls x1_1] [] fun r o =>
      unBool r fun b =>
      unEnd o <|
      br b
       (askK D (Key.fn 11) [AV.ls x0_2, AV.ls x1_2] [] fun r1 o1 =>
       unBool r1 fun b1 =>
       unEnd o1 <|
       br b1
        (br (A.eq ↑(lenR x0_6) ↑(lenR x1_6))
         (askK D (Key.lp 12 0) [AV.ptr 0 0, AV.ptr 1 0, iv 0] [ABlk.mk [iv x0_0, AV.ls x0_1, AV.ls x0_2, iv x0_3, sv x0_4, sv x0_5, AV.ls x0_6] true false, ABlk.mk [iv x1_0, AV.ls x1_1, AV.ls x1_2, iv x1_3, sv x1_4, sv x1_5, AV.ls x1_6] true false] fun r2 o2 =>
         unTup r2 fun cs =>
         unCons cs fun c l =>
         br (axIs 0 c)
          (cBool l fun b2 l1 =>
          unNil l1 <|
          unOut o2 fun c1 l2 =>
          unDel c1 <|
          unOut l2 fun c2 l3 =>
          unDel c2 <|
          unEnd l3 <|
          some ((bv b2, [])))
          (br (axIs 1 c)
           (unNil l <|
           unOut o2 fun c1 l1 =>
           unDel c1 <|
           unOut l1 fun c2 l2 =>
           unDel c2 <|
           unEnd l2 <|
           some ((bv true, [])))
           (none)))
         (some ((bv false, []))))
        (some ((bv false, []))))
       (some ((bv false, []))))
      (some ((bv false, []))))
     (some ((bv false, []))))
    (some ((bv false, []))))
   (some ((bv false, []))) := by kernel_rfl

theorem e12_0 (A : Ar) (D : Orc) (b2_0 : Int) (b2_1 : List (List AV)) (b2_2 : List (List AV)) (b2_3 : Int) (b2_4 : ByteArray) (b2_5 : ByteArray) (b2_6 : List (List AV)) (b3_0 : Int) (b3_1 : List (List AV)) (b3_2 : List (List AV)) (b3_3 : Int) (b3_4 : ByteArray) (b3_5 : ByteArray) (b3_6 : List (List AV)) (t5 : Int) : lpK A D ownC hn12 .n 12 0 (lpAt mf12 0).fst (lpAt mf12 0).snd [AV.ptr 0 0, AV.ptr 1 0, iv t5] [{ cells := [iv b2_0, AV.ls b2_1, AV.ls b2_2, iv b2_3, sv b2_4, sv b2_5, AV.ls b2_6], st := true, ex := false }, { cells := [iv b3_0, AV.ls b3_1, AV.ls b3_2, iv b3_3, sv b3_4, sv b3_5, AV.ls b3_6], st := true, ex := false }] =
  br (A.lt t5 ↑(lenR b2_6))
   (unI t5 fun i =>
   nthK b2_6 i fun cs =>
   cInt IntKind.i64 cs fun n l =>
   cLs l fun xs l1 =>
   cLs l1 fun xs1 l2 =>
   cInt IntKind.i64 l2 fun n1 l3 =>
   cStr l3 fun s l4 =>
   cStr l4 fun s1 l5 =>
   cLs l5 fun xs2 l6 =>
   unNil l6 <|
   unI t5 fun i1 =>
   nthK b3_6 i1 fun cs1 =>
   cInt IntKind.i64 cs1 fun n2 l7 =>
   cLs l7 fun xs3 l8 =>
   cLs l8 fun xs4 l9 =>
   cInt IntKind.i64 l9 fun n3 l10 =>
   cStr l10 fun s2 l11 =>
   cStr l11 fun s3 l12 =>
   cLs l12 fun xs5 l13 =>
   unNil l13 <|
   askK D (Key.fn 12) [AV.agg [iv n, AV.ls xs, AV.ls xs1, iv n1, sv s, sv s1, AV.ls xs2], AV.agg [iv n2, AV.ls xs3, AV.ls xs4, iv n3, sv s2, sv s3, AV.ls xs5]] [] fun r o =>
   unBool r fun b =>
   unEnd o <|
   br b
    (askK D (Key.lp 12 0) [AV.ptr 0 0, AV.ptr 1 0, iv (A.add IntKind.i64 t5 1)] [ABlk.mk [iv b2_0, AV.ls b2_1, AV.ls b2_2, iv b2_3, sv b2_4, sv b2_5, AV.ls b2_6] true false, ABlk.mk [iv b3_0, AV.ls b3_1, AV.ls b3_2, iv b3_3, sv b3_4, sv b3_5, AV.ls b3_6] true false] fun r1 o1 =>
    tailK 2 [0, 1] (AH.mk [(1, ABlk.mk [iv b3_0, AV.ls b3_1, AV.ls b3_2, iv b3_3, sv b3_4, sv b3_5, AV.ls b3_6] true false), (0, ABlk.mk [iv b2_0, AV.ls b2_1, AV.ls b2_2, iv b2_3, sv b2_4, sv b2_5, AV.ls b2_6] true false)] 2 none) [0, 1] r1 o1)
    (some ((AV.tup [bv true, bv false], [BO.del, BO.del]))))
   (some ((AV.tup [iv 0], [BO.del, BO.del]))) := by kernel_rfl

theorem e8 (A : Ar) (D : Orc) (x0_0 : List (List AV)) (x0_1 : Int) (x0_2 : List (List AV)) (x0_3 : Bool) : fnK A D ownC hn8 .n 8 mf8 [AV.agg [AV.ls x0_0, iv x0_1, AV.ls x0_2, bv x0_3]] [] =
  askK D (Key.fn 18) [AV.agg [AV.ls x0_0, iv x0_1, AV.ls x0_2, bv x0_3], sv (bstr [45])] [] fun r o =>
  unBool r fun b =>
  unEnd o <|
  br b
   (askK D (Key.fn 28) [AV.agg [AV.ls x0_0, iv x0_1, AV.ls x0_2, bv x0_3]] [] fun r1 o1 =>
   unAgg r1 fun cs =>
   cLs cs fun xs l =>
   cInt IntKind.i64 l fun n l1 =>
   cLs l1 fun xs1 l2 =>
   cBool l2 fun b1 l3 =>
   unNil l3 <|
   unEnd o1 <|
   askK D (Key.lp 8 0) [AV.ptr 0 0, AV.ptr 1 0, AV.sl 2 0 0 3, bv true] [ABlk.mk [AV.ls xs, iv n, AV.ls xs1, bv b1] true false, ABlk.mk [AV.ls [], iv 0, AV.ls [], bv false] true false, ABlk.mk [] true true] fun r2 o2 =>
   unTup r2 fun cs1 =>
   unCons cs1 fun c l4 =>
   br (axIs 0 c)
    (unCons l4 fun c1 l5 =>
    unPtr 1 0 c1 <|
    cLs l5 fun xs2 l6 =>
    cInt IntKind.i64 l6 fun n1 l7 =>
    unNil l7 <|
    unOut o2 fun c2 l8 =>
    unDel c2 <|
    unOut l8 fun c3 l9 =>
    unSet true false c3 fun cs2 =>
    cLs cs2 fun xs3 l10 =>
    cInt IntKind.i64 l10 fun n2 l11 =>
    cLs l11 fun xs4 l12 =>
    cBool l12 fun b2 l13 =>
    unNil l13 <|
    unOut l9 fun c4 l14 =>
    unDel c4 <|
    unEnd l14 <|
    some ((AV.tup [AV.agg [AV.ls xs3, iv n2, AV.ls xs4, bv b2], AV.ls xs2, iv n1], [])))
    (none))
   (askK D (Key.lp 8 0) [AV.ptr 0 0, AV.ptr 1 0, AV.sl 2 0 0 3, bv false] [ABlk.mk [AV.ls x0_0, iv x0_1, AV.ls x0_2, bv x0_3] true false, ABlk.mk [AV.ls [], iv 0, AV.ls [], bv false] true false, ABlk.mk [] true true] fun r1 o1 =>
   unTup r1 fun cs =>
   unCons cs fun c l =>
   br (axIs 0 c)
    (unCons l fun c1 l1 =>
    unPtr 1 0 c1 <|
    cLs l1 fun xs l2 =>
    cInt IntKind.i64 l2 fun n l3 =>
    unNil l3 <|
    unOut o1 fun c2 l4 =>
    unDel c2 <|
    unOut l4 fun c3 l5 =>
    unSet true false c3 fun cs1 =>
    cLs cs1 fun xs1 l6 =>
    cInt IntKind.i64 l6 fun n1 l7 =>
    cLs l7 fun xs2 l8 =>
    cBool l8 fun b1 l9 =>
    unNil l9 <|
    unOut l5 fun c4 l10 =>
    unDel c4 <|
    unEnd l10 <|
    some ((AV.tup [AV.agg [AV.ls xs1, iv n1, AV.ls xs2, bv b1], AV.ls xs, iv n], [])))
    (none)) := by kernel_rfl

theorem e8_0 (A : Ar) (D : Orc) (b1_0 : List (List AV)) (b1_1 : Int) (b1_2 : List (List AV)) (b1_3 : Bool) (b2_0 : List (List AV)) (b2_1 : Int) (b2_2 : List (List AV)) (b2_3 : Bool) (n5 : Nat) (c5 : List AV) (t6 : Bool) : lpK A D ownC hn8 (.b (.b .n (.b .n (.b .n (.b .n (.b .n (.b .n (.b .n (.b .n (.b .n (.t (.b (.b (.b .n (.b .n (.b (.b (.b (.t (.b .n (.b .n (.b (.b .n (.b .n (.b (.t (.t (.t (.t (.b (.t (.b .n (.t .n))) (.t (.b (.t .n) .n))))))) (.f (.f (.f (.f (.f (.f .n))))))))) .n)))) .n) .n) .n))) (.b (.b (.b (.b .n (.b (.b (.f (.b (.b (.b (.b .n (.b .n (.b (.t (.t (.t (.t (.b (.t (.b .n (.t .n))) (.t (.b (.t .n) .n))))))) (.f (.f (.f (.f (.f (.f .n))))))))) .n) .n) .n)) .n) .n)) .n) .n) .n)) .n))))))))))) (.b (.b (.b (.b (.b (.b .n (.b (.b .n (.b .n (.b .n (.b .n (.f (.b .n (.b (.b .n (.b .n (.b (.b (.b (.t (.b .n (.b .n (.b (.b .n (.b .n (.b (.t (.t (.t (.t (.b (.t (.b .n (.t .n))) (.t (.b (.t .n) .n))))))) (.f (.f (.f (.f (.f (.f .n))))))))) .n)))) .n) .n) .n))) (.b (.b (.b (.b .n (.b (.b (.f (.b (.b (.b (.b .n (.b .n (.b (.t (.t (.t (.t (.b (.t (.b .n (.t .n))) (.t (.b (.t .n) .n))))))) (.f (.f (.f (.f (.f (.f .n))))))))) .n) .n) .n)) .n) .n)) .n) .n) .n)))))))) .n)) .n) .n) .n) .n) .n)) 8 0 (lpAt mf8 0).fst (lpAt mf8 0).snd [AV.ptr 0 0, AV.ptr 1 0, AV.sl 2 0 n5 3, bv t6] [{ cells := [AV.ls b1_0, iv b1_1, AV.ls b1_2, bv b1_3], st := true, ex := false }, { cells := [AV.ls b2_0, iv b2_1, AV.ls b2_2, bv b2_3], st := true, ex := false }, { cells := c5, st := true, ex := true }] =
  askK D (Key.fn 15) [AV.agg [AV.ls b1_0, iv b1_1, AV.ls b1_2, bv b1_3]] [] fun r o =>
  unAgg r fun cs =>
  cInt IntKind.i64 cs fun n l =>
  cStr l fun s l1 =>
  cInt IntKind.i64 l1 fun n1 l2 =>
  cInt IntKind.i64 l2 fun n2 l3 =>
  unNil l3 <|
  unEnd o <|
  br (A.eq n 3)
   (br (A.eq (↑n5) 64)
    (some ((AV.tup [bv true, AV.ptr 1 0, AV.ls [], iv 3], [BO.del, BO.set (ABlk.mk [AV.ls b1_0, iv b1_1, AV.ls b1_2, bv b1_3] true false), BO.del])))
    (br (A.eq n 3) (askK D (Key.fn 28) [AV.agg [AV.ls b1_0, iv b1_1, AV.ls b1_2, bv b1_3]] [] fun r1 o1 =>
    unAgg r1 fun cs1 =>
    cLs cs1 fun xs l4 =>
    cInt IntKind.i64 l4 fun n3 l5 =>
    cLs l5 fun xs1 l6 =>
    cBool l6 fun b l7 =>
    unNil l7 <|
    unEnd o1 <|
    br (A.seq s (bstr []))
     (br (A.seq s (bstr [])) (askK D (Key.fn 29) [AV.agg [AV.ls xs, iv n3, AV.ls xs1, bv b]] [] fun r2 o2 =>
     unBool r2 fun b1 =>
     unEnd o2 <|
     br b1
      (askK D (Key.fn 15) [AV.agg [AV.ls xs, iv n3, AV.ls xs1, bv b]] [] fun r3 o3 =>
      unAgg r3 fun cs2 =>
      cInt IntKind.i64 cs2 fun _ l8 =>
      cStr l8 fun s1 l9 =>
      cInt IntKind.i64 l9 fun _ l10 =>
      cInt IntKind.i64 l10 fun _ l11 =>
      unNil l11 <|
      unEnd o3 <|
      br b
       (br b (br b (br b (br b (askK D (Key.fn 30) [AV.ls xs1, sv s1] [] fun r4 o4 =>
       unBool r4 fun b2 =>
       unEnd o4 <|
       br b2
        (br b (br b (askK D (Key.fn 28) [AV.agg [AV.ls xs, iv n3, AV.ls xs1, bv b]] [] fun r5 o5 =>
        unAgg r5 fun cs3 =>
        cLs cs3 fun xs2 l12 =>
        cInt IntKind.i64 l12 fun n8 l13 =>
        cLs l13 fun xs3 l14 =>
        cBool l14 fun b3 l15 =>
        unNil l15 <|
        unEnd o5 <|
        br (fitsB (n5 + 1) 40) (br ((0 + n5 * 3).ble c5.length) (askK D (Key.fn 18) [AV.agg [AV.ls xs2, iv n8, AV.ls xs3, bv b3], sv (bstr [45])] [] fun r6 o6 =>
          unBool r6 fun b4 =>
          unEnd o6 <|
          br b4
           (askK D (Key.fn 28) [AV.agg [AV.ls xs2, iv n8, AV.ls xs3, bv b3]] [] fun r7 o7 =>
           unAgg r7 fun cs4 =>
           cLs cs4 fun xs4 l16 =>
           cInt IntKind.i64 l16 fun n9 l17 =>
           cLs l17 fun xs5 l18 =>
           cBool l18 fun b5 l19 =>
           unNil l19 <|
           unEnd o7 <|
           askK D (Key.lp 8 0) [AV.ptr 0 0, AV.ptr 1 0, AV.sl 2 0 (n5 + 1) 3, bv true] [ABlk.mk [AV.ls xs4, iv n9, AV.ls xs5, bv b5] true false, ABlk.mk [AV.ls b2_0, iv b2_1, AV.ls b2_2, bv b2_3] true false, ABlk.mk (List.drop 0 (List.take (0 + n5 * 3) c5) ++ [bv t6, sv s, sv s1]) true true] fun r8 o8 =>
           tailK 3 [0, 1, 6] (AH.mk [(1, ABlk.mk [AV.ls b2_0, iv b2_1, AV.ls b2_2, bv b2_3] true false), (0, ABlk.mk [AV.ls xs4, iv n9, AV.ls xs5, bv b5] true false), (6, ABlk.mk (List.drop 0 (List.take (0 + n5 * 3) c5) ++ [bv t6, sv s, sv s1]) true true), (5, ABlk.mk [bv t6, sv s, sv s1] true true), (4, ABlk.mk [bv t6, sv s, sv s1] true false), (3, ABlk.mk [iv n, sv s, iv n1, iv n2] true false)] 7 none) [2, 0, 1] r8 o8)
           (askK D (Key.fn 18) [AV.agg [AV.ls xs2, iv n8, AV.ls xs3, bv b3], sv (bstr [43])] [] fun r7 o7 =>
           unBool r7 fun b5 =>
           unEnd o7 <|
           br b5
            (askK D (Key.fn 28) [AV.agg [AV.ls xs2, iv n8, AV.ls xs3, bv b3]] [] fun r8 o8 =>
            unAgg r8 fun cs4 =>
            cLs cs4 fun xs4 l16 =>
            cInt IntKind.i64 l16 fun n9 l17 =>
            cLs l17 fun xs5 l18 =>
            cBool l18 fun b6 l19 =>
            unNil l19 <|
            unEnd o8 <|
            askK D (Key.lp 8 0) [AV.ptr 0 0, AV.ptr 1 0, AV.sl 2 0 (n5 + 1) 3, bv false] [ABlk.mk [AV.ls xs4, iv n9, AV.ls xs5, bv b6] true false, ABlk.mk [AV.ls b2_0, iv b2_1, AV.ls b2_2, bv b2_3] true false, ABlk.mk (List.drop 0 (List.take (0 + n5 * 3) c5) ++ [bv t6, sv s, sv s1]) true true] fun r9 o9 =>
            tailK 3 [0, 1, 6] (AH.mk [(1, ABlk.mk [AV.ls b2_0, iv b2_1, AV.ls b2_2, bv b2_3] true false), (0, ABlk.mk [AV.ls xs4, iv n9, AV.ls xs5, bv b6] true false), (6, ABlk.mk (List.drop 0 (List.take (0 + n5 * 3) c5) ++ [bv t6, sv s, sv s1]) true true), (5, ABlk.mk [bv t6, sv s, sv s1] true true), (4, ABlk.mk [bv t6, sv s, sv s1] true false), (3, ABlk.mk [iv n, sv s, iv n1, iv n2] true false)] 7 none) [2, 0, 1] r9 o9)
            (br ((0 + (n5 + 1) * 3).ble (List.drop 0 (List.take (0 + n5 * 3) c5) ++ [bv t6, sv s, sv s1]).length) (some ((AV.tup [bv true, AV.ptr 1 0, AV.ls (chunk (n5 + 1) 3 (List.take ((n5 + 1) * 3) (List.drop 0 (List.drop 0 (List.take (0 + n5 * 3) c5) ++ [bv t6, sv s, sv s1])))), iv 0], [BO.del, BO.set (ABlk.mk [AV.ls xs2, iv n8, AV.ls xs3, bv b3] true false), BO.del]))) none))) none) none) none) none)
        (br b (br b (some ((AV.tup [bv true, AV.ptr 1 0, AV.ls [], iv 110], [BO.del, BO.set (ABlk.mk [AV.ls xs, iv n3, AV.ls xs1, bv b] true false), BO.del]))) none) none)) none) none) none) none)
       (br b none (br b none (br b none (br b none (br b none (br b none (askK D (Key.fn 28) [AV.agg [AV.ls xs, iv n3, AV.ls xs1, bv b]] [] fun r4 o4 =>
       unAgg r4 fun cs3 =>
       cLs cs3 fun xs2 l12 =>
       cInt IntKind.i64 l12 fun n8 l13 =>
       cLs l13 fun xs3 l14 =>
       cBool l14 fun b2 l15 =>
       unNil l15 <|
       unEnd o4 <|
       br (fitsB (n5 + 1) 40) (br ((0 + n5 * 3).ble c5.length) (askK D (Key.fn 18) [AV.agg [AV.ls xs2, iv n8, AV.ls xs3, bv b2], sv (bstr [45])] [] fun r5 o5 =>
         unBool r5 fun b3 =>
         unEnd o5 <|
         br b3
          (askK D (Key.fn 28) [AV.agg [AV.ls xs2, iv n8, AV.ls xs3, bv b2]] [] fun r6 o6 =>
          unAgg r6 fun cs4 =>
          cLs cs4 fun xs4 l16 =>
          cInt IntKind.i64 l16 fun n9 l17 =>
          cLs l17 fun xs5 l18 =>
          cBool l18 fun b4 l19 =>
          unNil l19 <|
          unEnd o6 <|
          askK D (Key.lp 8 0) [AV.ptr 0 0, AV.ptr 1 0, AV.sl 2 0 (n5 + 1) 3, bv true] [ABlk.mk [AV.ls xs4, iv n9, AV.ls xs5, bv b4] true false, ABlk.mk [AV.ls b2_0, iv b2_1, AV.ls b2_2, bv b2_3] true false, ABlk.mk (List.drop 0 (List.take (0 + n5 * 3) c5) ++ [bv t6, sv s, sv s1]) true true] fun r7 o7 =>
          tailK 3 [0, 1, 6] (AH.mk [(1, ABlk.mk [AV.ls b2_0, iv b2_1, AV.ls b2_2, bv b2_3] true false), (0, ABlk.mk [AV.ls xs4, iv n9, AV.ls xs5, bv b4] true false), (6, ABlk.mk (List.drop 0 (List.take (0 + n5 * 3) c5) ++ [bv t6, sv s, sv s1]) true true), (5, ABlk.mk [bv t6, sv s, sv s1] true true), (4, ABlk.mk [bv t6, sv s, sv s1] true false), (3, ABlk.mk [iv n, sv s, iv n1, iv n2] true false)] 7 none) [2, 0, 1] r7 o7)
          (askK D (Key.fn 18) [AV.agg [AV.ls xs2, iv n8, AV.ls xs3, bv b2], sv (bstr [43])] [] fun r6 o6 =>
          unBool r6 fun b4 =>
          unEnd o6 <|
          br b4
           (askK D (Key.fn 28) [AV.agg [AV.ls xs2, iv n8, AV.ls xs3, bv b2]] [] fun r7 o7 =>
           unAgg r7 fun cs4 =>
           cLs cs4 fun xs4 l16 =>
           cInt IntKind.i64 l16 fun n9 l17 =>
           cLs l17 fun xs5 l18 =>
           cBool l18 fun b5 l19 =>
           unNil l19 <|
           unEnd o7 <|
           askK D (Key.lp 8 0) [AV.ptr 0 0, AV.ptr 1 0, AV.sl 2 0 (n5 + 1) 3, bv false] [ABlk.mk [AV.ls xs4, iv n9, AV.ls xs5, bv b5] true false, ABlk.mk [AV.ls b2_0, iv b2_1, AV.ls b2_2, bv b2_3] true false, ABlk.mk (List.drop 0 (List.take (0 + n5 * 3) c5) ++ [bv t6, sv s, sv s1]) true true] fun r8 o8 =>
           tailK 3 [0, 1, 6] (AH.mk [(1, ABlk.mk [AV.ls b2_0, iv b2_1, AV.ls b2_2, bv b2_3] true false), (0, ABlk.mk [AV.ls xs4, iv n9, AV.ls xs5, bv b5] true false), (6, ABlk.mk (List.drop 0 (List.take (0 + n5 * 3) c5) ++ [bv t6, sv s, sv s1]) true true), (5, ABlk.mk [bv t6, sv s, sv s1] true true), (4, ABlk.mk [bv t6, sv s, sv s1] true false), (3, ABlk.mk [iv n, sv s, iv n1, iv n2] true false)] 7 none) [2, 0, 1] r8 o8)
           (br ((0 + (n5 + 1) * 3).ble (List.drop 0 (List.take (0 + n5 * 3) c5) ++ [bv t6, sv s, sv s1]).length) (some ((AV.tup [bv true, AV.ptr 1 0, AV.ls (chunk (n5 + 1) 3 (List.take ((n5 + 1) * 3) (List.drop 0 (List.drop 0 (List.take (0 + n5 * 3) c5) ++ [bv t6, sv s, sv s1])))), iv 0], [BO.del, BO.set (ABlk.mk [AV.ls xs2, iv n8, AV.ls xs3, bv b2] true false), BO.del]))) none))) none) none))))))))
      (some ((AV.tup [bv true, AV.ptr 1 0, AV.ls [], iv 101], [BO.del, BO.set (ABlk.mk [AV.ls xs, iv n3, AV.ls xs1, bv b] true false), BO.del])))) none)
     (askK D (Key.fn 18) [AV.agg [AV.ls xs, iv n3, AV.ls xs1, bv b], sv (bstr [42])] [] fun r2 o2 =>
     unBool r2 fun b1 =>
     unEnd o2 <|
     br b1
      (br (A.seq s (bstr [])) none (askK D (Key.fn 28) [AV.agg [AV.ls xs, iv n3, AV.ls xs1, bv b]] [] fun r3 o3 =>
      unAgg r3 fun cs2 =>
      cLs cs2 fun xs2 l8 =>
      cInt IntKind.i64 l8 fun n4 l9 =>
      cLs l9 fun xs3 l10 =>
      cBool l10 fun b2 l11 =>
      unNil l11 <|
      unEnd o3 <|
      askK D (Key.fn 29) [AV.agg [AV.ls xs2, iv n4, AV.ls xs3, bv b2]] [] fun r4 o4 =>
      unBool r4 fun b3 =>
      unEnd o4 <|
      br b3
       (askK D (Key.fn 15) [AV.agg [AV.ls xs2, iv n4, AV.ls xs3, bv b2]] [] fun r5 o5 =>
       unAgg r5 fun cs3 =>
       cInt IntKind.i64 cs3 fun _ l12 =>
       cStr l12 fun s1 l13 =>
       cInt IntKind.i64 l13 fun _ l14 =>
       cInt IntKind.i64 l14 fun _ l15 =>
       unNil l15 <|
       unEnd o5 <|
       br b2
        (br b2 (br b2 (br b2 (br b2 (askK D (Key.fn 30) [AV.ls xs3, sv s1] [] fun r6 o6 =>
        unBool r6 fun b4 =>
        unEnd o6 <|
        br b4
         (br b2 (br b2 (askK D (Key.fn 28) [AV.agg [AV.ls xs2, iv n4, AV.ls xs3, bv b2]] [] fun r7 o7 =>
         unAgg r7 fun cs4 =>
         cLs cs4 fun xs4 l16 =>
         cInt IntKind.i64 l16 fun n9 l17 =>
         cLs l17 fun xs5 l18 =>
         cBool l18 fun b5 l19 =>
         unNil l19 <|
         unEnd o7 <|
         br (fitsB (n5 + 1) 40) (br ((0 + n5 * 3).ble c5.length) (askK D (Key.fn 18) [AV.agg [AV.ls xs4, iv n9, AV.ls xs5, bv b5], sv (bstr [45])] [] fun r8 o8 =>
           unBool r8 fun b6 =>
           unEnd o8 <|
           br b6
            (askK D (Key.fn 28) [AV.agg [AV.ls xs4, iv n9, AV.ls xs5, bv b5]] [] fun r9 o9 =>
            unAgg r9 fun cs5 =>
            cLs cs5 fun xs6 l20 =>
            cInt IntKind.i64 l20 fun n10 l21 =>
            cLs l21 fun xs7 l22 =>
            cBool l22 fun b7 l23 =>
            unNil l23 <|
            unEnd o9 <|
            askK D (Key.lp 8 0) [AV.ptr 0 0, AV.ptr 1 0, AV.sl 2 0 (n5 + 1) 3, bv true] [ABlk.mk [AV.ls xs6, iv n10, AV.ls xs7, bv b7] true false, ABlk.mk [AV.ls b2_0, iv b2_1, AV.ls b2_2, bv b2_3] true false, ABlk.mk (List.drop 0 (List.take (0 + n5 * 3) c5) ++ [bv t6, sv s, sv s1]) true true] fun r10 o10 =>
            tailK 3 [0, 1, 6] (AH.mk [(1, ABlk.mk [AV.ls b2_0, iv b2_1, AV.ls b2_2, bv b2_3] true false), (0, ABlk.mk [AV.ls xs6, iv n10, AV.ls xs7, bv b7] true false), (6, ABlk.mk (List.drop 0 (List.take (0 + n5 * 3) c5) ++ [bv t6, sv s, sv s1]) true true), (5, ABlk.mk [bv t6, sv s, sv s1] true true), (4, ABlk.mk [bv t6, sv s, sv s1] true false), (3, ABlk.mk [iv n, sv s, iv n1, iv n2] true false)] 7 none) [2, 0, 1] r10 o10)
            (askK D (Key.fn 18) [AV.agg [AV.ls xs4, iv n9, AV.ls xs5, bv b5], sv (bstr [43])] [] fun r9 o9 =>
            unBool r9 fun b7 =>
            unEnd o9 <|
            br b7
             (askK D (Key.fn 28) [AV.agg [AV.ls xs4, iv n9, AV.ls xs5, bv b5]] [] fun r10 o10 =>
             unAgg r10 fun cs5 =>
             cLs cs5 fun xs6 l20 =>
             cInt IntKind.i64 l20 fun n10 l21 =>
             cLs l21 fun xs7 l22 =>
             cBool l22 fun b8 l23 =>
             unNil l23 <|
             unEnd o10 <|
             askK D (Key.lp 8 0) [AV.ptr 0 0, AV.ptr 1 0, AV.sl 2 0 (n5 + 1) 3, bv false] [ABlk.mk [AV.ls xs6, iv n10, AV.ls xs7, bv b8] true false, ABlk.mk [AV.ls b2_0, iv b2_1, AV.ls b2_2, bv b2_3] true false, ABlk.mk (List.drop 0 (List.take (0 + n5 * 3) c5) ++ [bv t6, sv s, sv s1]) true true] fun r11 o11 =>
             tailK 3 [0, 1, 6] (AH.mk [(1, ABlk.mk [AV.ls b2_0, iv b2_1, AV.ls b2_2, bv b2_3] true false), (0, ABlk.mk [AV.ls xs6, iv n10, AV.ls xs7, bv b8] true false), (6, ABlk.mk (List.drop 0 (List.take (0 + n5 * 3) c5) ++ [bv t6, sv s, sv s1]) true true), (5, ABlk.mk [bv t6, sv s, sv s1] true true), (4, ABlk.mk [bv t6, sv s, sv s1] true false), (3, ABlk.mk [iv n, sv s, iv n1, iv n2] true false)] 7 none) [2, 0, 1] r11 o11)
             (br ((0 + (n5 + 1) * 3).ble (List.drop 0 (List.take (0 + n5 * 3) c5) ++ [bv t6, sv s, sv s1]).length) (some ((AV.tup [bv true, AV.ptr 1 0, AV.ls (chunk (n5 + 1) 3 (List.take ((n5 + 1) * 3) (List.drop 0 (List.drop 0 (List.take (0 + n5 * 3) c5) ++ [bv t6, sv s, sv s1])))), iv 0], [BO.del, BO.set (ABlk.mk [AV.ls xs4, iv n9, AV.ls xs5, bv b5] true false), BO.del]))) none))) none) none) none) none)
         (br b2 (br b2 (some ((AV.tup [bv true, AV.ptr 1 0, AV.ls [], iv 110], [BO.del, BO.set (ABlk.mk [AV.ls xs2, iv n4, AV.ls xs3, bv b2] true false), BO.del]))) none) none)) none) none) none) none)
        (br b2 none (br b2 none (br b2 none (br b2 none (br b2 none (br b2 none (askK D (Key.fn 28) [AV.agg [AV.ls xs2, iv n4, AV.ls xs3, bv b2]] [] fun r6 o6 =>
        unAgg r6 fun cs4 =>
        cLs cs4 fun xs4 l16 =>
        cInt IntKind.i64 l16 fun n9 l17 =>
        cLs l17 fun xs5 l18 =>
        cBool l18 fun b4 l19 =>
        unNil l19 <|
        unEnd o6 <|
        br (fitsB (n5 + 1) 40) (br ((0 + n5 * 3).ble c5.length) (askK D (Key.fn 18) [AV.agg [AV.ls xs4, iv n9, AV.ls xs5, bv b4], sv (bstr [45])] [] fun r7 o7 =>
          unBool r7 fun b5 =>
          unEnd o7 <|
          br b5
           (askK D (Key.fn 28) [AV.agg [AV.ls xs4, iv n9, AV.ls xs5, bv b4]] [] fun r8 o8 =>
           unAgg r8 fun cs5 =>
           cLs cs5 fun xs6 l20 =>
           cInt IntKind.i64 l20 fun n10 l21 =>
           cLs l21 fun xs7 l22 =>
           cBool l22 fun b6 l23 =>
           unNil l23 <|
           unEnd o8 <|
           askK D (Key.lp 8 0) [AV.ptr 0 0, AV.ptr 1 0, AV.sl 2 0 (n5 + 1) 3, bv true] [ABlk.mk [AV.ls xs6, iv n10, AV.ls xs7, bv b6] true false, ABlk.mk [AV.ls b2_0, iv b2_1, AV.ls b2_2, bv b2_3] true false, ABlk.mk (List.drop 0 (List.take (0 + n5 * 3) c5) ++ [bv t6, sv s, sv s1]) true true] fun r9 o9 =>
           tailK 3 [0, 1, 6] (AH.mk [(1, ABlk.mk [AV.ls b2_0, iv b2_1, AV.ls b2_2, bv b2_3] true false), (0, ABlk.mk [AV.ls xs6, iv n10, AV.ls xs7, bv b6] true false), (6, ABlk.mk (List.drop 0 (List.take (0 + n5 * 3) c5) ++ [bv t6, sv s, sv s1]) true true), (5, ABlk.mk [bv t6, sv s, sv s1] true true), (4, ABlk.mk [bv t6, sv s, sv s1] true false), (3, ABlk.mk [iv n, sv s, iv n1, iv n2] true false)] 7 none) [2, 0, 1] r9 o9)
           (askK D (Key.fn 18) [AV.agg [AV.ls xs4, iv n9, AV.ls xs5, bv b4], sv (bstr [43])] [] fun r8 o8 =>
           unBool r8 fun b6 =>
           unEnd o8 <|
           br b6
            (askK D (Key.fn 28) [AV.agg [AV.ls xs4, iv n9, AV.ls xs5, bv b4]] [] fun r9 o9 =>
            unAgg r9 fun cs5 =>
            cLs cs5 fun xs6 l20 =>
            cInt IntKind.i64 l20 fun n10 l21 =>
            cLs l21 fun xs7 l22 =>
            cBool l22 fun b7 l23 =>
            unNil l23 <|
            unEnd o9 <|
            askK D (Key.lp 8 0) [AV.ptr 0 0, AV.ptr 1 0, AV.sl 2 0 (n5 + 1) 3, bv false] [ABlk.mk [AV.ls xs6, iv n10, AV.ls xs7, bv b7] true false, ABlk.mk [AV.ls b2_0, iv b2_1, AV.ls b2_2, bv b2_3] true false, ABlk.mk (List.drop 0 (List.take (0 + n5 * 3) c5) ++ [bv t6, sv s, sv s1]) true true] fun r10 o10 =>
            tailK 3 [0, 1, 6] (AH.mk [(1, ABlk.mk [AV.ls b2_0, iv b2_1, AV.ls b2_2, bv b2_3] true false), (0, ABlk.mk [AV.ls xs6, iv n10, AV.ls xs7, bv b7] true false), (6, ABlk.mk (List.drop 0 (List.take (0 + n5 * 3) c5) ++ [bv t6, sv s, sv s1]) true true), (5, ABlk.mk [bv t6, sv s, sv s1] true true), (4, ABlk.mk [bv t6, sv s, sv s1] true false), (3, ABlk.mk [iv n, sv s, iv n1, iv n2] true false)] 7 none) [2, 0, 1] r10 o10)
            (br ((0 + (n5 + 1) * 3).ble (List.drop 0 (List.take (0 + n5 * 3) c5) ++ [bv t6, sv s, sv s1]).length) (some ((AV.tup [bv true, AV.ptr 1 0, AV.ls (chunk (n5 + 1) 3 (List.take ((n5 + 1) * 3) (List.drop 0 (List.drop 0 (List.take (0 + n5 * 3) c5) ++ [bv t6, sv s, sv s1])))), iv 0], [BO.del, BO.set (ABlk.mk [AV.ls xs4, iv n9, AV.ls xs5, bv b4] true false), BO.del]))) none))) none) none))))))))
       (some ((AV.tup [bv true, AV.ptr 1 0, AV.ls [], iv 101], [BO.del, BO.set (ABlk.mk [AV.ls xs2, iv n4, AV.ls xs3, bv b2] true false), BO.del])))))
      (br (fitsB (n5 + 1) 40) (br ((0 + n5 * 3).ble c5.length) (askK D (Key.fn 18) [AV.agg [AV.ls xs, iv n3, AV.ls xs1, bv b], sv (bstr [45])] [] fun r3 o3 =>
        unBool r3 fun b2 =>
        unEnd o3 <|
        br b2
         (askK D (Key.fn 28) [AV.agg [AV.ls xs, iv n3, AV.ls xs1, bv b]] [] fun r4 o4 =>
         unAgg r4 fun cs2 =>
         cLs cs2 fun xs2 l8 =>
         cInt IntKind.i64 l8 fun n4 l9 =>
         cLs l9 fun xs3 l10 =>
         cBool l10 fun b3 l11 =>
         unNil l11 <|
         unEnd o4 <|
         askK D (Key.lp 8 0) [AV.ptr 0 0, AV.ptr 1 0, AV.sl 2 0 (n5 + 1) 3, bv true] [ABlk.mk [AV.ls xs2, iv n4, AV.ls xs3, bv b3] true false, ABlk.mk [AV.ls b2_0, iv b2_1, AV.ls b2_2, bv b2_3] true false, ABlk.mk (List.drop 0 (List.take (0 + n5 * 3) c5) ++ [bv t6, sv s, sv (bstr [])]) true true] fun r5 o5 =>
         tailK 3 [0, 1, 6] (AH.mk [(1, ABlk.mk [AV.ls b2_0, iv b2_1, AV.ls b2_2, bv b2_3] true false), (0, ABlk.mk [AV.ls xs2, iv n4, AV.ls xs3, bv b3] true false), (6, ABlk.mk (List.drop 0 (List.take (0 + n5 * 3) c5) ++ [bv t6, sv s, sv (bstr [])]) true true), (5, ABlk.mk [bv t6, sv s, sv (bstr [])] true true), (4, ABlk.mk [bv t6, sv s, sv (bstr [])] true false), (3, ABlk.mk [iv n, sv s, iv n1, iv n2] true false)] 7 none) [2, 0, 1] r5 o5)
         (askK D (Key.fn 18) [AV.agg [AV.ls xs, iv n3, AV.ls xs1, bv b], sv (bstr [43])] [] fun r4 o4 =>
         unBool r4 fun b3 =>
         unEnd o4 <|
         br b3
          (askK D (Key.fn 28) [AV.agg [AV.ls xs, iv n3, AV.ls xs1, bv b]] [] fun r5 o5 =>
          unAgg r5 fun cs2 =>
          cLs cs2 fun xs2 l8 =>
          cInt IntKind.i64 l8 fun n4 l9 =>
          cLs l9 fun xs3 l10 =>
          cBool l10 fun b4 l11 =>
          unNil l11 <|
          unEnd o5 <|
          askK D (Key.lp 8 0) [AV.ptr 0 0, AV.ptr 1 0, AV.sl 2 0 (n5 + 1) 3, bv false] [ABlk.mk [AV.ls xs2, iv n4, AV.ls xs3, bv b4] true false, ABlk.mk [AV.ls b2_0, iv b2_1, AV.ls b2_2, bv b2_3] true false, ABlk.mk (List.drop 0 (List.take (0 + n5 * 3) c5) ++ [bv t6, sv s, sv (bstr [])]) true true] fun r6 o6 =>
          tailK 3 [0, 1, 6] (AH.mk [(1, ABlk.mk [AV.ls b2_0, iv b2_1, AV.ls b2_2, bv b2_3] true false), (0, ABlk.mk [AV.ls xs2, iv n4, AV.ls xs3, bv b4] true false), (6, ABlk.mk (List.drop 0 (List.take (0 + n5 * 3) c5) ++ [bv t6, sv s, sv (bstr [])]) true true), (5, ABlk.mk [bv t6, sv s, sv (bstr [])] true true), (4, ABlk.mk [bv t6, sv s, sv (bstr [])] true false), (3, ABlk.mk [iv n, sv s, iv n1, iv n2] true false)] 7 none) [2, 0, 1] r6 o6)
          (br ((0 + (n5 + 1) * 3).ble (List.drop 0 (List.take (0 + n5 * 3) c5) ++ [bv t6, sv s, sv (bstr [])]).length) (some ((AV.tup [bv true, AV.ptr 1 0, AV.ls (chunk (n5 + 1) 3 (List.take ((n5 + 1) * 3) (List.drop 0 (List.drop 0 (List.take (0 + n5 * 3) c5) ++ [bv t6, sv s, sv (bstr [])])))), iv 0], [BO.del, BO.set (ABlk.mk [AV.ls xs, iv n3, AV.ls xs1, bv b] true false), BO.del]))) none))) none) none))) none))
   (askK D (Key.fn 29) [AV.agg [AV.ls b1_0, iv b1_1, AV.ls b1_2, bv b1_3]] [] fun r1 o1 =>
   unBool r1 fun b =>
   unEnd o1 <|
   br b
    (br (A.eq (↑n5) 64)
     (some ((AV.tup [bv true, AV.ptr 1 0, AV.ls [], iv 3], [BO.del, BO.set (ABlk.mk [AV.ls b1_0, iv b1_1, AV.ls b1_2, bv b1_3] true false), BO.del])))
     (br (A.eq n 3) none (br (A.seq (bstr []) (bstr []))
      (br (A.seq (bstr []) (bstr [])) (askK D (Key.fn 29) [AV.agg [AV.ls b1_0, iv b1_1, AV.ls b1_2, bv b1_3]] [] fun r2 o2 =>
      unBool r2 fun b1 =>
      unEnd o2 <|
      br b1
       (askK D (Key.fn 15) [AV.agg [AV.ls b1_0, iv b1_1, AV.ls b1_2, bv b1_3]] [] fun r3 o3 =>
       unAgg r3 fun cs1 =>
       cInt IntKind.i64 cs1 fun _ l4 =>
       cStr l4 fun s1 l5 =>
       cInt IntKind.i64 l5 fun _ l6 =>
       cInt IntKind.i64 l6 fun _ l7 =>
       unNil l7 <|
       unEnd o3 <|
       br b1_3
        (br b1_3 (br b1_3 (br b1_3 (br b1_3 (askK D (Key.fn 30) [AV.ls b1_2, sv s1] [] fun r4 o4 =>
        unBool r4 fun b2 =>
        unEnd o4 <|
        br b2
         (br b1_3 (br b1_3 (askK D (Key.fn 28) [AV.agg [AV.ls b1_0, iv b1_1, AV.ls b1_2, bv b1_3]] [] fun r5 o5 =>
         unAgg r5 fun cs2 =>
         cLs cs2 fun xs l8 =>
         cInt IntKind.i64 l8 fun n7 l9 =>
         cLs l9 fun xs1 l10 =>
         cBool l10 fun b3 l11 =>
         unNil l11 <|
         unEnd o5 <|
         br (fitsB (n5 + 1) 40) (br ((0 + n5 * 3).ble c5.length) (askK D (Key.fn 18) [AV.agg [AV.ls xs, iv n7, AV.ls xs1, bv b3], sv (bstr [45])] [] fun r6 o6 =>
           unBool r6 fun b4 =>
           unEnd o6 <|
           br b4
            (askK D (Key.fn 28) [AV.agg [AV.ls xs, iv n7, AV.ls xs1, bv b3]] [] fun r7 o7 =>
            unAgg r7 fun cs3 =>
            cLs cs3 fun xs2 l12 =>
            cInt IntKind.i64 l12 fun n8 l13 =>
            cLs l13 fun xs3 l14 =>
            cBool l14 fun b5 l15 =>
            unNil l15 <|
            unEnd o7 <|
            askK D (Key.lp 8 0) [AV.ptr 0 0, AV.ptr 1 0, AV.sl 2 0 (n5 + 1) 3, bv true] [ABlk.mk [AV.ls xs2, iv n8, AV.ls xs3, bv b5] true false, ABlk.mk [AV.ls b2_0, iv b2_1, AV.ls b2_2, bv b2_3] true false, ABlk.mk (List.drop 0 (List.take (0 + n5 * 3) c5) ++ [bv t6, sv (bstr []), sv s1]) true true] fun r8 o8 =>
            tailK 3 [0, 1, 6] (AH.mk [(1, ABlk.mk [AV.ls b2_0, iv b2_1, AV.ls b2_2, bv b2_3] true false), (0, ABlk.mk [AV.ls xs2, iv n8, AV.ls xs3, bv b5] true false), (6, ABlk.mk (List.drop 0 (List.take (0 + n5 * 3) c5) ++ [bv t6, sv (bstr []), sv s1]) true true), (5, ABlk.mk [bv t6, sv (bstr []), sv s1] true true), (4, ABlk.mk [bv t6, sv (bstr []), sv s1] true false), (3, ABlk.mk [iv n, sv s, iv n1, iv n2] true false)] 7 none) [2, 0, 1] r8 o8)
            (askK D (Key.fn 18) [AV.agg [AV.ls xs, iv n7, AV.ls xs1, bv b3], sv (bstr [43])] [] fun r7 o7 =>
            unBool r7 fun b5 =>
            unEnd o7 <|
            br b5
             (askK D (Key.fn 28) [AV.agg [AV.ls xs, iv n7, AV.ls xs1, bv b3]] [] fun r8 o8 =>
             unAgg r8 fun cs3 =>
             cLs cs3 fun xs2 l12 =>
             cInt IntKind.i64 l12 fun n8 l13 =>
             cLs l13 fun xs3 l14 =>
             cBool l14 fun b6 l15 =>
             unNil l15 <|
             unEnd o8 <|
             askK D (Key.lp 8 0) [AV.ptr 0 0, AV.ptr 1 0, AV.sl 2 0 (n5 + 1) 3, bv false] [ABlk.mk [AV.ls xs2, iv n8, AV.ls xs3, bv b6] true false, ABlk.mk [AV.ls b2_0, iv b2_1, AV.ls b2_2, bv b2_3] true false, ABlk.mk (List.drop 0 (List.take (0 + n5 * 3) c5) ++ [bv t6, sv (bstr []), sv s1]) true true] fun r9 o9 =>
             tailK 3 [0, 1, 6] (AH.mk [(1, ABlk.mk [AV.ls b2_0, iv b2_1, AV.ls b2_2, bv b2_3] true false), (0, ABlk.mk [AV.ls xs2, iv n8, AV.ls xs3, bv b6] true false), (6, ABlk.mk (List.drop 0 (List.take (0 + n5 * 3) c5) ++ [bv t6, sv (bstr []), sv s1]) true true), (5, ABlk.mk [bv t6, sv (bstr []), sv s1] true true), (4, ABlk.mk [bv t6, sv (bstr []), sv s1] true false), (3, ABlk.mk [iv n, sv s, iv n1, iv n2] true false)] 7 none) [2, 0, 1] r9 o9)
             (br ((0 + (n5 + 1) * 3).ble (List.drop 0 (List.take (0 + n5 * 3) c5) ++ [bv t6, sv (bstr []), sv s1]).length) (some ((AV.tup [bv true, AV.ptr 1 0, AV.ls (chunk (n5 + 1) 3 (List.take ((n5 + 1) * 3) (List.drop 0 (List.drop 0 (List.take (0 + n5 * 3) c5) ++ [bv t6, sv (bstr []), sv s1])))), iv 0], [BO.del, BO.set (ABlk.mk [AV.ls xs, iv n7, AV.ls xs1, bv b3] true false), BO.del]))) none))) none) none) none) none)
         (br b1_3 (br b1_3 (some ((AV.tup [bv true, AV.ptr 1 0, AV.ls [], iv 110], [BO.del, BO.set (ABlk.mk [AV.ls b1_0, iv b1_1, AV.ls b1_2, bv b1_3] true false), BO.del]))) none) none)) none) none) none) none)
        (br b1_3 none (br b1_3 none (br b1_3 none (br b1_3 none (br b1_3 none (br b1_3 none (askK D (Key.fn 28) [AV.agg [AV.ls b1_0, iv b1_1, AV.ls b1_2, bv b1_3]] [] fun r4 o4 =>
        unAgg r4 fun cs2 =>
        cLs cs2 fun xs l8 =>
        cInt IntKind.i64 l8 fun n7 l9 =>
        cLs l9 fun xs1 l10 =>
        cBool l10 fun b2 l11 =>
        unNil l11 <|
        unEnd o4 <|
        br (fitsB (n5 + 1) 40) (br ((0 + n5 * 3).ble c5.length) (askK D (Key.fn 18) [AV.agg [AV.ls xs, iv n7, AV.ls xs1, bv b2], sv (bstr [45])] [] fun r5 o5 =>
          unBool r5 fun b3 =>
          unEnd o5 <|
          br b3
           (askK D (Key.fn 28) [AV.agg [AV.ls xs, iv n7, AV.ls xs1, bv b2]] [] fun r6 o6 =>
           unAgg r6 fun cs3 =>
           cLs cs3 fun xs2 l12 =>
           cInt IntKind.i64 l12 fun n8 l13 =>
           cLs l13 fun xs3 l14 =>
           cBool l14 fun b4 l15 =>
           unNil l15 <|
           unEnd o6 <|
           askK D (Key.lp 8 0) [AV.ptr 0 0, AV.ptr 1 0, AV.sl 2 0 (n5 + 1) 3, bv true] [ABlk.mk [AV.ls xs2, iv n8, AV.ls xs3, bv b4] true false, ABlk.mk [AV.ls b2_0, iv b2_1, AV.ls b2_2, bv b2_3] true false, ABlk.mk (List.drop 0 (List.take (0 + n5 * 3) c5) ++ [bv t6, sv (bstr []), sv s1]) true true] fun r7 o7 =>
           tailK 3 [0, 1, 6] (AH.mk [(1, ABlk.mk [AV.ls b2_0, iv b2_1, AV.ls b2_2, bv b2_3] true false), (0, ABlk.mk [AV.ls xs2, iv n8, AV.ls xs3, bv b4] true false), (6, ABlk.mk (List.drop 0 (List.take (0 + n5 * 3) c5) ++ [bv t6, sv (bstr []), sv s1]) true true), (5, ABlk.mk [bv t6, sv (bstr []), sv s1] true true), (4, ABlk.mk [bv t6, sv (bstr []), sv s1] true false), (3, ABlk.mk [iv n, sv s, iv n1, iv n2] true false)] 7 none) [2, 0, 1] r7 o7)
           (askK D (Key.fn 18) [AV.agg [AV.ls xs, iv n7, AV.ls xs1, bv b2], sv (bstr [43])] [] fun r6 o6 =>
           unBool r6 fun b4 =>
           unEnd o6 <|
           br b4
            (askK D (Key.fn 28) [AV.agg [AV.ls xs, iv n7, AV.ls xs1, bv b2]] [] fun r7 o7 =>
            unAgg r7 fun cs3 =>
            cLs cs3 fun xs2 l12 =>
            cInt IntKind.i64 l12 fun n8 l13 =>
            cLs l13 fun xs3 l14 =>
            cBool l14 fun b5 l15 =>
            unNil l15 <|
            unEnd o7 <|
            askK D (Key.lp 8 0) [AV.ptr 0 0, AV.ptr 1 0, AV.sl 2 0 (n5 + 1) 3, bv false] [ABlk.mk [AV.ls xs2, iv n8, AV.ls xs3, bv b5] true false, ABlk.mk [AV.ls b2_0, iv b2_1, AV.ls b2_2, bv b2_3] true false, ABlk.mk (List.drop 0 (List.take (0 + n5 * 3) c5) ++ [bv t6, sv (bstr []), sv s1]) true true] fun r8 o8 =>
            tailK 3 [0, 1, 6] (AH.mk [(1, ABlk.mk [AV.ls b2_0, iv b2_1, AV.ls b2_2, bv b2_3] true false), (0, ABlk.mk [AV.ls xs2, iv n8, AV.ls xs3, bv b5] true false), (6, ABlk.mk (List.drop 0 (List.take (0 + n5 * 3) c5) ++ [bv t6, sv (bstr []), sv s1]) true true), (5, ABlk.mk [bv t6, sv (bstr []), sv s1] true true), (4, ABlk.mk [bv t6, sv (bstr []), sv s1] true false), (3, ABlk.mk [iv n, sv s, iv n1, iv n2] true false)] 7 none) [2, 0, 1] r8 o8)
            (br ((0 + (n5 + 1) * 3).ble (List.drop 0 (List.take (0 + n5 * 3) c5) ++ [bv t6, sv (bstr []), sv s1]).length) (some ((AV.tup [bv true, AV.ptr 1 0, AV.ls (chunk (n5 + 1) 3 (List.take ((n5 + 1) * 3) (List.drop 0 (List.drop 0 (List.take (0 + n5 * 3) c5) ++ [bv t6, sv (bstr []), sv s1])))), iv 0], [BO.del, BO.set (ABlk.mk [AV.ls xs, iv n7, AV.ls xs1, bv b2] true false), BO.del]))) none))) none) none))))))))
       (some ((AV.tup [bv true, AV.ptr 1 0, AV.ls [], iv 101], [BO.del, BO.set (ABlk.mk [AV.ls b1_0, iv b1_1, AV.ls b1_2, bv b1_3] true false), BO.del])))) none)
      (askK D (Key.fn 18) [AV.agg [AV.ls b1_0, iv b1_1, AV.ls b1_2, bv b1_3], sv (bstr [42])] [] fun r2 o2 =>
      unBool r2 fun b1 =>
      unEnd o2 <|
      br b1
       (br (A.seq (bstr []) (bstr [])) none (askK D (Key.fn 28) [AV.agg [AV.ls b1_0, iv b1_1, AV.ls b1_2, bv b1_3]] [] fun r3 o3 =>
       unAgg r3 fun cs1 =>
       cLs cs1 fun xs l4 =>
       cInt IntKind.i64 l4 fun n3 l5 =>
       cLs l5 fun xs1 l6 =>
       cBool l6 fun b2 l7 =>
       unNil l7 <|
       unEnd o3 <|
       askK D (Key.fn 29) [AV.agg [AV.ls xs, iv n3, AV.ls xs1, bv b2]] [] fun r4 o4 =>
       unBool r4 fun b3 =>
       unEnd o4 <|
       br b3
        (askK D (Key.fn 15) [AV.agg [AV.ls xs, iv n3, AV.ls xs1, bv b2]] [] fun r5 o5 =>
        unAgg r5 fun cs2 =>
        cInt IntKind.i64 cs2 fun _ l8 =>
        cStr l8 fun s1 l9 =>
        cInt IntKind.i64 l9 fun _ l10 =>
        cInt IntKind.i64 l10 fun _ l11 =>
        unNil l11 <|
        unEnd o5 <|
        br b2
         (br b2 (br b2 (br b2 (br b2 (askK D (Key.fn 30) [AV.ls xs1, sv s1] [] fun r6 o6 =>
         unBool r6 fun b4 =>
         unEnd o6 <|
         br b4
          (br b2 (br b2 (askK D (Key.fn 28) [AV.agg [AV.ls xs, iv n3, AV.ls xs1, bv b2]] [] fun r7 o7 =>
          unAgg r7 fun cs3 =>
          cLs cs3 fun xs2 l12 =>
          cInt IntKind.i64 l12 fun n8 l13 =>
          cLs l13 fun xs3 l14 =>
          cBool l14 fun b5 l15 =>
          unNil l15 <|
          unEnd o7 <|
          br (fitsB (n5 + 1) 40) (br ((0 + n5 * 3).ble c5.length) (askK D (Key.fn 18) [AV.agg [AV.ls xs2, iv n8, AV.ls xs3, bv b5], sv (bstr [45])] [] fun r8 o8 =>
            unBool r8 fun b6 =>
            unEnd o8 <|
            br b6
             (askK D (Key.fn 28) [AV.agg [AV.ls xs2, iv n8, AV.ls xs3, bv b5]] [] fun r9 o9 =>
             unAgg r9 fun cs4 =>
             cLs cs4 fun xs4 l16 =>
             cInt IntKind.i64 l16 fun n9 l17 =>
             cLs l17 fun xs5 l18 =>
             cBool l18 fun b7 l19 =>
             unNil l19 <|
             unEnd o9 <|
             askK D (Key.lp 8 0) [AV.ptr 0 0, AV.ptr 1 0, AV.sl 2 0 (n5 + 1) 3, bv true] [ABlk.mk [AV.ls xs4, iv n9, AV.ls xs5, bv b7] true false, ABlk.mk [AV.ls b2_0, iv b2_1, AV.ls b2_2, bv b2_3] true false, ABlk.mk (List.drop 0 (List.take (0 + n5 * 3) c5) ++ [bv t6, sv (bstr []), sv s1]) true true] fun r10 o10 =>
             tailK 3 [0, 1, 6] (AH.mk [(1, ABlk.mk [AV.ls b2_0, iv b2_1, AV.ls b2_2, bv b2_3] true false), (0, ABlk.mk [AV.ls xs4, iv n9, AV.ls xs5, bv b7] true false), (6, ABlk.mk (List.drop 0 (List.take (0 + n5 * 3) c5) ++ [bv t6, sv (bstr []), sv s1]) true true), (5, ABlk.mk [bv t6, sv (bstr []), sv s1] true true), (4, ABlk.mk [bv t6, sv (bstr []), sv s1] true false), (3, ABlk.mk [iv n, sv s, iv n1, iv n2] true false)] 7 none) [2, 0, 1] r10 o10)
             (askK D (Key.fn 18) [AV.agg [AV.ls xs2, iv n8, AV.ls xs3, bv b5], sv (bstr [43])] [] fun r9 o9 =>
             unBool r9 fun b7 =>
             unEnd o9 <|
             br b7
              (askK D (Key.fn 28) [AV.agg [AV.ls xs2, iv n8, AV.ls xs3, bv b5]] [] fun r10 o10 =>
              unAgg r10 fun cs4 =>
              cLs cs4 fun xs4 l16 =>
              cInt IntKind.i64 l16 fun n9 l17 =>
              cLs l17 fun xs5 l18 =>
              cBool l18 fun b8 l19 =>
              unNil l19 <|
              unEnd o10 <|
              askK D (Key.lp 8 0) [AV.ptr 0 0, AV.ptr 1 0, AV.sl 2 0 (n5 + 1) 3, bv false] [ABlk.mk [AV.ls xs4, iv n9, AV.ls xs5, bv b8] true false, ABlk.mk [AV.ls b2_0, iv b2_1, AV.ls b2_2, bv b2_3] true false, ABlk.mk (List.drop 0 (List.take (0 + n5 * 3) c5) ++ [bv t6, sv (bstr []), sv s1]) true true] fun r11 o11 =>
              tailK 3 [0, 1, 6] (AH.mk [(1, ABlk.mk [AV.ls b2_0, iv b2_1, AV.ls b2_2, bv b2_3] true false), (0, ABlk.mk [AV.ls xs4, iv n9, AV.ls xs5, bv b8] true false), (6, ABlk.mk (List.drop 0 (List.take (0 + n5 * 3) c5) ++ [bv t6, sv (bstr []), sv s1]) true true), (5, ABlk.mk [bv t6, sv (bstr []), sv s1] true true), (4, ABlk.mk [bv t6, sv (bstr []), sv s1] true false), (3, ABlk.mk [iv n, sv s, iv n1, iv n2] true false)] 7 none) [2, 0, 1] r11 o11)
              (br ((0 + (n5 + 1) * 3).ble (List.drop 0 (List.take (0 + n5 * 3) c5) ++ [bv t6, sv (bstr []), sv s1]).length) (some ((AV.tup [bv true, AV.ptr 1 0, AV.ls (chunk (n5 + 1) 3 (List.take ((n5 + 1) * 3) (List.drop 0 (List.drop 0 (List.take (0 + n5 * 3) c5) ++ [bv t6, sv (bstr []), sv s1])))), iv 0], [BO.del, BO.set (ABlk.mk [AV.ls xs2, iv n8, AV.ls xs3, bv b5] true false), BO.del]))) none))) none) none) none) none)
          (br b2 (br b2 (some ((AV.tup [bv true, AV.ptr 1 0, AV.ls [], iv 110], [BO.del, BO.set (ABlk.mk [AV.ls xs, iv n3, AV.ls xs1, bv b2] true false), BO.del]))) none) none)) none) none) none) none)
         (br b2 none (br b2 none (br b2 none (br b2 none (br b2 none (br b2 none (askK D (Key.fn 28) [AV.agg [AV.ls xs, iv n3, AV.ls xs1, bv b2]] [] fun r6 o6 =>
         unAgg r6 fun cs3 =>
         cLs cs3 fun xs2 l12 =>
         cInt IntKind.i64 l12 fun n8 l13 =>
         cLs l13 fun xs3 l14 =>
         cBool l14 fun b4 l15 =>
         unNil l15 <|
         unEnd o6 <|
         br (fitsB (n5 + 1) 40) (br ((0 + n5 * 3).ble c5.length) (askK D (Key.fn 18) [AV.agg [AV.ls xs2, iv n8, AV.ls xs3, bv b4], sv (bstr [45])] [] fun r7 o7 =>
           unBool r7 fun b5 =>
           unEnd o7 <|
           br b5
            (askK D (Key.fn 28) [AV.agg [AV.ls xs2, iv n8, AV.ls xs3, bv b4]] [] fun r8 o8 =>
            unAgg r8 fun cs4 =>
            cLs cs4 fun xs4 l16 =>
            cInt IntKind.i64 l16 fun n9 l17 =>
            cLs l17 fun xs5 l18 =>
            cBool l18 fun b6 l19 =>
            unNil l19 <|
            unEnd o8 <|
            askK D (Key.lp 8 0) [AV.ptr 0 0, AV.ptr 1 0, AV.sl 2 0 (n5 + 1) 3, bv true] [ABlk.mk [AV.ls xs4, iv n9, AV.ls xs5, bv b6] true false, ABlk.mk [AV.ls b2_0, iv b2_1, AV.ls b2_2, bv b2_3] true false, ABlk.mk (List.drop 0 (List.take (0 + n5 * 3) c5) ++ [bv t6, sv (bstr []), sv s1]) true true] fun r9 o9 =>
            tailK 3 [0, 1, 6] (AH.mk [(1, ABlk.mk [AV.ls b2_0, iv b2_1, AV.ls b2_2, bv b2_3] true false), (0, ABlk.mk [AV.ls xs4, iv n9, AV.ls xs5, bv b6] true false), (6, ABlk.mk (List.drop 0 (List.take (0 + n5 * 3) c5) ++ [bv t6, sv (bstr []), sv s1]) true true), (5, ABlk.mk [bv t6, sv (bstr []), sv s1] true true), (4, ABlk.mk [bv t6, sv (bstr []), sv s1] true false), (3, ABlk.mk [iv n, sv s, iv n1, iv n2] true false)] 7 none) [2, 0, 1] r9 o9)
            (askK D (Key.fn 18) [AV.agg [AV.ls xs2, iv n8, AV.ls xs3, bv b4], sv (bstr [43])] [] fun r8 o8 =>
            unBool r8 fun b6 =>
            unEnd o8 <|
            br b6
             (askK D (Key.fn 28) [AV.agg [AV.ls xs2, iv n8, AV.ls xs3, bv b4]] [] fun r9 o9 =>
             unAgg r9 fun cs4 =>
             cLs cs4 fun xs4 l16 =>
             cInt IntKind.i64 l16 fun n9 l17 =>
             cLs l17 fun xs5 l18 =>
             cBool l18 fun b7 l19 =>
             unNil l19 <|
             unEnd o9 <|
             askK D (Key.lp 8 0) [AV.ptr 0 0, AV.ptr 1 0, AV.sl 2 0 (n5 + 1) 3, bv false] [ABlk.mk [AV.ls xs4, iv n9, AV.ls xs5, bv b7] true false, ABlk.mk [AV.ls b2_0, iv b2_1, AV.ls b2_2, bv b2_3] true false, ABlk.mk (List.drop 0 (List.take (0 + n5 * 3) c5) ++ [bv t6, sv (bstr []), sv s1]) true true] fun r10 o10 =>
             tailK 3 [0, 1, 6] (AH.mk [(1, ABlk.mk [AV.ls b2_0, iv b2_1, AV.ls b2_2, bv b2_3] true false), (0, ABlk.mk [AV.ls xs4, iv n9, AV.ls xs5, bv b7] true false), (6, ABlk.mk (List.drop 0 (List.take (0 + n5 * 3) c5) ++ [bv t6, sv (bstr []), sv s1]) true true), (5, ABlk.mk [bv t6, sv (bstr []), sv s1] true true), (4, ABlk.mk [bv t6, sv (bstr []), sv s1] true false), (3, ABlk.mk [iv n, sv s, iv n1, iv n2] true false)] 7 none) [2, 0, 1] r10 o10)
             (br ((0 + (n5 + 1) * 3).ble (List.drop 0 (List.take (0 + n5 * 3) c5) ++ [bv t6, sv (bstr []), sv s1]).length) (some ((AV.tup [bv true, AV.ptr 1 0, AV.ls (chunk (n5 + 1) 3 (List.take ((n5 + 1) * 3) (List.drop 0 (List.drop 0 (List.take (0 + n5 * 3) c5) ++ [bv t6, sv (bstr []), sv s1])))), iv 0], [BO.del, BO.set (ABlk.mk [AV.ls xs2, iv n8, AV.ls xs3, bv b4] true false), BO.del]))) none))) none) none))))))))
        (some ((AV.tup [bv true, AV.ptr 1 0, AV.ls [], iv 101], [BO.del, BO.set (ABlk.mk [AV.ls xs, iv n3, AV.ls xs1, bv b2] true false), BO.del])))))
       (br (fitsB (n5 + 1) 40) (br ((0 + n5 * 3).ble c5.length) (askK D (Key.fn 18) [AV.agg [AV.ls b1_0, iv b1_1, AV.ls b1_2, bv b1_3], sv (bstr [45])] [] fun r3 o3 =>
         unBool r3 fun b2 =>
         unEnd o3 <|
         br b2
          (askK D (Key.fn 28) [AV.agg [AV.ls b1_0, iv b1_1, AV.ls b1_2, bv b1_3]] [] fun r4 o4 =>
          unAgg r4 fun cs1 =>
          cLs cs1 fun xs l4 =>
          cInt IntKind.i64 l4 fun n3 l5 =>
          cLs l5 fun xs1 l6 =>
          cBool l6 fun b3 l7 =>
          unNil l7 <|
          unEnd o4 <|
          askK D (Key.lp 8 0) [AV.ptr 0 0, AV.ptr 1 0, AV.sl 2 0 (n5 + 1) 3, bv true] [ABlk.mk [AV.ls xs, iv n3, AV.ls xs1, bv b3] true false, ABlk.mk [AV.ls b2_0, iv b2_1, AV.ls b2_2, bv b2_3] true false, ABlk.mk (List.drop 0 (List.take (0 + n5 * 3) c5) ++ [bv t6, sv (bstr []), sv (bstr [])]) true true] fun r5 o5 =>
          tailK 3 [0, 1, 6] (AH.mk [(1, ABlk.mk [AV.ls b2_0, iv b2_1, AV.ls b2_2, bv b2_3] true false), (0, ABlk.mk [AV.ls xs, iv n3, AV.ls xs1, bv b3] true false), (6, ABlk.mk (List.drop 0 (List.take (0 + n5 * 3) c5) ++ [bv t6, sv (bstr []), sv (bstr [])]) true true), (5, ABlk.mk [bv t6, sv (bstr []), sv (bstr [])] true true), (4, ABlk.mk [bv t6, sv (bstr []), sv (bstr [])] true false), (3, ABlk.mk [iv n, sv s, iv n1, iv n2] true false)] 7 none) [2, 0, 1] r5 o5)
          (askK D (Key.fn 18) [AV.agg [AV.ls b1_0, iv b1_1, AV.ls b1_2, bv b1_3], sv (bstr [43])] [] fun r4 o4 =>
          unBool r4 fun b3 =>
          unEnd o4 <|
          br b3
           (askK D (Key.fn 28) [AV.agg [AV.ls b1_0, iv b1_1, AV.ls b1_2, bv b1_3]] [] fun r5 o5 =>
           unAgg r5 fun cs1 =>
           cLs cs1 fun xs l4 =>
           cInt IntKind.i64 l4 fun n3 l5 =>
           cLs l5 fun xs1 l6 =>
           cBool l6 fun b4 l7 =>
           unNil l7 <|
           unEnd o5 <|
           askK D (Key.lp 8 0) [AV.ptr 0 0, AV.ptr 1 0, AV.sl 2 0 (n5 + 1) 3, bv false] [ABlk.mk [AV.ls xs, iv n3, AV.ls xs1, bv b4] true false, ABlk.mk [AV.ls b2_0, iv b2_1, AV.ls b2_2, bv b2_3] true false, ABlk.mk (List.drop 0 (List.take (0 + n5 * 3) c5) ++ [bv t6, sv (bstr []), sv (bstr [])]) true true] fun r6 o6 =>
           tailK 3 [0, 1, 6] (AH.mk [(1, ABlk.mk [AV.ls b2_0, iv b2_1, AV.ls b2_2, bv b2_3] true false), (0, ABlk.mk [AV.ls xs, iv n3, AV.ls xs1, bv b4] true false), (6, ABlk.mk (List.drop 0 (List.take (0 + n5 * 3) c5) ++ [bv t6, sv (bstr []), sv (bstr [])]) true true), (5, ABlk.mk [bv t6, sv (bstr []), sv (bstr [])] true true), (4, ABlk.mk [bv t6, sv (bstr []), sv (bstr [])] true false), (3, ABlk.mk [iv n, sv s, iv n1, iv n2] true false)] 7 none) [2, 0, 1] r6 o6)
           (br ((0 + (n5 + 1) * 3).ble (List.drop 0 (List.take (0 + n5 * 3) c5) ++ [bv t6, sv (bstr []), sv (bstr [])]).length) (some ((AV.tup [bv true, AV.ptr 1 0, AV.ls (chunk (n5 + 1) 3 (List.take ((n5 + 1) * 3) (List.drop 0 (List.drop 0 (List.take (0 + n5 * 3) c5) ++ [bv t6, sv (bstr []), sv (bstr [])])))), iv 0], [BO.del, BO.set (ABlk.mk [AV.ls b1_0, iv b1_1, AV.ls b1_2, bv b1_3] true false), BO.del]))) none))) none) none)))))
    (some ((AV.tup [bv true, AV.ptr 1 0, AV.ls [], iv 101], [BO.del, BO.set (ABlk.mk [AV.ls b1_0, iv b1_1, AV.ls b1_2, bv b1_3] true false), BO.del])))) := by kernel_rfl

theorem e58 (A : Ar) (D : Orc) (x0_0 : List (List AV)) (x0_1 : Int) (x0_2 : List (List AV)) (x0_3 : Bool) : fnK A D ownC hn58 .n 58 mf58 [AV.agg [AV.ls x0_0, iv x0_1, AV.ls x0_2, bv x0_3]] [] =
  askK D (Key.fn 8) [AV.agg [AV.ls x0_0, iv x0_1, AV.ls x0_2, bv x0_3]] [] fun r o =>
  unTup r fun cs =>
  unCons cs fun c l =>
  unAgg c fun cs1 =>
  cLs cs1 fun xs l1 =>
  cInt IntKind.i64 l1 fun n l2 =>
  cLs l2 fun xs1 l3 =>
  cBool l3 fun b l4 =>
  unNil l4 <|
  cLs l fun xs2 l5 =>
  cInt IntKind.i64 l5 fun n1 l6 =>
  unNil l6 <|
  unEnd o <|
  br (A.eq n1 0)
   (askK D (Key.lp 58 0) [AV.ptr 0 0, AV.ptr 1 0, AV.ptr 2 0, AV.ls xs2, iv (-1), iv 0] [ABlk.mk [AV.ls xs, iv n, AV.ls xs1, bv b] true false, ABlk.mk [AV.ls [], iv 0, AV.ls [], bv false] true false, ABlk.mk [iv 0, AV.ls [], AV.ls [], iv 0, sv (bstr []), sv (bstr []), AV.ls []] true false] fun r1 o1 =>
   unTup r1 fun cs2 =>
   unCons cs2 fun c1 l7 =>
   br (axIs 1 c1)
    (unCons l7 fun c2 l8 =>
    unPtr 0 0 c2 <|
    unCons l8 fun c3 l9 =>
    unPtr 1 0 c3 <|
    unCons l9 fun c4 l10 =>
    unPtr 2 0 c4 <|
    cLs l10 fun xs3 l11 =>
    cInt IntKind.i64 l11 fun n2 l12 =>
    unNil l12 <|
    unOut o1 fun c5 l13 =>
    unSet true false c5 fun cs3 =>
    cLs cs3 fun xs4 l14 =>
    cInt IntKind.i64 l14 fun n3 l15 =>
    cLs l15 fun xs5 l16 =>
    cBool l16 fun b1 l17 =>
    unNil l17 <|
    unOut l13 fun c6 l18 =>
    unSet true false c6 fun cs4 =>
    cLs cs4 fun _ l19 =>
    cInt IntKind.i64 l19 fun _ l20 =>
    cLs l20 fun _ l21 =>
    cBool l21 fun _ l22 =>
    unNil l22 <|
    unOut l18 fun c7 l23 =>
    unSet true false c7 fun cs5 =>
    cInt IntKind.i64 cs5 fun _ l24 =>
    cLs l24 fun _ l25 =>
    cLs l25 fun _ l26 =>
    cInt IntKind.i64 l26 fun _ l27 =>
    cStr l27 fun _ l28 =>
    cStr l28 fun _ l29 =>
    cLs l29 fun _ l30 =>
    unNil l30 <|
    unEnd l23 <|
    br (A.lt n2 0)
     (some ((AV.tup [AV.agg [AV.ls xs4, iv n3, AV.ls xs5, bv b1], AV.agg [iv 0, AV.ls [], AV.ls [], iv 0, sv (bstr []), sv (bstr []), AV.ls []], iv 101], [])))
     (askK D (Key.fn 28) [AV.agg [AV.ls xs4, iv n3, AV.ls xs5, bv b1]] [] fun r2 o2 =>
     unAgg r2 fun cs6 =>
     cLs cs6 fun xs11 l31 =>
     cInt IntKind.i64 l31 fun n7 l32 =>
     cLs l32 fun xs12 l33 =>
     cBool l33 fun b3 l34 =>
     unNil l34 <|
     unEnd o2 <|
     askK D (Key.fn 8) [AV.agg [AV.ls xs11, iv n7, AV.ls xs12, bv b3]] [] fun r3 o3 =>
     unTup r3 fun cs7 =>
     unCons cs7 fun c8 l35 =>
     unAgg c8 fun cs8 =>
     cLs cs8 fun xs13 l36 =>
     cInt IntKind.i64 l36 fun n8 l37 =>
     cLs l37 fun xs14 l38 =>
     cBool l38 fun b4 l39 =>
     unNil l39 <|
     cLs l35 fun xs15 l40 =>
     cInt IntKind.i64 l40 fun n9 l41 =>
     unNil l41 <|
     unEnd o3 <|
     br (A.eq n9 0)
      (some ((AV.tup [AV.agg [AV.ls xs13, iv n8, AV.ls xs14, bv b4], AV.agg [iv 2, AV.ls xs3, AV.ls xs15, iv n2, sv (bstr []), sv (bstr []), AV.ls []], iv 0], [])))
      (some ((AV.tup [AV.agg [AV.ls xs13, iv n8, AV.ls xs14, bv b4], AV.agg [iv 0, AV.ls [], AV.ls [], iv 0, sv (bstr []), sv (bstr []), AV.ls []], iv n9], [])))))
    (none))
   (some ((AV.tup [AV.agg [AV.ls xs, iv n, AV.ls xs1, bv b], AV.agg [iv 0, AV.ls [], AV.ls [], iv 0, sv (bstr []), sv (bstr []), AV.ls []], iv n1], []))) := by kernel_rfl

theorem e58_0 (A : Ar) (D : Orc) (b1_0 : List (List AV)) (b1_1 : Int) (b1_2 : List (List AV)) (b1_3 : Bool) (b2_0 : List (List AV)) (b2_1 : Int) (b2_2 : List (List AV)) (b2_3 : Bool) (b3_0 : Int) (b3_1 : List (List AV)) (b3_2 : List (List AV)) (b3_3 : Int) (b3_4 : ByteArray) (b3_5 : ByteArray) (b3_6 : List (List AV)) (t5 : List (List AV)) (t7 : Int) (t8 : Int) : lpK A D ownC hn58 .n 58 0 (lpAt mf58 0).fst (lpAt mf58 0).snd [AV.ptr 0 0, AV.ptr 1 0, AV.ptr 2 0, AV.ls t5, iv t7, iv t8] [{ cells := [AV.ls b1_0, iv b1_1, AV.ls b1_2, bv b1_3], st := true, ex := false }, { cells := [AV.ls b2_0, iv b2_1, AV.ls b2_2, bv b2_3], st := true, ex := false }, { cells := [iv b3_0, AV.ls b3_1, AV.ls b3_2, iv b3_3, sv b3_4, sv b3_5, AV.ls b3_6], st := true, ex := false }] =
  br (A.lt t8 6)
   (askK D (Key.fn 65) [iv t8] [] fun r o =>
   unStr r fun s =>
   unEnd o <|
   askK D (Key.fn 18) [AV.agg [AV.ls b1_0, iv b1_1, AV.ls b1_2, bv b1_3], sv s] [] fun r1 o1 =>
   unBool r1 fun b =>
   unEnd o1 <|
   br b
    (askK D (Key.lp 58 0) [AV.ptr 0 0, AV.ptr 1 0, AV.ptr 2 0, AV.ls t5, iv t8, iv (A.add IntKind.i64 t8 1)] [ABlk.mk [AV.ls b1_0, iv b1_1, AV.ls b1_2, bv b1_3] true false, ABlk.mk [AV.ls b2_0, iv b2_1, AV.ls b2_2, bv b2_3] true false, ABlk.mk [iv b3_0, AV.ls b3_1, AV.ls b3_2, iv b3_3, sv b3_4, sv b3_5, AV.ls b3_6] true false] fun r2 o2 =>
    tailK 3 [0, 1, 2] (AH.mk [(2, ABlk.mk [iv b3_0, AV.ls b3_1, AV.ls b3_2, iv b3_3, sv b3_4, sv b3_5, AV.ls b3_6] true false), (1, ABlk.mk [AV.ls b2_0, iv b2_1, AV.ls b2_2, bv b2_3] true false), (0, ABlk.mk [AV.ls b1_0, iv b1_1, AV.ls b1_2, bv b1_3] true false)] 3 none) [0, 1, 2] r2 o2)
    (askK D (Key.lp 58 0) [AV.ptr 0 0, AV.ptr 1 0, AV.ptr 2 0, AV.ls t5, iv t7, iv (A.add IntKind.i64 t8 1)] [ABlk.mk [AV.ls b1_0, iv b1_1, AV.ls b1_2, bv b1_3] true false, ABlk.mk [AV.ls b2_0, iv b2_1, AV.ls b2_2, bv b2_3] true false, ABlk.mk [iv b3_0, AV.ls b3_1, AV.ls b3_2, iv b3_3, sv b3_4, sv b3_5, AV.ls b3_6] true false] fun r2 o2 =>
    tailK 3 [0, 1, 2] (AH.mk [(2, ABlk.mk [iv b3_0, AV.ls b3_1, AV.ls b3_2, iv b3_3, sv b3_4, sv b3_5, AV.ls b3_6] true false), (1, ABlk.mk [AV.ls b2_0, iv b2_1, AV.ls b2_2, bv b2_3] true false), (0, ABlk.mk [AV.ls b1_0, iv b1_1, AV.ls b1_2, bv b1_3] true false)] 3 none) [0, 1, 2] r2 o2))
   (some ((AV.tup [iv 0, AV.ptr 0 0, AV.ptr 1 0, AV.ptr 2 0, AV.ls t5, iv t7], [BO.set (ABlk.mk [AV.ls b1_0, iv b1_1, AV.ls b1_2, bv b1_3] true false), BO.set (ABlk.mk [AV.ls b2_0, iv b2_1, AV.ls b2_2, bv b2_3] true false), BO.set (ABlk.mk [iv b3_0, AV.ls b3_1, AV.ls b3_2, iv b3_3, sv b3_4, sv b3_5, AV.ls b3_6] true false)]))) := by kernel_rfl

theorem e48 (A : Ar) (D : Orc) (x0_0 : List (List AV)) (x0_1 : Int) (x0_2 : List (List AV)) (x0_3 : Bool) (x1 : Int) : fnK A D ownC hn48 (.b (.b .n (.b .n (.b (.b (.b (.b (.b .n (.b (.b .n (.b .n (.b .n (.b .n (.b .n (.b .n (.b .n (.b .n (.b (.b (.b (.b (.b (.b (.b (.b .n (.b (.b .n (.b .n (.t .n))) .n)) .n) .n) .n) .n) (.b .n (.b .n (.b .n (.b .n (.b .n (.b .n (.f .n)))))))) .n) .n))))))))) .n)) .n) .n) .n) .n))) (.b (.b (.b (.b .n (.b (.b (.b (.b .n (.b (.b .n (.b .n (.b .n (.b .n (.b .n (.b .n (.b .n (.b .n (.b (.b (.b (.b (.b (.b (.b (.b .n (.b (.b .n (.b .n (.t .n))) .n)) .n) .n) .n) .n) (.b .n (.b .n (.b .n (.b .n (.b .n (.b .n (.f .n)))))))) .n) .n))))))))) .n)) .n) .n) .n)) (.b .n (.b .n (.b .n (.b .n (.b .n (.b .n (.b .n (.b .n (.b .n (.b .n (.b .n (.b .n (.b .n (.b (.b (.b (.b (.b (.b (.b (.b .n (.b (.b .n (.b .n (.t .n))) .n)) .n) .n) .n) .n) (.b .n (.b .n (.b .n (.b .n (.b .n (.b .n (.f .n)))))))) .n) .n))))))))))))))) .n) .n)) 48 mf48 [AV.agg [AV.ls x0_0, iv x0_1, AV.ls x0_2, bv x0_3], iv x1] [] =
  askK D (Key.fn 18) [AV.agg [AV.ls x0_0, iv x0_1, AV.ls x0_2, bv x0_3], sv (bstr [33])] [] fun r o =>
  unBool r fun b =>
  unEnd o <|
  br b
   (br (A.eq x1 60)
    (some ((AV.tup [AV.agg [AV.ls x0_0, iv x0_1, AV.ls x0_2, bv x0_3], AV.agg [iv 0, AV.ls [], AV.ls [], iv 0, sv (bstr []), sv (bstr []), AV.ls []], iv 102], [])))
    (askK D (Key.fn 18) [AV.agg [AV.ls x0_0, iv x0_1, AV.ls x0_2, bv x0_3], sv (bstr [116, 114, 117, 101])] [] fun r1 o1 =>
    unBool r1 fun b1 =>
    unEnd o1 <|
    br b1
     (askK D (Key.fn 28) [AV.agg [AV.ls x0_0, iv x0_1, AV.ls x0_2, bv x0_3]] [] fun r2 o2 =>
     unAgg r2 fun cs =>
     cLs cs fun xs l =>
     cInt IntKind.i64 l fun n l1 =>
     cLs l1 fun xs1 l2 =>
     cBool l2 fun b2 l3 =>
     unNil l3 <|
     unEnd o2 <|
     some ((AV.tup [AV.agg [AV.ls xs, iv n, AV.ls xs1, bv b2], AV.agg [iv 0, AV.ls [], AV.ls [], iv 0, sv (bstr []), sv (bstr []), AV.ls []], iv 0], [])))
     (askK D (Key.fn 18) [AV.agg [AV.ls x0_0, iv x0_1, AV.ls x0_2, bv x0_3], sv (bstr [102, 97, 108, 115, 101])] [] fun r2 o2 =>
     unBool r2 fun b2 =>
     unEnd o2 <|
     br b2
      (askK D (Key.fn 28) [AV.agg [AV.ls x0_0, iv x0_1, AV.ls x0_2, bv x0_3]] [] fun r3 o3 =>
      unAgg r3 fun cs =>
      cLs cs fun xs l =>
      cInt IntKind.i64 l fun n l1 =>
      cLs l1 fun xs1 l2 =>
      cBool l2 fun b3 l3 =>
      unNil l3 <|
      unEnd o3 <|
      some ((AV.tup [AV.agg [AV.ls xs, iv n, AV.ls xs1, bv b3], AV.agg [iv 1, AV.ls [], AV.ls [], iv 0, sv (bstr []), sv (bstr []), AV.ls []], iv 0], [])))
      (askK D (Key.fn 18) [AV.agg [AV.ls x0_0, iv x0_1, AV.ls x0_2, bv x0_3], sv (bstr [33])] [] fun r3 o3 =>
      unBool r3 fun b3 =>
      unEnd o3 <|
      br b3
       (askK D (Key.fn 28) [AV.agg [AV.ls x0_0, iv x0_1, AV.ls x0_2, bv x0_3]] [] fun r4 o4 =>
       unAgg r4 fun cs =>
       cLs cs fun xs l =>
       cInt IntKind.i64 l fun n l1 =>
       cLs l1 fun xs1 l2 =>
       cBool l2 fun b4 l3 =>
       unNil l3 <|
       unEnd o4 <|
       askK D (Key.fn 48) [AV.agg [AV.ls xs, iv n, AV.ls xs1, bv b4], iv (A.add IntKind.i64 x1 1)] [] fun r5 o5 =>
       unTup r5 fun cs1 =>
       unCons cs1 fun c l4 =>
       unAgg c fun cs2 =>
       cLs cs2 fun xs2 l5 =>
       cInt IntKind.i64 l5 fun n1 l6 =>
       cLs l6 fun xs3 l7 =>
       cBool l7 fun b5 l8 =>
       unNil l8 <|
       unCons l4 fun c1 l9 =>
       unAgg c1 fun cs3 =>
       cInt IntKind.i64 cs3 fun n2 l10 =>
       cLs l10 fun xs4 l11 =>
       cLs l11 fun xs5 l12 =>
       cInt IntKind.i64 l12 fun n3 l13 =>
       cStr l13 fun s l14 =>
       cStr l14 fun s1 l15 =>
       cLs l15 fun xs6 l16 =>
       unNil l16 <|
       cInt IntKind.i64 l9 fun n4 l17 =>
       unNil l17 <|
       unEnd o5 <|
       br (A.eq n4 0)
        (some ((AV.tup [AV.agg [AV.ls xs2, iv n1, AV.ls xs3, bv b5], AV.agg [iv 3, AV.ls [], AV.ls [], iv 0, sv (bstr []), sv (bstr []), AV.ls [[iv n2, AV.ls xs4, AV.ls xs5, iv n3, sv s, sv s1, AV.ls xs6]]], iv 0], [])))
        (some ((AV.tup [AV.agg [AV.ls xs2, iv n1, AV.ls xs3, bv b5], AV.agg [iv 0, AV.ls [], AV.ls [], iv 0, sv (bstr []), sv (bstr []), AV.ls []], iv n4], []))))
       (askK D (Key.fn 18) [AV.agg [AV.ls x0_0, iv x0_1, AV.ls x0_2, bv x0_3], sv (bstr [40])] [] fun r4 o4 =>
       unBool r4 fun b4 =>
       unEnd o4 <|
       br b4
        (askK D (Key.fn 28) [AV.agg [AV.ls x0_0, iv x0_1, AV.ls x0_2, bv x0_3]] [] fun r5 o5 =>
        unAgg r5 fun cs =>
        cLs cs fun xs l =>
        cInt IntKind.i64 l fun n l1 =>
        cLs l1 fun xs1 l2 =>
        cBool l2 fun b5 l3 =>
        unNil l3 <|
        unEnd o5 <|
        askK D (Key.fn 10) [AV.agg [AV.ls xs, iv n, AV.ls xs1, bv b5], iv (A.add IntKind.i64 x1 1)] [] fun r6 o6 =>
        unTup r6 fun cs1 =>
        unCons cs1 fun c l4 =>
        unAgg c fun cs2 =>
        cLs cs2 fun xs2 l5 =>
        cInt IntKind.i64 l5 fun n1 l6 =>
        cLs l6 fun xs3 l7 =>
        cBool l7 fun b6 l8 =>
        unNil l8 <|
        unCons l4 fun c1 l9 =>
        unAgg c1 fun cs3 =>
        cInt IntKind.i64 cs3 fun n2 l10 =>
        cLs l10 fun xs4 l11 =>
        cLs l11 fun xs5 l12 =>
        cInt IntKind.i64 l12 fun n3 l13 =>
        cStr l13 fun s l14 =>
        cStr l14 fun s1 l15 =>
        cLs l15 fun xs6 l16 =>
        unNil l16 <|
        cInt IntKind.i64 l9 fun n4 l17 =>
        unNil l17 <|
        unEnd o6 <|
        br (A.eq n4 0)
         (askK D (Key.fn 18) [AV.agg [AV.ls xs2, iv n1, AV.ls xs3, bv b6], sv (bstr [41])] [] fun r7 o7 =>
         unBool r7 fun b7 =>
         unEnd o7 <|
         br b7
          (br (A.eq n4 0) (askK D (Key.fn 28) [AV.agg [AV.ls xs2, iv n1, AV.ls xs3, bv b6]] [] fun r8 o8 =>
          unAgg r8 fun cs4 =>
          cLs cs4 fun xs7 l18 =>
          cInt IntKind.i64 l18 fun n5 l19 =>
          cLs l19 fun xs8 l20 =>
          cBool l20 fun b8 l21 =>
          unNil l21 <|
          unEnd o8 <|
          some ((AV.tup [AV.agg [AV.ls xs7, iv n5, AV.ls xs8, bv b8], AV.agg [iv n2, AV.ls xs4, AV.ls xs5, iv n3, sv s, sv s1, AV.ls xs6], iv 0], []))) none)
          (br (A.eq 101 0)
           (askK D (Key.fn 28) [AV.agg [AV.ls xs2, iv n1, AV.ls xs3, bv b6]] [] fun r8 o8 =>
           unAgg r8 fun cs4 =>
           cLs cs4 fun xs7 l18 =>
           cInt IntKind.i64 l18 fun n5 l19 =>
           cLs l19 fun xs8 l20 =>
           cBool l20 fun b8 l21 =>
           unNil l21 <|
           unEnd o8 <|
           some ((AV.tup [AV.agg [AV.ls xs7, iv n5, AV.ls xs8, bv b8], AV.agg [iv n2, AV.ls xs4, AV.ls xs5, iv n3, sv s, sv s1, AV.ls xs6], iv 0], [])))
           (some ((AV.tup [AV.agg [AV.ls xs2, iv n1, AV.ls xs3, bv b6], AV.agg [iv 0, AV.ls [], AV.ls [], iv 0, sv (bstr []), sv (bstr []), AV.ls []], iv 101], [])))))
         (br (A.eq n4 0) none (some ((AV.tup [AV.agg [AV.ls xs2, iv n1, AV.ls xs3, bv b6], AV.agg [iv 0, AV.ls [], AV.ls [], iv 0, sv (bstr []), sv (bstr []), AV.ls []], iv n4], [])))))
        (askK D (Key.fn 58) [AV.agg [AV.ls x0_0, iv x0_1, AV.ls x0_2, bv x0_3]] [] fun r5 o5 =>
        unTup r5 fun cs =>
        unCons cs fun c l =>
        unAgg c fun cs1 =>
        cLs cs1 fun xs l1 =>
        cInt IntKind.i64 l1 fun n l2 =>
        cLs l2 fun xs1 l3 =>
        cBool l3 fun b5 l4 =>
        unNil l4 <|
        unCons l fun c1 l5 =>
        unAgg c1 fun cs2 =>
        cInt IntKind.i64 cs2 fun n1 l6 =>
        cLs l6 fun xs2 l7 =>
        cLs l7 fun xs3 l8 =>
        cInt IntKind.i64 l8 fun n2 l9 =>
        cStr l9 fun s l10 =>
        cStr l10 fun s1 l11 =>
        cLs l11 fun xs4 l12 =>
        unNil l12 <|
        cInt IntKind.i64 l5 fun n3 l13 =>
        unNil l13 <|
        unEnd o5 <|
        some ((AV.tup [AV.agg [AV.ls xs, iv n, AV.ls xs1, bv b5], AV.agg [iv n1, AV.ls xs2, AV.ls xs3, iv n2, sv s, sv s1, AV.ls xs4], iv n3], []))))))))
   (askK D (Key.fn 18) [AV.agg [AV.ls x0_0, iv x0_1, AV.ls x0_2, bv x0_3], sv (bstr [40])] [] fun r1 o1 =>
   unBool r1 fun b1 =>
   unEnd o1 <|
   br b1
    (br (A.eq x1 60)
     (some ((AV.tup [AV.agg [AV.ls x0_0, iv x0_1, AV.ls x0_2, bv x0_3], AV.agg [iv 0, AV.ls [], AV.ls [], iv 0, sv (bstr []), sv (bstr []), AV.ls []], iv 102], [])))
     (askK D (Key.fn 18) [AV.agg [AV.ls x0_0, iv x0_1, AV.ls x0_2, bv x0_3], sv (bstr [116, 114, 117, 101])] [] fun r2 o2 =>
     unBool r2 fun b2 =>
     unEnd o2 <|
     br b2
      (askK D (Key.fn 28) [AV.agg [AV.ls x0_0, iv x0_1, AV.ls x0_2, bv x0_3]] [] fun r3 o3 =>
      unAgg r3 fun cs =>
      cLs cs fun xs l =>
      cInt IntKind.i64 l fun n l1 =>
      cLs l1 fun xs1 l2 =>
      cBool l2 fun b3 l3 =>
      unNil l3 <|
      unEnd o3 <|
      some ((AV.tup [AV.agg [AV.ls xs, iv n, AV.ls xs1, bv b3], AV.agg [iv 0, AV.ls [], AV.ls [], iv 0, sv (bstr []), sv (bstr []), AV.ls []], iv 0], [])))
      (askK D (Key.fn 18) [AV.agg [AV.ls x0_0, iv x0_1, AV.ls x0_2, bv x0_3], sv (bstr [102, 97, 108, 115, 101])] [] fun r3 o3 =>
      unBool r3 fun b3 =>
      unEnd o3 <|
      br b3
       (askK D (Key.fn 28) [AV.agg [AV.ls x0_0, iv x0_1, AV.ls x0_2, bv x0_3]] [] fun r4 o4 =>
       unAgg r4 fun cs =>
       cLs cs fun xs l =>
       cInt IntKind.i64 l fun n l1 =>
       cLs l1 fun xs1 l2 =>
       cBool l2 fun b4 l3 =>
       unNil l3 <|
       unEnd o4 <|
       some ((AV.tup [AV.agg [AV.ls xs, iv n, AV.ls xs1, bv b4], AV.agg [iv 1, AV.ls [], AV.ls [], iv 0, sv (bstr []), sv (bstr []), AV.ls []], iv 0], [])))
       (askK D (Key.fn 18) [AV.agg [AV.ls x0_0, iv x0_1, AV.ls x0_2, bv x0_3], sv (bstr [33])] [] fun r4 o4 =>
       unBool r4 fun b4 =>
       unEnd o4 <|
       br b4
        (askK D (Key.fn 28) [AV.agg [AV.ls x0_0, iv x0_1, AV.ls x0_2, bv x0_3]] [] fun r5 o5 =>
        unAgg r5 fun cs =>
        cLs cs fun xs l =>
        cInt IntKind.i64 l fun n l1 =>
        cLs l1 fun xs1 l2 =>
        cBool l2 fun b5 l3 =>
        unNil l3 <|
        unEnd o5 <|
        askK D (Key.fn 48) [AV.agg [AV.ls xs, iv n, AV.ls xs1, bv b5], iv (A.add IntKind.i64 x1 1)] [] fun r6 o6 =>
        unTup r6 fun cs1 =>
        unCons cs1 fun c l4 =>
        unAgg c fun cs2 =>
        cLs cs2 fun xs2 l5 =>
        cInt IntKind.i64 l5 fun n1 l6 =>
        cLs l6 fun xs3 l7 =>
        cBool l7 fun b6 l8 =>
        unNil l8 <|
        unCons l4 fun c1 l9 =>
        unAgg c1 fun cs3 =>
        cInt IntKind.i64 cs3 fun n2 l10 =>
        cLs l10 fun xs4 l11 =>
        cLs l11 fun xs5 l12 =>
        cInt IntKind.i64 l12 fun n3 l13 =>
        cStr l13 fun s l14 =>
        cStr l14 fun s1 l15 =>
        cLs l15 fun xs6 l16 =>
        unNil l16 <|
        cInt IntKind.i64 l9 fun n4 l17 =>
        unNil l17 <|
        unEnd o6 <|
        br (A.eq n4 0)
         (some ((AV.tup [AV.agg [AV.ls xs2, iv n1, AV.ls xs3, bv b6], AV.agg [iv 3, AV.ls [], AV.ls [], iv 0, sv (bstr []), sv (bstr []), AV.ls [[iv n2, AV.ls xs4, AV.ls xs5, iv n3, sv s, sv s1, AV.ls xs6]]], iv 0], [])))
         (some ((AV.tup [AV.agg [AV.ls xs2, iv n1, AV.ls xs3, bv b6], AV.agg [iv 0, AV.ls [], AV.ls [], iv 0, sv (bstr []), sv (bstr []), AV.ls []], iv n4], []))))
        (askK D (Key.fn 18) [AV.agg [AV.ls x0_0, iv x0_1, AV.ls x0_2, bv x0_3], sv (bstr [40])] [] fun r5 o5 =>
        unBool r5 fun b5 =>
        unEnd o5 <|
        br b5
         (askK D (Key.fn 28) [AV.agg [AV.ls x0_0, iv x0_1, AV.ls x0_2, bv x0_3]] [] fun r6 o6 =>
         unAgg r6 fun cs =>
         cLs cs fun xs l =>
         cInt IntKind.i64 l fun n l1 =>
         cLs l1 fun xs1 l2 =>
         cBool l2 fun b6 l3 =>
         unNil l3 <|
         unEnd o6 <|
         askK D (Key.fn 10) [AV.agg [AV.ls xs, iv n, AV.ls xs1, bv b6], iv (A.add IntKind.i64 x1 1)] [] fun r7 o7 =>
         unTup r7 fun cs1 =>
         unCons cs1 fun c l4 =>
         unAgg c fun cs2 =>
         cLs cs2 fun xs2 l5 =>
         cInt IntKind.i64 l5 fun n1 l6 =>
         cLs l6 fun xs3 l7 =>
         cBool l7 fun b7 l8 =>
         unNil l8 <|
         unCons l4 fun c1 l9 =>
         unAgg c1 fun cs3 =>
         cInt IntKind.i64 cs3 fun n2 l10 =>
         cLs l10 fun xs4 l11 =>
         cLs l11 fun xs5 l12 =>
         cInt IntKind.i64 l12 fun n3 l13 =>
         cStr l13 fun s l14 =>
         cStr l14 fun s1 l15 =>
         cLs l15 fun xs6 l16 =>
         unNil l16 <|
         cInt IntKind.i64 l9 fun n4 l17 =>
         unNil l17 <|
         unEnd o7 <|
         br (A.eq n4 0)
          (askK D (Key.fn 18) [AV.agg [AV.ls xs2, iv n1, AV.ls xs3, bv b7], sv (bstr [41])] [] fun r8 o8 =>
          unBool r8 fun b8 =>
          unEnd o8 <|
          br b8
           (br (A.eq n4 0) (askK D (Key.fn 28) [AV.agg [AV.ls xs2, iv n1, AV.ls xs3, bv b7]] [] fun r9 o9 =>
           unAgg r9 fun cs4 =>
           cLs cs4 fun xs7 l18 =>
           cInt IntKind.i64 l18 fun n5 l19 =>
           cLs l19 fun xs8 l20 =>
           cBool l20 fun b9 l21 =>
           unNil l21 <|
           unEnd o9 <|
           some ((AV.tup [AV.agg [AV.ls xs7, iv n5, AV.ls xs8, bv b9], AV.agg [iv n2, AV.ls xs4, AV.ls xs5, iv n3, sv s, sv s1, AV.ls xs6], iv 0], []))) none)
           (br (A.eq 101 0)
            (askK D (Key.fn 28) [AV.agg [AV.ls xs2, iv n1, AV.ls xs3, bv b7]] [] fun r9 o9 =>
            unAgg r9 fun cs4 =>
            cLs cs4 fun xs7 l18 =>
            cInt IntKind.i64 l18 fun n5 l19 =>
            cLs l19 fun xs8 l20 =>
            cBool l20 fun b9 l21 =>
            unNil l21 <|
            unEnd o9 <|
            some ((AV.tup [AV.agg [AV.ls xs7, iv n5, AV.ls xs8, bv b9], AV.agg [iv n2, AV.ls xs4, AV.ls xs5, iv n3, sv s, sv s1, AV.ls xs6], iv 0], [])))
            (some ((AV.tup [AV.agg [AV.ls xs2, iv n1, AV.ls xs3, bv b7], AV.agg [iv 0, AV.ls [], AV.ls [], iv 0, sv (bstr []), sv (bstr []), AV.ls []], iv 101], [])))))
          (br (A.eq n4 0) none (some ((AV.tup [AV.agg [AV.ls xs2, iv n1, AV.ls xs3, bv b7], AV.agg [iv 0, AV.ls [], AV.ls [], iv 0, sv (bstr []), sv (bstr []), AV.ls []], iv n4], [])))))
         (askK D (Key.fn 58) [AV.agg [AV.ls x0_0, iv x0_1, AV.ls x0_2, bv x0_3]] [] fun r6 o6 =>
         unTup r6 fun cs =>
         unCons cs fun c l =>
         unAgg c fun cs1 =>
         cLs cs1 fun xs l1 =>
         cInt IntKind.i64 l1 fun n l2 =>
         cLs l2 fun xs1 l3 =>
         cBool l3 fun b6 l4 =>
         unNil l4 <|
         unCons l fun c1 l5 =>
         unAgg c1 fun cs2 =>
         cInt IntKind.i64 cs2 fun n1 l6 =>
         cLs l6 fun xs2 l7 =>
         cLs l7 fun xs3 l8 =>
         cInt IntKind.i64 l8 fun n2 l9 =>
         cStr l9 fun s l10 =>
         cStr l10 fun s1 l11 =>
         cLs l11 fun xs4 l12 =>
         unNil l12 <|
         cInt IntKind.i64 l5 fun n3 l13 =>
         unNil l13 <|
         unEnd o6 <|
         some ((AV.tup [AV.agg [AV.ls xs, iv n, AV.ls xs1, bv b6], AV.agg [iv n1, AV.ls xs2, AV.ls xs3, iv n2, sv s, sv s1, AV.ls xs4], iv n3], []))))))))
    (askK D (Key.fn 18) [AV.agg [AV.ls x0_0, iv x0_1, AV.ls x0_2, bv x0_3], sv (bstr [116, 114, 117, 101])] [] fun r2 o2 =>
    unBool r2 fun b2 =>
    unEnd o2 <|
    br b2
     (askK D (Key.fn 28) [AV.agg [AV.ls x0_0, iv x0_1, AV.ls x0_2, bv x0_3]] [] fun r3 o3 =>
     unAgg r3 fun cs =>
     cLs cs fun xs l =>
     cInt IntKind.i64 l fun n l1 =>
     cLs l1 fun xs1 l2 =>
     cBool l2 fun b3 l3 =>
     unNil l3 <|
     unEnd o3 <|
     some ((AV.tup [AV.agg [AV.ls xs, iv n, AV.ls xs1, bv b3], AV.agg [iv 0, AV.ls [], AV.ls [], iv 0, sv (bstr []), sv (bstr []), AV.ls []], iv 0], [])))
     (askK D (Key.fn 18) [AV.agg [AV.ls x0_0, iv x0_1, AV.ls x0_2, bv x0_3], sv (bstr [102, 97, 108, 115, 101])] [] fun r3 o3 =>
     unBool r3 fun b3 =>
     unEnd o3 <|
     br b3
      (askK D (Key.fn 28) [AV.agg [AV.ls x0_0, iv x0_1, AV.ls x0_2, bv x0_3]] [] fun r4 o4 =>
      unAgg r4 fun cs =>
      cLs cs fun xs l =>
      cInt IntKind.i64 l fun n l1 =>
      cLs l1 fun xs1 l2 =>
      cBool l2 fun b4 l3 =>
      unNil l3 <|
      unEnd o4 <|
      some ((AV.tup [AV.agg [AV.ls xs, iv n, AV.ls xs1, bv b4], AV.agg [iv 1, AV.ls [], AV.ls [], iv 0, sv (bstr []), sv (bstr []), AV.ls []], iv 0], [])))
      (askK D (Key.fn 18) [AV.agg [AV.ls x0_0, iv x0_1, AV.ls x0_2, bv x0_3], sv (bstr [33])] [] fun r4 o4 =>
      unBool r4 fun b4 =>
      unEnd o4 <|
      br b4
       (askK D (Key.fn 28) [AV.agg [AV.ls x0_0, iv x0_1, AV.ls x0_2, bv x0_3]] [] fun r5 o5 =>
       unAgg r5 fun cs =>
       cLs cs fun xs l =>
       cInt IntKind.i64 l fun n l1 =>
       cLs l1 fun xs1 l2 =>
       cBool l2 fun b5 l3 =>
       unNil l3 <|
       unEnd o5 <|
       askK D (Key.fn 48) [AV.agg [AV.ls xs, iv n, AV.ls xs1, bv b5], iv (A.add IntKind.i64 x1 1)] [] fun r6 o6 =>
       unTup r6 fun cs1 =>
       unCons cs1 fun c l4 =>
       unAgg c fun cs2 =>
       cLs cs2 fun xs2 l5 =>
       cInt IntKind.i64 l5 fun n1 l6 =>
       cLs l6 fun xs3 l7 =>
       cBool l7 fun b6 l8 =>
       unNil l8 <|
       unCons l4 fun c1 l9 =>
       unAgg c1 fun cs3 =>
       cInt IntKind.i64 cs3 fun n2 l10 =>
       cLs l10 fun xs4 l11 =>
       cLs l11 fun xs5 l12 =>
       cInt IntKind.i64 l12 fun n3 l13 =>
       cStr l13 fun s l14 =>
       cStr l14 fun s1 l15 =>
       cLs l15 fun xs6 l16 =>
       unNil l16 <|
       cInt IntKind.i64 l9 fun n4 l17 =>
       unNil l17 <|
       unEnd o6 <|
       br (A.eq n4 0)
        (some ((AV.tup [AV.agg [AV.ls xs2, iv n1, AV.ls xs3, bv b6], AV.agg [iv 3, AV.ls [], AV.ls [], iv 0, sv (bstr []), sv (bstr []), AV.ls [[iv n2, AV.ls xs4, AV.ls xs5, iv n3, sv s, sv s1, AV.ls xs6]]], iv 0], [])))
        (some ((AV.tup [AV.agg [AV.ls xs2, iv n1, AV.ls xs3, bv b6], AV.agg [iv 0, AV.ls [], AV.ls [], iv 0, sv (bstr []), sv (bstr []), AV.ls []], iv n4], []))))
       (askK D (Key.fn 18) [AV.agg [AV.ls x0_0, iv x0_1, AV.ls x0_2, bv x0_3], sv (bstr [40])] [] fun r5 o5 =>
       unBool r5 fun b5 =>
       unEnd o5 <|
       br b5
        (askK D (Key.fn 28) [AV.agg [AV.ls x0_0, iv x0_1, AV.ls x0_2, bv x0_3]] [] fun r6 o6 =>
        unAgg r6 fun cs =>
        cLs cs fun xs l =>
        cInt IntKind.i64 l fun n l1 =>
        cLs l1 fun xs1 l2 =>
        cBool l2 fun b6 l3 =>
        unNil l3 <|
        unEnd o6 <|
        askK D (Key.fn 10) [AV.agg [AV.ls xs, iv n, AV.ls xs1, bv b6], iv (A.add IntKind.i64 x1 1)] [] fun r7 o7 =>
        unTup r7 fun cs1 =>
        unCons cs1 fun c l4 =>
        unAgg c fun cs2 =>
        cLs cs2 fun xs2 l5 =>
        cInt IntKind.i64 l5 fun n1 l6 =>
        cLs l6 fun xs3 l7 =>
        cBool l7 fun b7 l8 =>
        unNil l8 <|
        unCons l4 fun c1 l9 =>
        unAgg c1 fun cs3 =>
        cInt IntKind.i64 cs3 fun n2 l10 =>
        cLs l10 fun xs4 l11 =>
        cLs l11 fun xs5 l12 =>
        cInt IntKind.i64 l12 fun n3 l13 =>
        cStr l13 fun s l14 =>
        cStr l14 fun s1 l15 =>
        cLs l15 fun xs6 l16 =>
        unNil l16 <|
        cInt IntKind.i64 l9 fun n4 l17 =>
        unNil l17 <|
        unEnd o7 <|
        br (A.eq n4 0)
         (askK D (Key.fn 18) [AV.agg [AV.ls xs2, iv n1, AV.ls xs3, bv b7], sv (bstr [41])] [] fun r8 o8 =>
         unBool r8 fun b8 =>
         unEnd o8 <|
         br b8
          (br (A.eq n4 0) (askK D (Key.fn 28) [AV.agg [AV.ls xs2, iv n1, AV.ls xs3, bv b7]] [] fun r9 o9 =>
          unAgg r9 fun cs4 =>
          cLs cs4 fun xs7 l18 =>
          cInt IntKind.i64 l18 fun n5 l19 =>
          cLs l19 fun xs8 l20 =>
          cBool l20 fun b9 l21 =>
          unNil l21 <|
          unEnd o9 <|
          some ((AV.tup [AV.agg [AV.ls xs7, iv n5, AV.ls xs8, bv b9], AV.agg [iv n2, AV.ls xs4, AV.ls xs5, iv n3, sv s, sv s1, AV.ls xs6], iv 0], []))) none)
          (br (A.eq 101 0)
           (askK D (Key.fn 28) [AV.agg [AV.ls xs2, iv n1, AV.ls xs3, bv b7]] [] fun r9 o9 =>
           unAgg r9 fun cs4 =>
           cLs cs4 fun xs7 l18 =>
           cInt IntKind.i64 l18 fun n5 l19 =>
           cLs l19 fun xs8 l20 =>
           cBool l20 fun b9 l21 =>
           unNil l21 <|
           unEnd o9 <|
           some ((AV.tup [AV.agg [AV.ls xs7, iv n5, AV.ls xs8, bv b9], AV.agg [iv n2, AV.ls xs4, AV.ls xs5, iv n3, sv s, sv s1, AV.ls xs6], iv 0], [])))
           (some ((AV.tup [AV.agg [AV.ls xs2, iv n1, AV.ls xs3, bv b7], AV.agg [iv 0, AV.ls [], AV.ls [], iv 0, sv (bstr []), sv (bstr []), AV.ls []], iv 101], [])))))
         (br (A.eq n4 0) none (some ((AV.tup [AV.agg [AV.ls xs2, iv n1, AV.ls xs3, bv b7], AV.agg [iv 0, AV.ls [], AV.ls [], iv 0, sv (bstr []), sv (bstr []), AV.ls []], iv n4], [])))))
        (askK D (Key.fn 58) [AV.agg [AV.ls x0_0, iv x0_1, AV.ls x0_2, bv x0_3]] [] fun r6 o6 =>
        unTup r6 fun cs =>
        unCons cs fun c l =>
        unAgg c fun cs1 =>
        cLs cs1 fun xs l1 =>
        cInt IntKind.i64 l1 fun n l2 =>
        cLs l2 fun xs1 l3 =>
        cBool l3 fun b6 l4 =>
        unNil l4 <|
        unCons l fun c1 l5 =>
        unAgg c1 fun cs2 =>
        cInt IntKind.i64 cs2 fun n1 l6 =>
        cLs l6 fun xs2 l7 =>
        cLs l7 fun xs3 l8 =>
        cInt IntKind.i64 l8 fun n2 l9 =>
        cStr l9 fun s l10 =>
        cStr l10 fun s1 l11 =>
        cLs l11 fun xs4 l12 =>
        unNil l12 <|
        cInt IntKind.i64 l5 fun n3 l13 =>
        unNil l13 <|
        unEnd o6 <|
        some ((AV.tup [AV.agg [AV.ls xs, iv n, AV.ls xs1, bv b6], AV.agg [iv n1, AV.ls xs2, AV.ls xs3, iv n2, sv s, sv s1, AV.ls xs4], iv n3], [])))))))) := by kernel_rfl

theorem e32 (A : Ar) (D : Orc) (x0_0 : List (List AV)) (x0_1 : Int) (x0_2 : List (List AV)) (x0_3 : Bool) (x1 : Int) : fnK A D ownC hn32 .n 32 mf32 [AV.agg [AV.ls x0_0, iv x0_1, AV.ls x0_2, bv x0_3], iv x1] [] =
  askK D (Key.fn 48) [AV.agg [AV.ls x0_0, iv x0_1, AV.ls x0_2, bv x0_3], iv x1] [] fun r o =>
  unTup r fun cs =>
  unCons cs fun c l =>
  unAgg c fun cs1 =>
  cLs cs1 fun xs l1 =>
  cInt IntKind.i64 l1 fun n l2 =>
  cLs l2 fun xs1 l3 =>
  cBool l3 fun b l4 =>
  unNil l4 <|
  unCons l fun c1 l5 =>
  unAgg c1 fun cs2 =>
  cInt IntKind.i64 cs2 fun n1 l6 =>
  cLs l6 fun xs2 l7 =>
  cLs l7 fun xs3 l8 =>
  cInt IntKind.i64 l8 fun n2 l9 =>
  cStr l9 fun s l10 =>
  cStr l10 fun s1 l11 =>
  cLs l11 fun xs4 l12 =>
  unNil l12 <|
  cInt IntKind.i64 l5 fun n3 l13 =>
  unNil l13 <|
  unEnd o <|
  askK D (Key.lp 32 0) [iv x1, AV.ptr 0 0, AV.ptr 1 0, AV.ptr 2 0, AV.ptr 3 0, iv n3] [ABlk.mk [AV.ls xs, iv n, AV.ls xs1, bv b] true false, ABlk.mk [AV.ls [], iv 0, AV.ls [], bv false] true false, ABlk.mk [iv 0, AV.ls [], AV.ls [], iv 0, sv (bstr []), sv (bstr []), AV.ls []] true false, ABlk.mk [iv n1, AV.ls xs2, AV.ls xs3, iv n2, sv s, sv s1, AV.ls xs4] true false] fun r1 o1 =>
  unTup r1 fun cs3 =>
  unCons cs3 fun c2 l14 =>
  br (axIs 1 c2)
   (unCons l14 fun c3 l15 =>
   unPtr 0 0 c3 <|
   unCons l15 fun c4 l16 =>
   unPtr 1 0 c4 <|
   unCons l16 fun c5 l17 =>
   unPtr 2 0 c5 <|
   unCons l17 fun c6 l18 =>
   unPtr 3 0 c6 <|
   cInt IntKind.i64 l18 fun n4 l19 =>
   unNil l19 <|
   unOut o1 fun c7 l20 =>
   unSet true false c7 fun cs4 =>
   cLs cs4 fun xs5 l21 =>
   cInt IntKind.i64 l21 fun n5 l22 =>
   cLs l22 fun xs6 l23 =>
   cBool l23 fun b1 l24 =>
   unNil l24 <|
   unOut l20 fun c8 l25 =>
   unSet true false c8 fun cs5 =>
   cLs cs5 fun _ l26 =>
   cInt IntKind.i64 l26 fun _ l27 =>
   cLs l27 fun _ l28 =>
   cBool l28 fun _ l29 =>
   unNil l29 <|
   unOut l25 fun c9 l30 =>
   unSet true false c9 fun cs6 =>
   cInt IntKind.i64 cs6 fun _ l31 =>
   cLs l31 fun _ l32 =>
   cLs l32 fun _ l33 =>
   cInt IntKind.i64 l33 fun _ l34 =>
   cStr l34 fun _ l35 =>
   cStr l35 fun _ l36 =>
   cLs l36 fun _ l37 =>
   unNil l37 <|
   unOut l30 fun c10 l38 =>
   unSet true false c10 fun cs7 =>
   cInt IntKind.i64 cs7 fun n9 l39 =>
   cLs l39 fun xs12 l40 =>
   cLs l40 fun xs13 l41 =>
   cInt IntKind.i64 l41 fun n10 l42 =>
   cStr l42 fun s4 l43 =>
   cStr l43 fun s5 l44 =>
   cLs l44 fun xs14 l45 =>
   unNil l45 <|
   unEnd l38 <|
   br (A.eq n4 0)
    (some ((AV.tup [AV.agg [AV.ls xs5, iv n5, AV.ls xs6, bv b1], AV.agg [iv n9, AV.ls xs12, AV.ls xs13, iv n10, sv s4, sv s5, AV.ls xs14], iv 0], [])))
    (some ((AV.tup [AV.agg [AV.ls xs5, iv n5, AV.ls xs6, bv b1], AV.agg [iv 0, AV.ls [], AV.ls [], iv 0, sv (bstr []), sv (bstr []), AV.ls []], iv n4], []))))
   (none) := by kernel_rfl

theorem e32_0 (A : Ar) (D : Orc) (t1 : Int) (b2_0 : List (List AV)) (b2_1 : Int) (b2_2 : List (List AV)) (b2_3 : Bool) (b4_0 : List (List AV)) (b4_1 : Int) (b4_2 : List (List AV)) (b4_3 : Bool) (b5_0 : Int) (b5_1 : List (List AV)) (b5_2 : List (List AV)) (b5_3 : Int) (b5_4 : ByteArray) (b5_5 : ByteArray) (b5_6 : List (List AV)) (b7_0 : Int) (b7_1 : List (List AV)) (b7_2 : List (List AV)) (b7_3 : Int) (b7_4 : ByteArray) (b7_5 : ByteArray) (b7_6 : List (List AV)) (t8 : Int) : lpK A D ownC hn32 .n 32 0 (lpAt mf32 0).fst (lpAt mf32 0).snd [iv t1, AV.ptr 0 0, AV.ptr 1 0, AV.ptr 2 0, AV.ptr 3 0, iv t8] [{ cells := [AV.ls b2_0, iv b2_1, AV.ls b2_2, bv b2_3], st := true, ex := false }, { cells := [AV.ls b4_0, iv b4_1, AV.ls b4_2, bv b4_3], st := true, ex := false }, { cells := [iv b5_0, AV.ls b5_1, AV.ls b5_2, iv b5_3, sv b5_4, sv b5_5, AV.ls b5_6], st := true, ex := false }, { cells := [iv b7_0, AV.ls b7_1, AV.ls b7_2, iv b7_3, sv b7_4, sv b7_5, AV.ls b7_6], st := true, ex := false }] =
  br (A.eq t8 0)
   (askK D (Key.fn 18) [AV.agg [AV.ls b2_0, iv b2_1, AV.ls b2_2, bv b2_3], sv (bstr [38])] [] fun r o =>
   unBool r fun b =>
   unEnd o <|
   br b
    (askK D (Key.fn 28) [AV.agg [AV.ls b2_0, iv b2_1, AV.ls b2_2, bv b2_3]] [] fun r1 o1 =>
    unAgg r1 fun cs =>
    cLs cs fun xs l =>
    cInt IntKind.i64 l fun n l1 =>
    cLs l1 fun xs1 l2 =>
    cBool l2 fun b1 l3 =>
    unNil l3 <|
    unEnd o1 <|
    askK D (Key.fn 48) [AV.agg [AV.ls xs, iv n, AV.ls xs1, bv b1], iv t1] [] fun r2 o2 =>
    unTup r2 fun cs1 =>
    unCons cs1 fun c l4 =>
    unAgg c fun cs2 =>
    cLs cs2 fun xs2 l5 =>
    cInt IntKind.i64 l5 fun n1 l6 =>
    cLs l6 fun xs3 l7 =>
    cBool l7 fun b2 l8 =>
    unNil l8 <|
    unCons l4 fun c1 l9 =>
    unAgg c1 fun cs3 =>
    cInt IntKind.i64 cs3 fun n2 l10 =>
    cLs l10 fun xs4 l11 =>
    cLs l11 fun xs5 l12 =>
    cInt IntKind.i64 l12 fun n3 l13 =>
    cStr l13 fun s l14 =>
    cStr l14 fun s1 l15 =>
    cLs l15 fun xs6 l16 =>
    unNil l16 <|
    cInt IntKind.i64 l9 fun n4 l17 =>
    unNil l17 <|
    unEnd o2 <|
    askK D (Key.lp 32 0) [iv t1, AV.ptr 0 0, AV.ptr 1 0, AV.ptr 2 0, AV.ptr 3 0, iv n4] [ABlk.mk [AV.ls xs2, iv n1, AV.ls xs3, bv b2] true false, ABlk.mk [AV.ls b4_0, iv b4_1, AV.ls b4_2, bv b4_3] true false, ABlk.mk [iv b5_0, AV.ls b5_1, AV.ls b5_2, iv b5_3, sv b5_4, sv b5_5, AV.ls b5_6] true false, ABlk.mk [iv 4, AV.ls [], AV.ls [], iv 0, sv (bstr []), sv (bstr []), AV.ls [[iv b7_0, AV.ls b7_1, AV.ls b7_2, iv b7_3, sv b7_4, sv b7_5, AV.ls b7_6], [iv n2, AV.ls xs4, AV.ls xs5, iv n3, sv s, sv s1, AV.ls xs6]]] true false] fun r3 o3 =>
    tailK 4 [0, 1, 2, 3] (AH.mk [(3, ABlk.mk [iv 4, AV.ls [], AV.ls [], iv 0, sv (bstr []), sv (bstr []), AV.ls [[iv b7_0, AV.ls b7_1, AV.ls b7_2, iv b7_3, sv b7_4, sv b7_5, AV.ls b7_6], [iv n2, AV.ls xs4, AV.ls xs5, iv n3, sv s, sv s1, AV.ls xs6]]] true false), (6, ABlk.mk [iv b7_0, AV.ls b7_1, AV.ls b7_2, iv b7_3, sv b7_4, sv b7_5, AV.ls b7_6, iv n2, AV.ls xs4, AV.ls xs5, iv n3, sv s, sv s1, AV.ls xs6] false true), (2, ABlk.mk [iv b5_0, AV.ls b5_1, AV.ls b5_2, iv b5_3, sv b5_4, sv b5_5, AV.ls b5_6] true false), (1, ABlk.mk [AV.ls b4_0, iv b4_1, AV.ls b4_2, bv b4_3] true false), (0, ABlk.mk [AV.ls xs2, iv n1, AV.ls xs3, bv b2] true false), (5, ABlk.mk [iv n2, AV.ls xs4, AV.ls xs5, iv n3, sv s, sv s1, AV.ls xs6] true false), (4, ABlk.mk [AV.ls xs2, iv n1, AV.ls xs3, bv b2] true false)] 7 none) [0, 1, 2, 3] r3 o3)
    (some ((AV.tup [iv 0, AV.ptr 0 0, AV.ptr 1 0, AV.ptr 2 0, AV.ptr 3 0, iv t8], [BO.set (ABlk.mk [AV.ls b2_0, iv b2_1, AV.ls b2_2, bv b2_3] true false), BO.set (ABlk.mk [AV.ls b4_0, iv b4_1, AV.ls b4_2, bv b4_3] true false), BO.set (ABlk.mk [iv b5_0, AV.ls b5_1, AV.ls b5_2, iv b5_3, sv b5_4, sv b5_5, AV.ls b5_6] true false), BO.set (ABlk.mk [iv b7_0, AV.ls b7_1, AV.ls b7_2, iv b7_3, sv b7_4, sv b7_5, AV.ls b7_6] true false)]))))
   (some ((AV.tup [iv 0, AV.ptr 0 0, AV.ptr 1 0, AV.ptr 2 0, AV.ptr 3 0, iv t8], [BO.set (ABlk.mk [AV.ls b2_0, iv b2_1, AV.ls b2_2, bv b2_3] true false), BO.set (ABlk.mk [AV.ls b4_0, iv b4_1, AV.ls b4_2, bv b4_3] true false), BO.set (ABlk.mk [iv b5_0, AV.ls b5_1, AV.ls b5_2, iv b5_3, sv b5_4, sv b5_5, AV.ls b5_6] true false), BO.set (ABlk.mk [iv b7_0, AV.ls b7_1, AV.ls b7_2, iv b7_3, sv b7_4, sv b7_5, AV.ls b7_6] true false)]))) := by kernel_rfl

theorem e10 (A : Ar) (D : Orc) (x0_0 : List (List AV)) (x0_1 : Int) (x0_2 : List (List AV)) (x0_3 : Bool) (x1 : Int) : fnK A D ownC hn10 .n 10 mf10 [AV.agg [AV.ls x0_0, iv x0_1, AV.ls x0_2, bv x0_3], iv x1] [] =
  askK D (Key.fn 32) [AV.agg [AV.ls x0_0, iv x0_1, AV.ls x0_2, bv x0_3], iv x1] [] fun r o =>
  unTup r fun cs =>
  unCons cs fun c l =>
  unAgg c fun cs1 =>
  cLs cs1 fun xs l1 =>
  cInt IntKind.i64 l1 fun n l2 =>
  cLs l2 fun xs1 l3 =>
  cBool l3 fun b l4 =>
  unNil l4 <|
  unCons l fun c1 l5 =>
  unAgg c1 fun cs2 =>
  cInt IntKind.i64 cs2 fun n1 l6 =>
  cLs l6 fun xs2 l7 =>
  cLs l7 fun xs3 l8 =>
  cInt IntKind.i64 l8 fun n2 l9 =>
  cStr l9 fun s l10 =>
  cStr l10 fun s1 l11 =>
  cLs l11 fun xs4 l12 =>
  unNil l12 <|
  cInt IntKind.i64 l5 fun n3 l13 =>
  unNil l13 <|
  unEnd o <|
  askK D (Key.lp 10 0) [iv x1, AV.ptr 0 0, AV.ptr 1 0, AV.ptr 2 0, AV.ptr 3 0, iv n3] [ABlk.mk [AV.ls xs, iv n, AV.ls xs1, bv b] true false, ABlk.mk [AV.ls [], iv 0, AV.ls [], bv false] true false, ABlk.mk [iv 0, AV.ls [], AV.ls [], iv 0, sv (bstr []), sv (bstr []), AV.ls []] true false, ABlk.mk [iv n1, AV.ls xs2, AV.ls xs3, iv n2, sv s, sv s1, AV.ls xs4] true false] fun r1 o1 =>
  unTup r1 fun cs3 =>
  unCons cs3 fun c2 l14 =>
  br (axIs 1 c2)
   (unCons l14 fun c3 l15 =>
   unPtr 0 0 c3 <|
   unCons l15 fun c4 l16 =>
   unPtr 1 0 c4 <|
   unCons l16 fun c5 l17 =>
   unPtr 2 0 c5 <|
   unCons l17 fun c6 l18 =>
   unPtr 3 0 c6 <|
   cInt IntKind.i64 l18 fun n4 l19 =>
   unNil l19 <|
   unOut o1 fun c7 l20 =>
   unSet true false c7 fun cs4 =>
   cLs cs4 fun xs5 l21 =>
   cInt IntKind.i64 l21 fun n5 l22 =>
   cLs l22 fun xs6 l23 =>
   cBool l23 fun b1 l24 =>
   unNil l24 <|
   unOut l20 fun c8 l25 =>
   unSet true false c8 fun cs5 =>
   cLs cs5 fun _ l26 =>
   cInt IntKind.i64 l26 fun _ l27 =>
   cLs l27 fun _ l28 =>
   cBool l28 fun _ l29 =>
   unNil l29 <|
   unOut l25 fun c9 l30 =>
   unSet true false c9 fun cs6 =>
   cInt IntKind.i64 cs6 fun _ l31 =>
   cLs l31 fun _ l32 =>
   cLs l32 fun _ l33 =>
   cInt IntKind.i64 l33 fun _ l34 =>
   cStr l34 fun _ l35 =>
   cStr l35 fun _ l36 =>
   cLs l36 fun _ l37 =>
   unNil l37 <|
   unOut l30 fun c10 l38 =>
   unSet true false c10 fun cs7 =>
   cInt IntKind.i64 cs7 fun n9 l39 =>
   cLs l39 fun xs12 l40 =>
   cLs l40 fun xs13 l41 =>
   cInt IntKind.i64 l41 fun n10 l42 =>
   cStr l42 fun s4 l43 =>
   cStr l43 fun s5 l44 =>
   cLs l44 fun xs14 l45 =>
   unNil l45 <|
   unEnd l38 <|
   br (A.eq n4 0)
    (some ((AV.tup [AV.agg [AV.ls xs5, iv n5, AV.ls xs6, bv b1], AV.agg [iv n9, AV.ls xs12, AV.ls xs13, iv n10, sv s4, sv s5, AV.ls xs14], iv 0], [])))
    (some ((AV.tup [AV.agg [AV.ls xs5, iv n5, AV.ls xs6, bv b1], AV.agg [iv 0, AV.ls [], AV.ls [], iv 0, sv (bstr []), sv (bstr []), AV.ls []], iv n4], []))))
   (none) := by kernel_rfl

theorem e10_0 (A : Ar) (D : Orc) (t1 : Int) (b2_0 : List (List AV)) (b2_1 : Int) (b2_2 : List (List AV)) (b2_3 : Bool) (b4_0 : List (List AV)) (b4_1 : Int) (b4_2 : List (List AV)) (b4_3 : Bool) (b5_0 : Int) (b5_1 : List (List AV)) (b5_2 : List (List AV)) (b5_3 : Int) (b5_4 : ByteArray) (b5_5 : ByteArray) (b5_6 : List (List AV)) (b7_0 : Int) (b7_1 : List (List AV)) (b7_2 : List (List AV)) (b7_3 : Int) (b7_4 : ByteArray) (b7_5 : ByteArray) (b7_6 : List (List AV)) (t8 : Int) : lpK A D ownC hn10 .n 10 0 (lpAt mf10 0).fst (lpAt mf10 0).snd [iv t1, AV.ptr 0 0, AV.ptr 1 0, AV.ptr 2 0, AV.ptr 3 0, iv t8] [{ cells := [AV.ls b2_0, iv b2_1, AV.ls b2_2, bv b2_3], st := true, ex := false }, { cells := [AV.ls b4_0, iv b4_1, AV.ls b4_2, bv b4_3], st := true, ex := false }, { cells := [iv b5_0, AV.ls b5_1, AV.ls b5_2, iv b5_3, sv b5_4, sv b5_5, AV.ls b5_6], st := true, ex := false }, { cells := [iv b7_0, AV.ls b7_1, AV.ls b7_2, iv b7_3, sv b7_4, sv b7_5, AV.ls b7_6], st := true, ex := false }] =
  br (A.eq t8 0)
   (askK D (Key.fn 18) [AV.agg [AV.ls b2_0, iv b2_1, AV.ls b2_2, bv b2_3], sv (bstr [124])] [] fun r o =>
   unBool r fun b =>
   unEnd o <|
   br b
    (askK D (Key.fn 28) [AV.agg [AV.ls b2_0, iv b2_1, AV.ls b2_2, bv b2_3]] [] fun r1 o1 =>
    unAgg r1 fun cs =>
    cLs cs fun xs l =>
    cInt IntKind.i64 l fun n l1 =>
    cLs l1 fun xs1 l2 =>
    cBool l2 fun b1 l3 =>
    unNil l3 <|
    unEnd o1 <|
    askK D (Key.fn 32) [AV.agg [AV.ls xs, iv n, AV.ls xs1, bv b1], iv t1] [] fun r2 o2 =>
    unTup r2 fun cs1 =>
    unCons cs1 fun c l4 =>
    unAgg c fun cs2 =>
    cLs cs2 fun xs2 l5 =>
    cInt IntKind.i64 l5 fun n1 l6 =>
    cLs l6 fun xs3 l7 =>
    cBool l7 fun b2 l8 =>
    unNil l8 <|
    unCons l4 fun c1 l9 =>
    unAgg c1 fun cs3 =>
    cInt IntKind.i64 cs3 fun n2 l10 =>
    cLs l10 fun xs4 l11 =>
    cLs l11 fun xs5 l12 =>
    cInt IntKind.i64 l12 fun n3 l13 =>
    cStr l13 fun s l14 =>
    cStr l14 fun s1 l15 =>
    cLs l15 fun xs6 l16 =>
    unNil l16 <|
    cInt IntKind.i64 l9 fun n4 l17 =>
    unNil l17 <|
    unEnd o2 <|
    askK D (Key.lp 10 0) [iv t1, AV.ptr 0 0, AV.ptr 1 0, AV.ptr 2 0, AV.ptr 3 0, iv n4] [ABlk.mk [AV.ls xs2, iv n1, AV.ls xs3, bv b2] true false, ABlk.mk [AV.ls b4_0, iv b4_1, AV.ls b4_2, bv b4_3] true false, ABlk.mk [iv b5_0, AV.ls b5_1, AV.ls b5_2, iv b5_3, sv b5_4, sv b5_5, AV.ls b5_6] true false, ABlk.mk [iv 5, AV.ls [], AV.ls [], iv 0, sv (bstr []), sv (bstr []), AV.ls [[iv b7_0, AV.ls b7_1, AV.ls b7_2, iv b7_3, sv b7_4, sv b7_5, AV.ls b7_6], [iv n2, AV.ls xs4, AV.ls xs5, iv n3, sv s, sv s1, AV.ls xs6]]] true false] fun r3 o3 =>
    tailK 4 [0, 1, 2, 3] (AH.mk [(3, ABlk.mk [iv 5, AV.ls [], AV.ls [], iv 0, sv (bstr []), sv (bstr []), AV.ls [[iv b7_0, AV.ls b7_1, AV.ls b7_2, iv b7_3, sv b7_4, sv b7_5, AV.ls b7_6], [iv n2, AV.ls xs4, AV.ls xs5, iv n3, sv s, sv s1, AV.ls xs6]]] true false), (6, ABlk.mk [iv b7_0, AV.ls b7_1, AV.ls b7_2, iv b7_3, sv b7_4, sv b7_5, AV.ls b7_6, iv n2, AV.ls xs4, AV.ls xs5, iv n3, sv s, sv s1, AV.ls xs6] false true), (2, ABlk.mk [iv b5_0, AV.ls b5_1, AV.ls b5_2, iv b5_3, sv b5_4, sv b5_5, AV.ls b5_6] true false), (1, ABlk.mk [AV.ls b4_0, iv b4_1, AV.ls b4_2, bv b4_3] true false), (0, ABlk.mk [AV.ls xs2, iv n1, AV.ls xs3, bv b2] true false), (5, ABlk.mk [iv n2, AV.ls xs4, AV.ls xs5, iv n3, sv s, sv s1, AV.ls xs6] true false), (4, ABlk.mk [AV.ls xs2, iv n1, AV.ls xs3, bv b2] true false)] 7 none) [0, 1, 2, 3] r3 o3)
    (some ((AV.tup [iv 0, AV.ptr 0 0, AV.ptr 1 0, AV.ptr 2 0, AV.ptr 3 0, iv t8], [BO.set (ABlk.mk [AV.ls b2_0, iv b2_1, AV.ls b2_2, bv b2_3] true false), BO.set (ABlk.mk [AV.ls b4_0, iv b4_1, AV.ls b4_2, bv b4_3] true false), BO.set (ABlk.mk [iv b5_0, AV.ls b5_1, AV.ls b5_2, iv b5_3, sv b5_4, sv b5_5, AV.ls b5_6] true false), BO.set (ABlk.mk [iv b7_0, AV.ls b7_1, AV.ls b7_2, iv b7_3, sv b7_4, sv b7_5, AV.ls b7_6] true false)]))))
   (some ((AV.tup [iv 0, AV.ptr 0 0, AV.ptr 1 0, AV.ptr 2 0, AV.ptr 3 0, iv t8], [BO.set (ABlk.mk [AV.ls b2_0, iv b2_1, AV.ls b2_2, bv b2_3] true false), BO.set (ABlk.mk [AV.ls b4_0, iv b4_1, AV.ls b4_2, bv b4_3] true false), BO.set (ABlk.mk [iv b5_0, AV.ls b5_1, AV.ls b5_2, iv b5_3, sv b5_4, sv b5_5, AV.ls b5_6] true false), BO.set (ABlk.mk [iv b7_0, AV.ls b7_1, AV.ls b7_2, iv b7_3, sv b7_4, sv b7_5, AV.ls b7_6] true false)]))) := by kernel_rfl

theorem e14 (A : Ar) (D : Orc) (x0_0 : List (List AV)) (x0_1 : Int) (x0_2 : List (List AV)) (x0_3 : Bool) (x1 : Int) : fnK A D ownC hn14 (.b (.b (.b (.b (.b (.b (.b .n (.b (.b .n (.b .n (.t .n))) .n)) .n) .n) .n) .n) .n) (.b .n (.b .n (.b .n (.b .n (.b .n (.b .n (.b .n (.f .n))))))))) 14 mf14 [AV.agg [AV.ls x0_0, iv x0_1, AV.ls x0_2, bv x0_3], iv x1] [] =
  br (A.eq x1 0)
   (askK D (Key.fn 15) [AV.agg [AV.ls x0_0, iv x0_1, AV.ls x0_2, bv x0_3]] [] fun r o =>
   unAgg r fun cs =>
   cInt IntKind.i64 cs fun n l =>
   cStr l fun _ l1 =>
   cInt IntKind.i64 l1 fun _ l2 =>
   cInt IntKind.i64 l2 fun _ l3 =>
   unNil l3 <|
   unEnd o <|
   br (A.eq n 5)
    (br (A.eq x1 0) (some ((AV.tup [AV.agg [iv 0, iv 0], iv 0], []))) none)
    (br (A.eq 101 0)
     (some ((AV.tup [AV.agg [iv 0, iv 0], iv 0], [])))
     (askK D (Key.fn 15) [AV.agg [AV.ls x0_0, iv x0_1, AV.ls x0_2, bv x0_3]] [] fun r1 o1 =>
     unAgg r1 fun cs1 =>
     cInt IntKind.i64 cs1 fun _ l4 =>
     cStr l4 fun _ l5 =>
     cInt IntKind.i64 l5 fun n4 l6 =>
     cInt IntKind.i64 l6 fun n5 l7 =>
     unNil l7 <|
     unEnd o1 <|
     some ((AV.tup [AV.agg [iv n4, iv n5], iv 101], [])))))
   (br (A.eq x1 0) none (askK D (Key.fn 15) [AV.agg [AV.ls x0_0, iv x0_1, AV.ls x0_2, bv x0_3]] [] fun r o =>
   unAgg r fun cs =>
   cInt IntKind.i64 cs fun _ l =>
   cStr l fun _ l1 =>
   cInt IntKind.i64 l1 fun n1 l2 =>
   cInt IntKind.i64 l2 fun n2 l3 =>
   unNil l3 <|
   unEnd o <|
   some ((AV.tup [AV.agg [iv n1, iv n2], iv x1], [])))) := by kernel_rfl
end Go.Proofs.Ytlmhajfbpplpoaa
namespace Go.Proofs.Ytlmhajfbpplpoaa
open Go.RowKit
/- (*plumbline/expr.Cursor).At -/
def hs16 : Hints := []
noncomputable def mf16 : MFn := mfD Try.prog entsC hs16 false true 16
def hn16 : Hnt := ⟨[], [], [(7, [.ls]), (15, [.ls]), (19, [.int .i64]), (24, [.int .i64, .str, .int .i64, .int .i64]), (25, [.int .i64, .str, .int .i64, .int .i64])]⟩
/- (*plumbline/expr.Cursor).is -/
def hs27 : Hints := []
noncomputable def mf27 : MFn := mfD Try.prog entsC hs27 false true 27
def hn27 : Hnt := ⟨[(16, (.agg [.int .i64, .str, .int .i64, .int .i64], [.box [.ls, .int .i64, .ls, .bool]]))], [], [(9, [.str]), (14, [.int .i64]), (18, [.int .i64]), (23, [.int .i64])]⟩
/- (*plumbline/expr.Cursor).Take -/
def hs19 : Hints := []
noncomputable def mf19 : MFn := mfD Try.prog entsC hs19 false true 19
def hn19 : Hnt := ⟨[(27, (.bool, [.box [.ls, .int .i64, .ls, .bool]]))], [], [(13, [.int .i64])]⟩
/- (*plumbline/expr.Cursor).Want -/
def hs17 : Hints := []
noncomputable def mf17 : MFn := mfD Try.prog entsC hs17 false true 17
def hn17 : Hnt := ⟨[(19, (.bool, [.box [.ls, .int .i64, .ls, .bool]]))], [], []⟩
/- (*plumbline/expr.Cursor).name -/
def hs42 : Hints := []
noncomputable def mf42 : MFn := mfD Try.prog entsC hs42 false true 42
def hn42 : Hnt := ⟨[(16, (.agg [.int .i64, .str, .int .i64, .int .i64], [.box [.ls, .int .i64, .ls, .bool]])), (54, (.bool, []))], [], [(7, [.int .i64]), (11, [.str])]⟩
/- (*plumbline/expr.Cursor).variable -/
def hs43 : Hints := []
noncomputable def mf43 : MFn := mfD Try.prog entsC hs43 false true 43
def hn43 : Hnt := ⟨[(16, (.agg [.int .i64, .str, .int .i64, .int .i64], [.box [.ls, .int .i64, .ls, .bool]])), (42, (.bool, [.box [.ls, .int .i64, .ls, .bool]])), (55, (.bool, []))], [], [(15, [.bool]), (20, [.ls]), (22, [.str]), (29, [.int .i64]), (34, [.str])]⟩
/- (*plumbline/expr.Cursor).mono -/
def hs26 : Hints := []
noncomputable def mf26 : MFn := mfD Try.prog entsC hs26 false true 26
def hn26 : Hnt := ⟨[(16, (.agg [.int .i64, .str, .int .i64, .int .i64], [.box [.ls, .int .i64, .ls, .bool]])), (19, (.bool, [.box [.ls, .int .i64, .ls, .bool]])), (43, (.tup [.str, .int .i64], [.box [.ls, .int .i64, .ls, .bool]]))], [], [(14, [.int .i64]), (17, [.str]), (22, [.int .i64]), (29, [.bool, .str, .str]), (36, [.bool, .str, .str])]⟩
/- (*plumbline/expr.Cursor).begins -/
def hs25 : Hints := []
noncomputable def mf25 : MFn := mfD Try.prog entsC hs25 false true 25
def hn25 : Hnt := ⟨[(16, (.agg [.int .i64, .str, .int .i64, .int .i64], [.box [.ls, .int .i64, .ls, .bool]])), (42, (.bool, [.box [.ls, .int .i64, .ls, .bool]]))], [], []⟩
/- (*plumbline/expr.Cursor).Sum -/
def hs7 : Hints := [⟨41, [true, false, false, false, true, true], [(4, 3)], [], [(0, ([true, false, true, true], ([2], [4])))]⟩]
noncomputable def mf7 : MFn := mfD Try.prog entsC hs7 false true 7
def hn7 : Hnt := ⟨[(19, (.bool, [.box [.ls, .int .i64, .ls, .bool]])), (25, (.bool, [.box [.ls, .int .i64, .ls, .bool]])), (26, (.tup [.agg [.bool, .str, .str], .int .i64], [.box [.ls, .int .i64, .ls, .bool]])), (27, (.bool, [.box [.ls, .int .i64, .ls, .bool]]))], [(0, [(0, ([.ptr 0 0, .ls, .int .i64], [.box [.ls, .int .i64, .ls, .bool], .del]))])], [(27, [.bool, .str, .str])]⟩
/- plumbline/expr.compares -/
def hs68 : Hints := []
noncomputable def mf68 : MFn := mfD Try.prog entsC hs68 false false 68
def hn68 : Hnt := ⟨[], [], []⟩
/- slices.Index[[]string,string] -/
def hs63 : Hints := [⟨19, [true, true, false, false, false, false, false, true, true], [], [], [(0, ([false, false, false, false, true], ([], []))), (1, ([], ([], [])))]⟩]
noncomputable def mf63 : MFn := mfD Try.prog entsC hs63 false false 63
def hn63 : Hnt := ⟨[], [(0, [(0, ([.int .i64], [])), (1, ([], []))])], [(14, [.str]), (15, [.str])]⟩
/- slices.Contains[[]string,string] -/
def hs55 : Hints := []
noncomputable def mf55 : MFn := mfD Try.prog entsC hs55 false false 55
def hn55 : Hnt := ⟨[(63, (.int .i64, []))], [], []⟩
noncomputable def tabEa : List (Nat × MFn) := [(16, mf16), (27, mf27), (19, mf19), (17, mf17), (42, mf42), (43, mf43), (26, mf26), (25, mf25), (7, mf7), (68, mf68), (63, mf63), (55, mf55)]
theorem e16 (A : Ar) (D : Orc) (p0_0 : List (List AV)) (p0_1 : Int) (p0_2 : List (List AV)) (p0_3 : Bool) : fnK A D ownC hn16 .n 16 mf16 [AV.ptr 0 0] [{ cells := [AV.ls p0_0, iv p0_1, AV.ls p0_2, bv p0_3], st := true, ex := false }] =
  br (A.eq (↑(lenR p0_0)) 0)
   (some ((AV.agg [iv 5, sv (bstr []), iv 0, iv 0], [BO.set (ABlk.mk [AV.ls p0_0, iv p0_1, AV.ls p0_2, bv p0_3] true false)])))
   (unI (A.min (A.max p0_1 0) (A.sub IntKind.i64 (↑(lenR p0_0)) 1)) fun i =>
   nthK p0_0 i fun cs =>
   cInt IntKind.i64 cs fun n l =>
   cStr l fun s l1 =>
   cInt IntKind.i64 l1 fun n1 l2 =>
   cInt IntKind.i64 l2 fun n2 l3 =>
   unNil l3 <|
   some ((AV.agg [iv n, sv s, iv n1, iv n2], [BO.set (ABlk.mk [AV.ls p0_0, iv p0_1, AV.ls p0_2, bv p0_3] true false)]))) := by kernel_rfl

theorem e27 (A : Ar) (D : Orc) (p0_0 : List (List AV)) (p0_1 : Int) (p0_2 : List (List AV)) (p0_3 : Bool) (x1 : ByteArray) : fnK A D ownC hn27 .n 27 mf27 [AV.ptr 0 0, sv x1] [{ cells := [AV.ls p0_0, iv p0_1, AV.ls p0_2, bv p0_3], st := true, ex := false }] =
  askK D (Key.fn 16) [AV.ptr 0 0] [ABlk.mk [AV.ls p0_0, iv p0_1, AV.ls p0_2, bv p0_3] true false] fun r o =>
  unAgg r fun cs =>
  cInt IntKind.i64 cs fun n l =>
  cStr l fun s l1 =>
  cInt IntKind.i64 l1 fun _ l2 =>
  cInt IntKind.i64 l2 fun _ l3 =>
  unNil l3 <|
  unOut o fun c l4 =>
  unSet true false c fun cs1 =>
  cLs cs1 fun xs l5 =>
  cInt IntKind.i64 l5 fun n3 l6 =>
  cLs l6 fun xs1 l7 =>
  cBool l7 fun b l8 =>
  unNil l8 <|
  unEnd l4 <|
  br (A.seq s x1)
   (br (A.eq n 2)
    (some ((bv true, [BO.set (ABlk.mk [AV.ls xs, iv n3, AV.ls xs1, bv b] true false)])))
    (br (A.eq n 1)
     (some ((bv true, [BO.set (ABlk.mk [AV.ls xs, iv n3, AV.ls xs1, bv b] true false)])))
     (br (A.eq n 4)
      (some ((bv true, [BO.set (ABlk.mk [AV.ls xs, iv n3, AV.ls xs1, bv b] true false)])))
      (some ((bv false, [BO.set (ABlk.mk [AV.ls xs, iv n3, AV.ls xs1, bv b] true false)]))))))
   (some ((bv false, [BO.set (ABlk.mk [AV.ls xs, iv n3, AV.ls xs1, bv b] true false)]))) := by kernel_rfl

theorem e19 (A : Ar) (D : Orc) (p0_0 : List (List AV)) (p0_1 : Int) (p0_2 : List (List AV)) (p0_3 : Bool) (x1 : ByteArray) : fnK A D ownC hn19 .n 19 mf19 [AV.ptr 0 0, sv x1] [{ cells := [AV.ls p0_0, iv p0_1, AV.ls p0_2, bv p0_3], st := true, ex := false }] =
  askK D (Key.fn 27) [AV.ptr 0 0, sv x1] [ABlk.mk [AV.ls p0_0, iv p0_1, AV.ls p0_2, bv p0_3] true false] fun r o =>
  unBool r fun b =>
  unOut o fun c l =>
  unSet true false c fun cs =>
  cLs cs fun xs l1 =>
  cInt IntKind.i64 l1 fun n l2 =>
  cLs l2 fun xs1 l3 =>
  cBool l3 fun b1 l4 =>
  unNil l4 <|
  unEnd l <|
  br b
   (some ((bv true, [BO.set (ABlk.mk [AV.ls xs, iv (A.add IntKind.i64 n 1), AV.ls xs1, bv b1] true false)])))
   (some ((bv false, [BO.set (ABlk.mk [AV.ls xs, iv n, AV.ls xs1, bv b1] true false)]))) := by kernel_rfl

theorem e17 (A : Ar) (D : Orc) (p0_0 : List (List AV)) (p0_1 : Int) (p0_2 : List (List AV)) (p0_3 : Bool) (x1 : ByteArray) : fnK A D ownC hn17 .n 17 mf17 [AV.ptr 0 0, sv x1] [{ cells := [AV.ls p0_0, iv p0_1, AV.ls p0_2, bv p0_3], st := true, ex := false }] =
  askK D (Key.fn 19) [AV.ptr 0 0, sv x1] [ABlk.mk [AV.ls p0_0, iv p0_1, AV.ls p0_2, bv p0_3] true false] fun r o =>
  unBool r fun b =>
  unOut o fun c l =>
  unSet true false c fun cs =>
  cLs cs fun xs l1 =>
  cInt IntKind.i64 l1 fun n l2 =>
  cLs l2 fun xs1 l3 =>
  cBool l3 fun b1 l4 =>
  unNil l4 <|
  unEnd l <|
  br b
   (some ((iv 0, [BO.set (ABlk.mk [AV.ls xs, iv n, AV.ls xs1, bv b1] true false)])))
   (some ((iv 101, [BO.set (ABlk.mk [AV.ls xs, iv n, AV.ls xs1, bv b1] true false)]))) := by kernel_rfl

theorem e42 (A : Ar) (D : Orc) (p0_0 : List (List AV)) (p0_1 : Int) (p0_2 : List (List AV)) (p0_3 : Bool) : fnK A D ownC hn42 .n 42 mf42 [AV.ptr 0 0] [{ cells := [AV.ls p0_0, iv p0_1, AV.ls p0_2, bv p0_3], st := true, ex := false }] =
  askK D (Key.fn 16) [AV.ptr 0 0] [ABlk.mk [AV.ls p0_0, iv p0_1, AV.ls p0_2, bv p0_3] true false] fun r o =>
  unAgg r fun cs =>
  cInt IntKind.i64 cs fun n l =>
  cStr l fun s l1 =>
  cInt IntKind.i64 l1 fun _ l2 =>
  cInt IntKind.i64 l2 fun _ l3 =>
  unNil l3 <|
  unOut o fun c l4 =>
  unSet true false c fun cs1 =>
  cLs cs1 fun xs l5 =>
  cInt IntKind.i64 l5 fun n3 l6 =>
  cLs l6 fun xs1 l7 =>
  cBool l7 fun b l8 =>
  unNil l8 <|
  unEnd l4 <|
  br (A.eq n 1)
   (askK D (Key.fn 54) [sv s] [] fun r1 o1 =>
   unBool r1 fun b1 =>
   unEnd o1 <|
   br b1
    (some ((bv true, [BO.set (ABlk.mk [AV.ls xs, iv n3, AV.ls xs1, bv b] true false)])))
    (some ((bv false, [BO.set (ABlk.mk [AV.ls xs, iv n3, AV.ls xs1, bv b] true false)]))))
   (some ((bv false, [BO.set (ABlk.mk [AV.ls xs, iv n3, AV.ls xs1, bv b] true false)]))) := by kernel_rfl

theorem e43 (A : Ar) (D : Orc) (p0_0 : List (List AV)) (p0_1 : Int) (p0_2 : List (List AV)) (p0_3 : Bool) : fnK A D ownC hn43 (.b (.b .n (.b .n (.b (.t (.t (.t (.t (.t (.t (.b (.t (.b .n (.t .n))) (.t (.b (.t .n) .n))))))))) (.f (.f (.f (.f (.f (.f (.f (.f .n))))))))))) .n) 43 mf43 [AV.ptr 0 0] [{ cells := [AV.ls p0_0, iv p0_1, AV.ls p0_2, bv p0_3], st := true, ex := false }] =
  askK D (Key.fn 16) [AV.ptr 0 0] [ABlk.mk [AV.ls p0_0, iv p0_1, AV.ls p0_2, bv p0_3] true false] fun r o =>
  unAgg r fun cs =>
  cInt IntKind.i64 cs fun _ l =>
  cStr l fun s l1 =>
  cInt IntKind.i64 l1 fun _ l2 =>
  cInt IntKind.i64 l2 fun _ l3 =>
  unNil l3 <|
  unOut o fun c l4 =>
  unSet true false c fun cs1 =>
  cLs cs1 fun xs l5 =>
  cInt IntKind.i64 l5 fun n3 l6 =>
  cLs l6 fun xs1 l7 =>
  cBool l7 fun b l8 =>
  unNil l8 <|
  unEnd l4 <|
  askK D (Key.fn 42) [AV.ptr 0 0] [ABlk.mk [AV.ls xs, iv n3, AV.ls xs1, bv b] true false] fun r1 o1 =>
  unBool r1 fun b1 =>
  unOut o1 fun c1 l9 =>
  unSet true false c1 fun cs2 =>
  cLs cs2 fun xs2 l10 =>
  cInt IntKind.i64 l10 fun n4 l11 =>
  cLs l11 fun xs3 l12 =>
  cBool l12 fun b2 l13 =>
  unNil l13 <|
  unEnd l9 <|
  br b1
   (br b2
    (br b2 (br b2 (br b2 (br b2 (br b2 (br b2 (askK D (Key.fn 55) [AV.ls xs3, sv s] [] fun r2 o2 =>
    unBool r2 fun b3 =>
    unEnd o2 <|
    br b3
     (br b2 (br b2 (some ((AV.tup [sv s, iv 0], [BO.set (ABlk.mk [AV.ls xs2, iv (A.add IntKind.i64 n4 1), AV.ls xs3, bv b2] true false)]))) none) none)
     (br b2 (br b2 (some ((AV.tup [sv (bstr []), iv 110], [BO.set (ABlk.mk [AV.ls xs2, iv n4, AV.ls xs3, bv b2] true false)]))) none) none)) none) none) none) none) none) none)
    (br b2 none (br b2 none (br b2 none (br b2 none (br b2 none (br b2 none (br b2 none (br b2 none (some ((AV.tup [sv s, iv 0], [BO.set (ABlk.mk [AV.ls xs2, iv (A.add IntKind.i64 n4 1), AV.ls xs3, bv b2] true false)]))))))))))))
   (some ((AV.tup [sv (bstr []), iv 101], [BO.set (ABlk.mk [AV.ls xs2, iv n4, AV.ls xs3, bv b2] true false)]))) := by kernel_rfl

theorem e26 (A : Ar) (D : Orc) (p0_0 : List (List AV)) (p0_1 : Int) (p0_2 : List (List AV)) (p0_3 : Bool) (x1 : Bool) : fnK A D ownC hn26 .n 26 mf26 [AV.ptr 0 0, bv x1] [{ cells := [AV.ls p0_0, iv p0_1, AV.ls p0_2, bv p0_3], st := true, ex := false }] =
  askK D (Key.fn 16) [AV.ptr 0 0] [ABlk.mk [AV.ls p0_0, iv p0_1, AV.ls p0_2, bv p0_3] true false] fun r o =>
  unAgg r fun cs =>
  cInt IntKind.i64 cs fun n l =>
  cStr l fun s l1 =>
  cInt IntKind.i64 l1 fun _ l2 =>
  cInt IntKind.i64 l2 fun _ l3 =>
  unNil l3 <|
  unOut o fun c l4 =>
  unSet true false c fun cs1 =>
  cLs cs1 fun xs l5 =>
  cInt IntKind.i64 l5 fun n3 l6 =>
  cLs l6 fun xs1 l7 =>
  cBool l7 fun b l8 =>
  unNil l8 <|
  unEnd l4 <|
  br (A.eq n 3)
   (askK D (Key.fn 19) [AV.ptr 0 0, sv (bstr [42])] [ABlk.mk [AV.ls xs, iv (A.add IntKind.i64 n3 1), AV.ls xs1, bv b] true false] fun r1 o1 =>
   unBool r1 fun b1 =>
   unOut o1 fun c1 l9 =>
   unSet true false c1 fun cs2 =>
   cLs cs2 fun xs2 l10 =>
   cInt IntKind.i64 l10 fun n4 l11 =>
   cLs l11 fun xs3 l12 =>
   cBool l12 fun b2 l13 =>
   unNil l13 <|
   unEnd l9 <|
   br b1
    (askK D (Key.fn 43) [AV.ptr 0 0] [ABlk.mk [AV.ls xs2, iv n4, AV.ls xs3, bv b2] true false] fun r2 o2 =>
    unTup r2 fun cs3 =>
    cStr cs3 fun s1 l14 =>
    cInt IntKind.i64 l14 fun n5 l15 =>
    unNil l15 <|
    unOut o2 fun c2 l16 =>
    unSet true false c2 fun cs4 =>
    cLs cs4 fun xs4 l17 =>
    cInt IntKind.i64 l17 fun n6 l18 =>
    cLs l18 fun xs5 l19 =>
    cBool l19 fun b3 l20 =>
    unNil l20 <|
    unEnd l16 <|
    some ((AV.tup [AV.agg [bv x1, sv s, sv s1], iv n5], [BO.set (ABlk.mk [AV.ls xs4, iv n6, AV.ls xs5, bv b3] true false)])))
    (some ((AV.tup [AV.agg [bv x1, sv s, sv (bstr [])], iv 0], [BO.set (ABlk.mk [AV.ls xs2, iv n4, AV.ls xs3, bv b2] true false)]))))
   (askK D (Key.fn 43) [AV.ptr 0 0] [ABlk.mk [AV.ls xs, iv n3, AV.ls xs1, bv b] true false] fun r1 o1 =>
   unTup r1 fun cs2 =>
   cStr cs2 fun s1 l9 =>
   cInt IntKind.i64 l9 fun n4 l10 =>
   unNil l10 <|
   unOut o1 fun c1 l11 =>
   unSet true false c1 fun cs3 =>
   cLs cs3 fun xs2 l12 =>
   cInt IntKind.i64 l12 fun n5 l13 =>
   cLs l13 fun xs3 l14 =>
   cBool l14 fun b1 l15 =>
   unNil l15 <|
   unEnd l11 <|
   some ((AV.tup [AV.agg [bv x1, sv (bstr []), sv s1], iv n4], [BO.set (ABlk.mk [AV.ls xs2, iv n5, AV.ls xs3, bv b1] true false)]))) := by kernel_rfl

theorem e25 (A : Ar) (D : Orc) (p0_0 : List (List AV)) (p0_1 : Int) (p0_2 : List (List AV)) (p0_3 : Bool) : fnK A D ownC hn25 .n 25 mf25 [AV.ptr 0 0] [{ cells := [AV.ls p0_0, iv p0_1, AV.ls p0_2, bv p0_3], st := true, ex := false }] =
  askK D (Key.fn 16) [AV.ptr 0 0] [ABlk.mk [AV.ls p0_0, iv p0_1, AV.ls p0_2, bv p0_3] true false] fun r o =>
  unAgg r fun cs =>
  cInt IntKind.i64 cs fun n l =>
  cStr l fun _ l1 =>
  cInt IntKind.i64 l1 fun _ l2 =>
  cInt IntKind.i64 l2 fun _ l3 =>
  unNil l3 <|
  unOut o fun c l4 =>
  unSet true false c fun cs1 =>
  cLs cs1 fun xs l5 =>
  cInt IntKind.i64 l5 fun n3 l6 =>
  cLs l6 fun xs1 l7 =>
  cBool l7 fun b l8 =>
  unNil l8 <|
  unEnd l4 <|
  br (A.eq n 3)
   (some ((bv true, [BO.set (ABlk.mk [AV.ls xs, iv n3, AV.ls xs1, bv b] true false)])))
   (askK D (Key.fn 42) [AV.ptr 0 0] [ABlk.mk [AV.ls xs, iv n3, AV.ls xs1, bv b] true false] fun r1 o1 =>
   unBool r1 fun b1 =>
   unOut o1 fun c1 l9 =>
   unSet true false c1 fun cs2 =>
   cLs cs2 fun xs2 l10 =>
   cInt IntKind.i64 l10 fun n4 l11 =>
   cLs l11 fun xs3 l12 =>
   cBool l12 fun b2 l13 =>
   unNil l13 <|
   unEnd l9 <|
   br b1
    (some ((bv true, [BO.set (ABlk.mk [AV.ls xs2, iv n4, AV.ls xs3, bv b2] true false)])))
    (some ((bv false, [BO.set (ABlk.mk [AV.ls xs2, iv n4, AV.ls xs3, bv b2] true false)])))) := by kernel_rfl

theorem e7 (A : Ar) (D : Orc) (p0_0 : List (List AV)) (p0_1 : Int) (p0_2 : List (List AV)) (p0_3 : Bool) : fnK A D ownC hn7 .n 7 mf7 [AV.ptr 0 0] [{ cells := [AV.ls p0_0, iv p0_1, AV.ls p0_2, bv p0_3], st := true, ex := false }] =
  askK D (Key.fn 19) [AV.ptr 0 0, sv (bstr [45])] [ABlk.mk [AV.ls p0_0, iv p0_1, AV.ls p0_2, bv p0_3] true false] fun r o =>
  unBool r fun b =>
  unOut o fun c l =>
  unSet true false c fun cs =>
  cLs cs fun xs l1 =>
  cInt IntKind.i64 l1 fun n l2 =>
  cLs l2 fun xs1 l3 =>
  cBool l3 fun b1 l4 =>
  unNil l4 <|
  unEnd l <|
  br b
   (askK D (Key.lp 7 0) [AV.ptr 0 0, AV.sl 1 0 0 3, bv true] [ABlk.mk [AV.ls xs, iv n, AV.ls xs1, bv b1] true false, ABlk.mk [] true true] fun r1 o1 =>
   unTup r1 fun cs1 =>
   unCons cs1 fun c1 l5 =>
   br (axIs 0 c1)
    (unCons l5 fun c2 l6 =>
    unPtr 0 0 c2 <|
    cLs l6 fun xs2 l7 =>
    cInt IntKind.i64 l7 fun n1 l8 =>
    unNil l8 <|
    unOut o1 fun c3 l9 =>
    unSet true false c3 fun cs2 =>
    cLs cs2 fun xs3 l10 =>
    cInt IntKind.i64 l10 fun n2 l11 =>
    cLs l11 fun xs4 l12 =>
    cBool l12 fun b2 l13 =>
    unNil l13 <|
    unOut l9 fun c4 l14 =>
    unDel c4 <|
    unEnd l14 <|
    some ((AV.tup [AV.ls xs2, iv n1], [BO.set (ABlk.mk [AV.ls xs3, iv n2, AV.ls xs4, bv b2] true false)])))
    (none))
   (askK D (Key.lp 7 0) [AV.ptr 0 0, AV.sl 1 0 0 3, bv false] [ABlk.mk [AV.ls xs, iv n, AV.ls xs1, bv b1] true false, ABlk.mk [] true true] fun r1 o1 =>
   unTup r1 fun cs1 =>
   unCons cs1 fun c1 l5 =>
   br (axIs 0 c1)
    (unCons l5 fun c2 l6 =>
    unPtr 0 0 c2 <|
    cLs l6 fun xs2 l7 =>
    cInt IntKind.i64 l7 fun n1 l8 =>
    unNil l8 <|
    unOut o1 fun c3 l9 =>
    unSet true false c3 fun cs2 =>
    cLs cs2 fun xs3 l10 =>
    cInt IntKind.i64 l10 fun n2 l11 =>
    cLs l11 fun xs4 l12 =>
    cBool l12 fun b2 l13 =>
    unNil l13 <|
    unOut l9 fun c4 l14 =>
    unDel c4 <|
    unEnd l14 <|
    some ((AV.tup [AV.ls xs2, iv n1], [BO.set (ABlk.mk [AV.ls xs3, iv n2, AV.ls xs4, bv b2] true false)])))
    (none)) := by kernel_rfl

theorem e7_0 (A : Ar) (D : Orc) (b0_0 : List (List AV)) (b0_1 : Int) (b0_2 : List (List AV)) (b0_3 : Bool) (n4 : Nat) (c4 : List AV) (t5 : Bool) : lpK A D ownC hn7 .n 7 0 (lpAt mf7 0).fst (lpAt mf7 0).snd [AV.ptr 0 0, AV.sl 1 0 n4 3, bv t5] [{ cells := [AV.ls b0_0, iv b0_1, AV.ls b0_2, bv b0_3], st := true, ex := false }, { cells := c4, st := true, ex := true }] =
  br (A.eq (↑n4) 64)
   (askK D (Key.fn 25) [AV.ptr 0 0] [ABlk.mk [AV.ls b0_0, iv b0_1, AV.ls b0_2, bv b0_3] true false] fun r o =>
   unBool r fun b =>
   unOut o fun c l =>
   unSet true false c fun cs =>
   cLs cs fun xs l1 =>
   cInt IntKind.i64 l1 fun n l2 =>
   cLs l2 fun xs1 l3 =>
   cBool l3 fun b1 l4 =>
   unNil l4 <|
   unEnd l <|
   br b
    (some ((AV.tup [bv true, AV.ptr 0 0, AV.ls [], iv 3], [BO.set (ABlk.mk [AV.ls xs, iv n, AV.ls xs1, bv b1] true false), BO.del])))
    (askK D (Key.fn 26) [AV.ptr 0 0, bv t5] [ABlk.mk [AV.ls xs, iv n, AV.ls xs1, bv b1] true false] fun r1 o1 =>
    unTup r1 fun cs1 =>
    unCons cs1 fun c1 l5 =>
    unAgg c1 fun cs2 =>
    cBool cs2 fun b2 l6 =>
    cStr l6 fun s l7 =>
    cStr l7 fun s1 l8 =>
    unNil l8 <|
    cInt IntKind.i64 l5 fun n1 l9 =>
    unNil l9 <|
    unOut o1 fun c2 l10 =>
    unSet true false c2 fun cs3 =>
    cLs cs3 fun xs2 l11 =>
    cInt IntKind.i64 l11 fun n2 l12 =>
    cLs l12 fun xs3 l13 =>
    cBool l13 fun b3 l14 =>
    unNil l14 <|
    unEnd l10 <|
    br (A.eq n1 0)
     (br (fitsB (n4 + 1) 40) (br ((0 + n4 * 3).ble c4.length) (askK D (Key.fn 27) [AV.ptr 0 0, sv (bstr [45])] [ABlk.mk [AV.ls xs2, iv n2, AV.ls xs3, bv b3] true false] fun r2 o2 =>
       unBool r2 fun b4 =>
       unOut o2 fun c3 l15 =>
       unSet true false c3 fun cs4 =>
       cLs cs4 fun xs4 l16 =>
       cInt IntKind.i64 l16 fun n3 l17 =>
       cLs l17 fun xs5 l18 =>
       cBool l18 fun b5 l19 =>
       unNil l19 <|
       unEnd l15 <|
       br b4
        (askK D (Key.fn 19) [AV.ptr 0 0, sv (bstr [45])] [ABlk.mk [AV.ls xs4, iv n3, AV.ls xs5, bv b5] true false] fun r3 o3 =>
        unBool r3 fun b6 =>
        unOut o3 fun c5 l20 =>
        unSet true false c5 fun cs5 =>
        cLs cs5 fun xs6 l21 =>
        cInt IntKind.i64 l21 fun n5 l22 =>
        cLs l22 fun xs7 l23 =>
        cBool l23 fun b7 l24 =>
        unNil l24 <|
        unEnd l20 <|
        br b6
         (askK D (Key.lp 7 0) [AV.ptr 0 0, AV.sl 1 0 (n4 + 1) 3, bv true] [ABlk.mk [AV.ls xs6, iv n5, AV.ls xs7, bv b7] true false, ABlk.mk (List.drop 0 (List.take (0 + n4 * 3) c4) ++ [bv b2, sv s, sv s1]) true true] fun r4 o4 =>
         tailK 2 [0, 4] (AH.mk [(0, ABlk.mk [AV.ls xs6, iv n5, AV.ls xs7, bv b7] true false), (4, ABlk.mk (List.drop 0 (List.take (0 + n4 * 3) c4) ++ [bv b2, sv s, sv s1]) true true), (3, ABlk.mk [bv b2, sv s, sv s1] true true), (2, ABlk.mk [bv b2, sv s, sv s1] true false)] 5 none) [1, 0] r4 o4)
         (askK D (Key.fn 19) [AV.ptr 0 0, sv (bstr [43])] [ABlk.mk [AV.ls xs6, iv n5, AV.ls xs7, bv b7] true false] fun r4 o4 =>
         unBool r4 fun b8 =>
         unOut o4 fun c6 l25 =>
         unSet true false c6 fun cs6 =>
         cLs cs6 fun xs8 l26 =>
         cInt IntKind.i64 l26 fun n6 l27 =>
         cLs l27 fun xs9 l28 =>
         cBool l28 fun b9 l29 =>
         unNil l29 <|
         unEnd l25 <|
         br b8
          (askK D (Key.lp 7 0) [AV.ptr 0 0, AV.sl 1 0 (n4 + 1) 3, bv true] [ABlk.mk [AV.ls xs8, iv n6, AV.ls xs9, bv b9] true false, ABlk.mk (List.drop 0 (List.take (0 + n4 * 3) c4) ++ [bv b2, sv s, sv s1]) true true] fun r5 o5 =>
          tailK 2 [0, 4] (AH.mk [(0, ABlk.mk [AV.ls xs8, iv n6, AV.ls xs9, bv b9] true false), (4, ABlk.mk (List.drop 0 (List.take (0 + n4 * 3) c4) ++ [bv b2, sv s, sv s1]) true true), (3, ABlk.mk [bv b2, sv s, sv s1] true true), (2, ABlk.mk [bv b2, sv s, sv s1] true false)] 5 none) [1, 0] r5 o5)
          (br ((0 + (n4 + 1) * 3).ble (List.drop 0 (List.take (0 + n4 * 3) c4) ++ [bv b2, sv s, sv s1]).length) (some ((AV.tup [bv true, AV.ptr 0 0, AV.ls (chunk (n4 + 1) 3 (List.take ((n4 + 1) * 3) (List.drop 0 (List.drop 0 (List.take (0 + n4 * 3) c4) ++ [bv b2, sv s, sv s1])))), iv 0], [BO.set (ABlk.mk [AV.ls xs8, iv n6, AV.ls xs9, bv b9] true false), BO.del]))) none)))
        (askK D (Key.fn 19) [AV.ptr 0 0, sv (bstr [45])] [ABlk.mk [AV.ls xs4, iv n3, AV.ls xs5, bv b5] true false] fun r3 o3 =>
        unBool r3 fun b6 =>
        unOut o3 fun c5 l20 =>
        unSet true false c5 fun cs5 =>
        cLs cs5 fun xs6 l21 =>
        cInt IntKind.i64 l21 fun n5 l22 =>
        cLs l22 fun xs7 l23 =>
        cBool l23 fun b7 l24 =>
        unNil l24 <|
        unEnd l20 <|
        br b6
         (askK D (Key.lp 7 0) [AV.ptr 0 0, AV.sl 1 0 (n4 + 1) 3, bv false] [ABlk.mk [AV.ls xs6, iv n5, AV.ls xs7, bv b7] true false, ABlk.mk (List.drop 0 (List.take (0 + n4 * 3) c4) ++ [bv b2, sv s, sv s1]) true true] fun r4 o4 =>
         tailK 2 [0, 4] (AH.mk [(0, ABlk.mk [AV.ls xs6, iv n5, AV.ls xs7, bv b7] true false), (4, ABlk.mk (List.drop 0 (List.take (0 + n4 * 3) c4) ++ [bv b2, sv s, sv s1]) true true), (3, ABlk.mk [bv b2, sv s, sv s1] true true), (2, ABlk.mk [bv b2, sv s, sv s1] true false)] 5 none) [1, 0] r4 o4)
         (askK D (Key.fn 19) [AV.ptr 0 0, sv (bstr [43])] [ABlk.mk [AV.ls xs6, iv n5, AV.ls xs7, bv b7] true false] fun r4 o4 =>
         unBool r4 fun b8 =>
         unOut o4 fun c6 l25 =>
         unSet true false c6 fun cs6 =>
         cLs cs6 fun xs8 l26 =>
         cInt IntKind.i64 l26 fun n6 l27 =>
         cLs l27 fun xs9 l28 =>
         cBool l28 fun b9 l29 =>
         unNil l29 <|
         unEnd l25 <|
         br b8
          (askK D (Key.lp 7 0) [AV.ptr 0 0, AV.sl 1 0 (n4 + 1) 3, bv false] [ABlk.mk [AV.ls xs8, iv n6, AV.ls xs9, bv b9] true false, ABlk.mk (List.drop 0 (List.take (0 + n4 * 3) c4) ++ [bv b2, sv s, sv s1]) true true] fun r5 o5 =>
          tailK 2 [0, 4] (AH.mk [(0, ABlk.mk [AV.ls xs8, iv n6, AV.ls xs9, bv b9] true false), (4, ABlk.mk (List.drop 0 (List.take (0 + n4 * 3) c4) ++ [bv b2, sv s, sv s1]) true true), (3, ABlk.mk [bv b2, sv s, sv s1] true true), (2, ABlk.mk [bv b2, sv s, sv s1] true false)] 5 none) [1, 0] r5 o5)
          (br ((0 + (n4 + 1) * 3).ble (List.drop 0 (List.take (0 + n4 * 3) c4) ++ [bv b2, sv s, sv s1]).length) (some ((AV.tup [bv true, AV.ptr 0 0, AV.ls (chunk (n4 + 1) 3 (List.take ((n4 + 1) * 3) (List.drop 0 (List.drop 0 (List.take (0 + n4 * 3) c4) ++ [bv b2, sv s, sv s1])))), iv 0], [BO.set (ABlk.mk [AV.ls xs8, iv n6, AV.ls xs9, bv b9] true false), BO.del]))) none)))) none) none)
     (some ((AV.tup [bv true, AV.ptr 0 0, AV.ls [], iv n1], [BO.set (ABlk.mk [AV.ls xs2, iv n2, AV.ls xs3, bv b3] true false), BO.del])))))
   (askK D (Key.fn 26) [AV.ptr 0 0, bv t5] [ABlk.mk [AV.ls b0_0, iv b0_1, AV.ls b0_2, bv b0_3] true false] fun r o =>
   unTup r fun cs =>
   unCons cs fun c l =>
   unAgg c fun cs1 =>
   cBool cs1 fun b l1 =>
   cStr l1 fun s l2 =>
   cStr l2 fun s1 l3 =>
   unNil l3 <|
   cInt IntKind.i64 l fun n l4 =>
   unNil l4 <|
   unOut o fun c1 l5 =>
   unSet true false c1 fun cs2 =>
   cLs cs2 fun xs l6 =>
   cInt IntKind.i64 l6 fun n1 l7 =>
   cLs l7 fun xs1 l8 =>
   cBool l8 fun b1 l9 =>
   unNil l9 <|
   unEnd l5 <|
   br (A.eq n 0)
    (br (fitsB (n4 + 1) 40) (br ((0 + n4 * 3).ble c4.length) (askK D (Key.fn 27) [AV.ptr 0 0, sv (bstr [45])] [ABlk.mk [AV.ls xs, iv n1, AV.ls xs1, bv b1] true false] fun r1 o1 =>
      unBool r1 fun b2 =>
      unOut o1 fun c2 l10 =>
      unSet true false c2 fun cs3 =>
      cLs cs3 fun xs2 l11 =>
      cInt IntKind.i64 l11 fun n2 l12 =>
      cLs l12 fun xs3 l13 =>
      cBool l13 fun b3 l14 =>
      unNil l14 <|
      unEnd l10 <|
      br b2
       (askK D (Key.fn 19) [AV.ptr 0 0, sv (bstr [45])] [ABlk.mk [AV.ls xs2, iv n2, AV.ls xs3, bv b3] true false] fun r2 o2 =>
       unBool r2 fun b4 =>
       unOut o2 fun c3 l15 =>
       unSet true false c3 fun cs4 =>
       cLs cs4 fun xs4 l16 =>
       cInt IntKind.i64 l16 fun n3 l17 =>
       cLs l17 fun xs5 l18 =>
       cBool l18 fun b5 l19 =>
       unNil l19 <|
       unEnd l15 <|
       br b4
        (askK D (Key.lp 7 0) [AV.ptr 0 0, AV.sl 1 0 (n4 + 1) 3, bv true] [ABlk.mk [AV.ls xs4, iv n3, AV.ls xs5, bv b5] true false, ABlk.mk (List.drop 0 (List.take (0 + n4 * 3) c4) ++ [bv b, sv s, sv s1]) true true] fun r3 o3 =>
        tailK 2 [0, 4] (AH.mk [(0, ABlk.mk [AV.ls xs4, iv n3, AV.ls xs5, bv b5] true false), (4, ABlk.mk (List.drop 0 (List.take (0 + n4 * 3) c4) ++ [bv b, sv s, sv s1]) true true), (3, ABlk.mk [bv b, sv s, sv s1] true true), (2, ABlk.mk [bv b, sv s, sv s1] true false)] 5 none) [1, 0] r3 o3)
        (askK D (Key.fn 19) [AV.ptr 0 0, sv (bstr [43])] [ABlk.mk [AV.ls xs4, iv n3, AV.ls xs5, bv b5] true false] fun r3 o3 =>
        unBool r3 fun b6 =>
        unOut o3 fun c5 l20 =>
        unSet true false c5 fun cs5 =>
        cLs cs5 fun xs6 l21 =>
        cInt IntKind.i64 l21 fun n5 l22 =>
        cLs l22 fun xs7 l23 =>
        cBool l23 fun b7 l24 =>
        unNil l24 <|
        unEnd l20 <|
        br b6
         (askK D (Key.lp 7 0) [AV.ptr 0 0, AV.sl 1 0 (n4 + 1) 3, bv true] [ABlk.mk [AV.ls xs6, iv n5, AV.ls xs7, bv b7] true false, ABlk.mk (List.drop 0 (List.take (0 + n4 * 3) c4) ++ [bv b, sv s, sv s1]) true true] fun r4 o4 =>
         tailK 2 [0, 4] (AH.mk [(0, ABlk.mk [AV.ls xs6, iv n5, AV.ls xs7, bv b7] true false), (4, ABlk.mk (List.drop 0 (List.take (0 + n4 * 3) c4) ++ [bv b, sv s, sv s1]) true true), (3, ABlk.mk [bv b, sv s, sv s1] true true), (2, ABlk.mk [bv b, sv s, sv s1] true false)] 5 none) [1, 0] r4 o4)
         (br ((0 + (n4 + 1) * 3).ble (List.drop 0 (List.take (0 + n4 * 3) c4) ++ [bv b, sv s, sv s1]).length) (some ((AV.tup [bv true, AV.ptr 0 0, AV.ls (chunk (n4 + 1) 3 (List.take ((n4 + 1) * 3) (List.drop 0 (List.drop 0 (List.take (0 + n4 * 3) c4) ++ [bv b, sv s, sv s1])))), iv 0], [BO.set (ABlk.mk [AV.ls xs6, iv n5, AV.ls xs7, bv b7] true false), BO.del]))) none)))
       (askK D (Key.fn 19) [AV.ptr 0 0, sv (bstr [45])] [ABlk.mk [AV.ls xs2, iv n2, AV.ls xs3, bv b3] true false] fun r2 o2 =>
       unBool r2 fun b4 =>
       unOut o2 fun c3 l15 =>
       unSet true false c3 fun cs4 =>
       cLs cs4 fun xs4 l16 =>
       cInt IntKind.i64 l16 fun n3 l17 =>
       cLs l17 fun xs5 l18 =>
       cBool l18 fun b5 l19 =>
       unNil l19 <|
       unEnd l15 <|
       br b4
        (askK D (Key.lp 7 0) [AV.ptr 0 0, AV.sl 1 0 (n4 + 1) 3, bv false] [ABlk.mk [AV.ls xs4, iv n3, AV.ls xs5, bv b5] true false, ABlk.mk (List.drop 0 (List.take (0 + n4 * 3) c4) ++ [bv b, sv s, sv s1]) true true] fun r3 o3 =>
        tailK 2 [0, 4] (AH.mk [(0, ABlk.mk [AV.ls xs4, iv n3, AV.ls xs5, bv b5] true false), (4, ABlk.mk (List.drop 0 (List.take (0 + n4 * 3) c4) ++ [bv b, sv s, sv s1]) true true), (3, ABlk.mk [bv b, sv s, sv s1] true true), (2, ABlk.mk [bv b, sv s, sv s1] true false)] 5 none) [1, 0] r3 o3)
        (askK D (Key.fn 19) [AV.ptr 0 0, sv (bstr [43])] [ABlk.mk [AV.ls xs4, iv n3, AV.ls xs5, bv b5] true false] fun r3 o3 =>
        unBool r3 fun b6 =>
        unOut o3 fun c5 l20 =>
        unSet true false c5 fun cs5 =>
        cLs cs5 fun xs6 l21 =>
        cInt IntKind.i64 l21 fun n5 l22 =>
        cLs l22 fun xs7 l23 =>
        cBool l23 fun b7 l24 =>
        unNil l24 <|
        unEnd l20 <|
        br b6
         (askK D (Key.lp 7 0) [AV.ptr 0 0, AV.sl 1 0 (n4 + 1) 3, bv false] [ABlk.mk [AV.ls xs6, iv n5, AV.ls xs7, bv b7] true false, ABlk.mk (List.drop 0 (List.take (0 + n4 * 3) c4) ++ [bv b, sv s, sv s1]) true true] fun r4 o4 =>
         tailK 2 [0, 4] (AH.mk [(0, ABlk.mk [AV.ls xs6, iv n5, AV.ls xs7, bv b7] true false), (4, ABlk.mk (List.drop 0 (List.take (0 + n4 * 3) c4) ++ [bv b, sv s, sv s1]) true true), (3, ABlk.mk [bv b, sv s, sv s1] true true), (2, ABlk.mk [bv b, sv s, sv s1] true false)] 5 none) [1, 0] r4 o4)
         (br ((0 + (n4 + 1) * 3).ble (List.drop 0 (List.take (0 + n4 * 3) c4) ++ [bv b, sv s, sv s1]).length) (some ((AV.tup [bv true, AV.ptr 0 0, AV.ls (chunk (n4 + 1) 3 (List.take ((n4 + 1) * 3) (List.drop 0 (List.drop 0 (List.take (0 + n4 * 3) c4) ++ [bv b, sv s, sv s1])))), iv 0], [BO.set (ABlk.mk [AV.ls xs6, iv n5, AV.ls xs7, bv b7] true false), BO.del]))) none)))) none) none)
    (some ((AV.tup [bv true, AV.ptr 0 0, AV.ls [], iv n], [BO.set (ABlk.mk [AV.ls xs, iv n1, AV.ls xs1, bv b1] true false), BO.del])))) := by kernel_rfl

theorem e68 (A : Ar) (D : Orc) : fnK A D ownC hn68 .n 68 mf68 [] [] =
  some ((AV.ls [[sv (bstr [61])], [sv (bstr [33, 61])], [sv (bstr [60])], [sv (bstr [60, 61])], [sv (bstr [62])], [sv (bstr [62, 61])]], [])) := by kernel_rfl

theorem e63 (A : Ar) (D : Orc) (x0 : List (List AV)) (x1 : ByteArray) : fnK A D ownC hn63 .n 63 mf63 [AV.ls x0, sv x1] [] =
  askK D (Key.lp 63 0) [AV.ls x0, sv x1, iv ↑(lenR x0), iv 0] [] fun r o =>
  unTup r fun cs =>
  unCons cs fun c l =>
  br (axIs 0 c)
   (cInt IntKind.i64 l fun n l1 =>
   unNil l1 <|
   unEnd o <|
   some ((iv n, [])))
   (br (axIs 1 c)
    (unNil l <|
    unEnd o <|
    some ((iv (-1), [])))
    (none)) := by kernel_rfl

theorem e63_0 (A : Ar) (D : Orc) (t0 : List (List AV)) (t1 : ByteArray) (t7 : Int) (t8 : Int) : lpK A D ownC hn63 .n 63 0 (lpAt mf63 0).fst (lpAt mf63 0).snd [AV.ls t0, sv t1, iv t7, iv t8] [] =
  br (A.lt t8 t7)
   (unI t8 fun i =>
   nthK t0 i fun cs =>
   cStr cs fun s l =>
   unNil l <|
   br (A.seq t1 s)
    (some ((AV.tup [bv true, iv t8], [])))
    (askK D (Key.lp 63 0) [AV.ls t0, sv t1, iv t7, iv (A.add IntKind.i64 t8 1)] [] fun r o =>
    tailK 0 [] (AH.mk [] 0 none) [] r o))
   (some ((AV.tup [iv 0], []))) := by kernel_rfl

theorem e55 (A : Ar) (D : Orc) (x0 : List (List AV)) (x1 : ByteArray) : fnK A D ownC hn55 .n 55 mf55 [AV.ls x0, sv x1] [] =
  askK D (Key.fn 63) [AV.ls x0, sv x1] [] fun r o =>
  unInt IntKind.i64 r fun n =>
  unEnd o <|
  br (A.le 0 n)
   (some ((bv true, [])))
   (some ((bv false, []))) := by kernel_rfl
end Go.Proofs.Ytlmhajfbpplpoaa
namespace Go.Proofs.Ytlmhajfbpplpoaa
open Go.RowKit
/- slices.IndexFunc[[]string,string] -/
def hs67 : Hints := [⟨19, [true, true, false, false, false, false, false, true, true], [], [], [(0, ([false, false, false, false, true], ([], []))), (1, ([], ([], [])))]⟩]
noncomputable def mf67 : MFn := mfD Try.prog entsC hs67 false true 67
def hn67 : Hnt := ⟨[(19, (.bool, [.box [.ls, .int .i64, .ls, .bool]]))], [(0, [(0, ([.int .i64], [.box [.ls, .int .i64, .ls, .bool]])), (1, ([], [.box [.ls, .int .i64, .ls, .bool]]))])], [(14, [.str]), (15, [.str])]⟩
/- (*plumbline/expr.Cursor).row -/
def hs46 : Hints := [⟨46, [true, true, true, true, true, false, false, false, false, false, true, false, true, true], [], [10, 12], [(1, ([true, false, false, false, false, false, false, false, false, false, true, false, true, true], ([], [])))]⟩]
noncomputable def mf46 : MFn := mfD Try.prog entsC hs46 false true 46
def hn46 : Hnt := ⟨[(19, (.bool, [.box [.ls, .int .i64, .ls, .bool]])), (47, (.tup [.agg [.int .i64, .ls, .ls, .int .i64, .str, .str, .ls], .int .i64], [.box [.ls, .int .i64, .ls, .bool]])), (57, (.tup [.agg [.int .i64, .ls, .ls, .int .i64, .str, .str, .ls], .int .i64], [.box [.ls, .int .i64, .ls, .bool]]))], [(0, [(1, ([.ptr 0 0, .ptr 1 0, .ptr 2 0, .int .i64], [.box [.ls, .int .i64, .ls, .bool], .box [.int .i64, .ls, .ls, .int .i64, .str, .str, .ls], .box [.int .i64, .ls, .ls, .int .i64, .str, .str, .ls]]))])], [(37, [.int .i64, .ls, .ls, .int .i64, .str, .str, .ls]), (38, [.int .i64, .ls, .ls, .int .i64, .str, .str, .ls]), (45, [.int .i64, .ls, .ls, .int .i64, .str, .str, .ls])]⟩
/- (*plumbline/expr.Cursor).Compare -/
def hs64 : Hints := []
noncomputable def mf64 : MFn := mfD Try.prog entsC hs64 false true 64
def hn64 : Hnt := ⟨[(7, (.tup [.ls, .int .i64], [.box [.ls, .int .i64, .ls, .bool]])), (67, (.int .i64, [.box [.ls, .int .i64, .ls, .bool]])), (68, (.ls, []))], [], []⟩
/- (*plumbline/expr.Cursor).one -/
def hs57 : Hints := []
noncomputable def mf57 : MFn := mfD Try.prog entsC hs57 false true 57
def hn57 : Hnt := ⟨[(17, (.int .i64, [.box [.ls, .int .i64, .ls, .bool]])), (19, (.bool, [.box [.ls, .int .i64, .ls, .bool]])), (27, (.bool, [.box [.ls, .int .i64, .ls, .bool]])), (31, (.tup [.agg [.int .i64, .ls, .ls, .int .i64, .str, .str, .ls], .int .i64], [.box [.ls, .int .i64, .ls, .bool]])), (57, (.tup [.agg [.int .i64, .ls, .ls, .int .i64, .str, .str, .ls], .int .i64], [.box [.ls, .int .i64, .ls, .bool]])), (64, (.tup [.agg [.int .i64, .ls, .ls, .int .i64, .str, .str, .ls], .int .i64], [.box [.ls, .int .i64, .ls, .bool]]))], [], [(46, [.int .i64, .ls, .ls, .int .i64, .str, .str, .ls]), (67, [.int .i64, .ls, .ls, .int .i64, .str, .str, .ls])]⟩
/- (*plumbline/expr.Cursor).both -/
def hs47 : Hints := []
noncomputable def mf47 : MFn := mfD Try.prog entsC hs47 false true 47
def hn47 : Hnt := ⟨[(46, (.tup [.agg [.int .i64, .ls, .ls, .int .i64, .str, .str, .ls], .int .i64], [.box [.ls, .int .i64, .ls, .bool]]))], [], []⟩
/- (*plumbline/expr.Cursor).cond -/
def hs31 : Hints := []
noncomputable def mf31 : MFn := mfD Try.prog entsC hs31 false true 31
def hn31 : Hnt := ⟨[(46, (.tup [.agg [.int .i64, .ls, .ls, .int .i64, .str, .str, .ls], .int .i64], [.box [.ls, .int .i64, .ls, .bool]]))], [], []⟩
/- (*plumbline/expr.Cursor).Cond -/
def hs9 : Hints := []
noncomputable def mf9 : MFn := mfD Try.prog entsC hs9 false true 9
def hn9 : Hnt := ⟨[(31, (.tup [.agg [.int .i64, .ls, .ls, .int .i64, .str, .str, .ls], .int .i64], [.box [.ls, .int .i64, .ls, .bool]]))], [], []⟩
noncomputable def tabEb : List (Nat × MFn) := [(67, mf67), (46, mf46), (64, mf64), (57, mf57), (47, mf47), (31, mf31), (9, mf9)]
theorem e67 (A : Ar) (D : Orc) (x0 : List (List AV)) (p_0 : List (List AV)) (p_1 : Int) (p_2 : List (List AV)) (p_3 : Bool) : fnK A D ownC hn67 .n 67 mf67 [AV.ls x0, AV.fn (Fn.func 19) [AV.ptr 0 0] []] [{ cells := [AV.ls p_0, iv p_1, AV.ls p_2, bv p_3], st := true, ex := false }] =
  askK D (Key.lp 67 0) [AV.ls x0, AV.fn (Fn.func 19) [AV.ptr 0 0] [], iv ↑(lenR x0), iv 0] [ABlk.mk [AV.ls p_0, iv p_1, AV.ls p_2, bv p_3] true false] fun r o =>
  unTup r fun cs =>
  unCons cs fun c l =>
  br (axIs 0 c)
   (cInt IntKind.i64 l fun n l1 =>
   unNil l1 <|
   unOut o fun c1 l2 =>
   unSet true false c1 fun cs1 =>
   cLs cs1 fun xs l3 =>
   cInt IntKind.i64 l3 fun n1 l4 =>
   cLs l4 fun xs1 l5 =>
   cBool l5 fun b l6 =>
   unNil l6 <|
   unEnd l2 <|
   some ((iv n, [BO.set (ABlk.mk [AV.ls xs, iv n1, AV.ls xs1, bv b] true false)])))
   (br (axIs 1 c)
    (unNil l <|
    unOut o fun c1 l1 =>
    unSet true false c1 fun cs1 =>
    cLs cs1 fun xs l2 =>
    cInt IntKind.i64 l2 fun n l3 =>
    cLs l3 fun xs1 l4 =>
    cBool l4 fun b l5 =>
    unNil l5 <|
    unEnd l1 <|
    some ((iv (-1), [BO.set (ABlk.mk [AV.ls xs, iv n, AV.ls xs1, bv b] true false)])))
    (none)) := by kernel_rfl

theorem e67_0 (A : Ar) (D : Orc) (x0 : List (List AV)) (p_0 : List (List AV)) (p_1 : Int) (p_2 : List (List AV)) (p_3 : Bool) (t7 : Int) (t8 : Int) : lpK A D ownC hn67 .n 67 0 (lpAt mf67 0).fst (lpAt mf67 0).snd [AV.ls x0, AV.fn (Fn.func 19) [AV.ptr 0 0] [], iv t7, iv t8] [{ cells := [AV.ls p_0, iv p_1, AV.ls p_2, bv p_3], st := true, ex := false }] =
  br (A.lt t8 t7)
   (unI t8 fun i =>
   nthK x0 i fun cs =>
   cStr cs fun s l =>
   unNil l <|
   askK D (Key.fn 19) [AV.ptr 0 0, sv s] [ABlk.mk [AV.ls p_0, iv p_1, AV.ls p_2, bv p_3] true false] fun r o =>
   unBool r fun b =>
   unOut o fun c l1 =>
   unSet true false c fun cs1 =>
   cLs cs1 fun xs l2 =>
   cInt IntKind.i64 l2 fun n l3 =>
   cLs l3 fun xs1 l4 =>
   cBool l4 fun b1 l5 =>
   unNil l5 <|
   unEnd l1 <|
   br b
    (some ((AV.tup [bv true, iv t8], [BO.set (ABlk.mk [AV.ls xs, iv n, AV.ls xs1, bv b1] true false)])))
    (askK D (Key.lp 67 0) [AV.ls x0, AV.fn (Fn.func 19) [AV.ptr 0 0] [], iv t7, iv (A.add IntKind.i64 t8 1)] [ABlk.mk [AV.ls xs, iv n, AV.ls xs1, bv b1] true false] fun r1 o1 =>
    tailK 1 [0] (AH.mk [(0, ABlk.mk [AV.ls xs, iv n, AV.ls xs1, bv b1] true false)] 1 none) [0] r1 o1))
   (some ((AV.tup [iv 0], [BO.keep]))) := by kernel_rfl

theorem e46a (A : Ar) (D : Orc) (p0_0 : List (List AV)) (p0_1 : Int) (p0_2 : List (List AV)) (p0_3 : Bool) (x1 : ByteArray) (x2 : Int) (x3 : Int) : fnK A D ownC hn46 .n 46 mf46 [AV.ptr 0 0, sv x1, iv x2, iv x3, AV.fn (Fn.func 57) [AV.ptr 0 0] []] [{ cells := [AV.ls p0_0, iv p0_1, AV.ls p0_2, bv p0_3], st := true, ex := false }] =
  askK D (Key.fn 57) [AV.ptr 0 0, iv x3] [ABlk.mk [AV.ls p0_0, iv p0_1, AV.ls p0_2, bv p0_3] true false] fun r o =>
  unTup r fun cs =>
  unCons cs fun c l =>
  unAgg c fun cs1 =>
  cInt IntKind.i64 cs1 fun n l1 =>
  cLs l1 fun xs l2 =>
  cLs l2 fun xs1 l3 =>
  cInt IntKind.i64 l3 fun n1 l4 =>
  cStr l4 fun s l5 =>
  cStr l5 fun s1 l6 =>
  cLs l6 fun xs2 l7 =>
  unNil l7 <|
  cInt IntKind.i64 l fun n2 l8 =>
  unNil l8 <|
  unOut o fun c1 l9 =>
  unSet true false c1 fun cs2 =>
  cLs cs2 fun xs3 l10 =>
  cInt IntKind.i64 l10 fun n3 l11 =>
  cLs l11 fun xs4 l12 =>
  cBool l12 fun b l13 =>
  unNil l13 <|
  unEnd l9 <|
  askK D (Key.lp 46 0) [AV.ptr 0 0, sv x1, iv x2, iv x3, AV.fn (Fn.func 57) [AV.ptr 0 0] [], AV.ptr 1 0, AV.ptr 2 0, iv n2] [ABlk.mk [AV.ls xs3, iv n3, AV.ls xs4, bv b] true false, ABlk.mk [iv 0, AV.ls [], AV.ls [], iv 0, sv (bstr []), sv (bstr []), AV.ls []] true false, ABlk.mk [iv n, AV.ls xs, AV.ls xs1, iv n1, sv s, sv s1, AV.ls xs2] true false] fun r1 o1 =>
  unTup r1 fun cs3 =>
  unCons cs3 fun c2 l14 =>
  br (axIs 1 c2)
   (unCons l14 fun c3 l15 =>
   unPtr 0 0 c3 <|
   unCons l15 fun c4 l16 =>
   unPtr 1 0 c4 <|
   unCons l16 fun c5 l17 =>
   unPtr 2 0 c5 <|
   cInt IntKind.i64 l17 fun n4 l18 =>
   unNil l18 <|
   unOut o1 fun c6 l19 =>
   unSet true false c6 fun cs4 =>
   cLs cs4 fun xs5 l20 =>
   cInt IntKind.i64 l20 fun n5 l21 =>
   cLs l21 fun xs6 l22 =>
   cBool l22 fun b1 l23 =>
   unNil l23 <|
   unOut l19 fun c7 l24 =>
   unSet true false c7 fun cs5 =>
   cInt IntKind.i64 cs5 fun _ l25 =>
   cLs l25 fun _ l26 =>
   cLs l26 fun _ l27 =>
   cInt IntKind.i64 l27 fun _ l28 =>
   cStr l28 fun _ l29 =>
   cStr l29 fun _ l30 =>
   cLs l30 fun _ l31 =>
   unNil l31 <|
   unOut l24 fun c8 l32 =>
   unSet true false c8 fun cs6 =>
   cInt IntKind.i64 cs6 fun n8 l33 =>
   cLs l33 fun xs10 l34 =>
   cLs l34 fun xs11 l35 =>
   cInt IntKind.i64 l35 fun n9 l36 =>
   cStr l36 fun s4 l37 =>
   cStr l37 fun s5 l38 =>
   cLs l38 fun xs12 l39 =>
   unNil l39 <|
   unEnd l32 <|
   br (A.eq n4 0)
    (some ((AV.tup [AV.agg [iv n8, AV.ls xs10, AV.ls xs11, iv n9, sv s4, sv s5, AV.ls xs12], iv 0], [BO.set (ABlk.mk [AV.ls xs5, iv n5, AV.ls xs6, bv b1] true false)])))
    (some ((AV.tup [AV.agg [iv 0, AV.ls [], AV.ls [], iv 0, sv (bstr []), sv (bstr []), AV.ls []], iv n4], [BO.set (ABlk.mk [AV.ls xs5, iv n5, AV.ls xs6, bv b1] true false)]))))
   (none) := by kernel_rfl

theorem e46a_0 (A : Ar) (D : Orc) (b0_0 : List (List AV)) (b0_1 : Int) (b0_2 : List (List AV)) (b0_3 : Bool) (t1 : ByteArray) (t2 : Int) (t3 : Int) (b10_0 : Int) (b10_1 : List (List AV)) (b10_2 : List (List AV)) (b10_3 : Int) (b10_4 : ByteArray) (b10_5 : ByteArray) (b10_6 : List (List AV)) (b12_0 : Int) (b12_1 : List (List AV)) (b12_2 : List (List AV)) (b12_3 : Int) (b12_4 : ByteArray) (b12_5 : ByteArray) (b12_6 : List (List AV)) (t13 : Int) : lpK A D ownC hn46 .n 46 0 (lpAt mf46 0).fst (lpAt mf46 0).snd [AV.ptr 0 0, sv t1, iv t2, iv t3, AV.fn (Fn.func 57) [AV.ptr 0 0] [], AV.ptr 1 0, AV.ptr 2 0, iv t13] [{ cells := [AV.ls b0_0, iv b0_1, AV.ls b0_2, bv b0_3], st := true, ex := false }, { cells := [iv b10_0, AV.ls b10_1, AV.ls b10_2, iv b10_3, sv b10_4, sv b10_5, AV.ls b10_6], st := true, ex := false }, { cells := [iv b12_0, AV.ls b12_1, AV.ls b12_2, iv b12_3, sv b12_4, sv b12_5, AV.ls b12_6], st := true, ex := false }] =
  br (A.eq t13 0)
   (askK D (Key.fn 19) [AV.ptr 0 0, sv t1] [ABlk.mk [AV.ls b0_0, iv b0_1, AV.ls b0_2, bv b0_3] true false] fun r o =>
   unBool r fun b =>
   unOut o fun c l =>
   unSet true false c fun cs =>
   cLs cs fun xs l1 =>
   cInt IntKind.i64 l1 fun n l2 =>
   cLs l2 fun xs1 l3 =>
   cBool l3 fun b1 l4 =>
   unNil l4 <|
   unEnd l <|
   br b
    (askK D (Key.fn 57) [AV.ptr 0 0, iv t3] [ABlk.mk [AV.ls xs, iv n, AV.ls xs1, bv b1] true false] fun r1 o1 =>
    unTup r1 fun cs1 =>
    unCons cs1 fun c1 l5 =>
    unAgg c1 fun cs2 =>
    cInt IntKind.i64 cs2 fun n1 l6 =>
    cLs l6 fun xs2 l7 =>
    cLs l7 fun xs3 l8 =>
    cInt IntKind.i64 l8 fun n2 l9 =>
    cStr l9 fun s l10 =>
    cStr l10 fun s1 l11 =>
    cLs l11 fun xs4 l12 =>
    unNil l12 <|
    cInt IntKind.i64 l5 fun n3 l13 =>
    unNil l13 <|
    unOut o1 fun c2 l14 =>
    unSet true false c2 fun cs3 =>
    cLs cs3 fun xs5 l15 =>
    cInt IntKind.i64 l15 fun n4 l16 =>
    cLs l16 fun xs6 l17 =>
    cBool l17 fun b2 l18 =>
    unNil l18 <|
    unEnd l14 <|
    br (A.eq n3 0)
     (askK D (Key.lp 46 0) [AV.ptr 0 0, sv t1, iv t2, iv t3, AV.fn (Fn.func 57) [AV.ptr 0 0] [], AV.ptr 1 0, AV.ptr 2 0, iv n3] [ABlk.mk [AV.ls xs5, iv n4, AV.ls xs6, bv b2] true false, ABlk.mk [iv b10_0, AV.ls b10_1, AV.ls b10_2, iv b10_3, sv b10_4, sv b10_5, AV.ls b10_6] true false, ABlk.mk [iv t2, AV.ls [], AV.ls [], iv 0, sv (bstr []), sv (bstr []), AV.ls [[iv b12_0, AV.ls b12_1, AV.ls b12_2, iv b12_3, sv b12_4, sv b12_5, AV.ls b12_6], [iv n1, AV.ls xs2, AV.ls xs3, iv n2, sv s, sv s1, AV.ls xs4]]] true false] fun r2 o2 =>
     tailK 3 [0, 1, 2] (AH.mk [(2, ABlk.mk [iv t2, AV.ls [], AV.ls [], iv 0, sv (bstr []), sv (bstr []), AV.ls [[iv b12_0, AV.ls b12_1, AV.ls b12_2, iv b12_3, sv b12_4, sv b12_5, AV.ls b12_6], [iv n1, AV.ls xs2, AV.ls xs3, iv n2, sv s, sv s1, AV.ls xs4]]] true false), (4, ABlk.mk [iv b12_0, AV.ls b12_1, AV.ls b12_2, iv b12_3, sv b12_4, sv b12_5, AV.ls b12_6, iv n1, AV.ls xs2, AV.ls xs3, iv n2, sv s, sv s1, AV.ls xs4] false true), (1, ABlk.mk [iv b10_0, AV.ls b10_1, AV.ls b10_2, iv b10_3, sv b10_4, sv b10_5, AV.ls b10_6] true false), (3, ABlk.mk [iv n1, AV.ls xs2, AV.ls xs3, iv n2, sv s, sv s1, AV.ls xs4] true false), (0, ABlk.mk [AV.ls xs5, iv n4, AV.ls xs6, bv b2] true false)] 5 none) [0, 1, 2] r2 o2)
     (askK D (Key.lp 46 0) [AV.ptr 0 0, sv t1, iv t2, iv t3, AV.fn (Fn.func 57) [AV.ptr 0 0] [], AV.ptr 1 0, AV.ptr 2 0, iv n3] [ABlk.mk [AV.ls xs5, iv n4, AV.ls xs6, bv b2] true false, ABlk.mk [iv b10_0, AV.ls b10_1, AV.ls b10_2, iv b10_3, sv b10_4, sv b10_5, AV.ls b10_6] true false, ABlk.mk [iv b12_0, AV.ls b12_1, AV.ls b12_2, iv b12_3, sv b12_4, sv b12_5, AV.ls b12_6] true false] fun r2 o2 =>
     tailK 3 [0, 1, 2] (AH.mk [(2, ABlk.mk [iv b12_0, AV.ls b12_1, AV.ls b12_2, iv b12_3, sv b12_4, sv b12_5, AV.ls b12_6] true false), (1, ABlk.mk [iv b10_0, AV.ls b10_1, AV.ls b10_2, iv b10_3, sv b10_4, sv b10_5, AV.ls b10_6] true false), (3, ABlk.mk [iv n1, AV.ls xs2, AV.ls xs3, iv n2, sv s, sv s1, AV.ls xs4] true false), (0, ABlk.mk [AV.ls xs5, iv n4, AV.ls xs6, bv b2] true false)] 4 none) [0, 1, 2] r2 o2))
    (some ((AV.tup [iv 0, AV.ptr 0 0, AV.ptr 1 0, AV.ptr 2 0, iv t13], [BO.set (ABlk.mk [AV.ls xs, iv n, AV.ls xs1, bv b1] true false), BO.set (ABlk.mk [iv b10_0, AV.ls b10_1, AV.ls b10_2, iv b10_3, sv b10_4, sv b10_5, AV.ls b10_6] true false), BO.set (ABlk.mk [iv b12_0, AV.ls b12_1, AV.ls b12_2, iv b12_3, sv b12_4, sv b12_5, AV.ls b12_6] true false)]))))
   (some ((AV.tup [iv 0, AV.ptr 0 0, AV.ptr 1 0, AV.ptr 2 0, iv t13], [BO.set (ABlk.mk [AV.ls b0_0, iv b0_1, AV.ls b0_2, bv b0_3] true false), BO.set (ABlk.mk [iv b10_0, AV.ls b10_1, AV.ls b10_2, iv b10_3, sv b10_4, sv b10_5, AV.ls b10_6] true false), BO.set (ABlk.mk [iv b12_0, AV.ls b12_1, AV.ls b12_2, iv b12_3, sv b12_4, sv b12_5, AV.ls b12_6] true false)]))) := by kernel_rfl

theorem e46b (A : Ar) (D : Orc) (p0_0 : List (List AV)) (p0_1 : Int) (p0_2 : List (List AV)) (p0_3 : Bool) (x1 : ByteArray) (x2 : Int) (x3 : Int) : fnK A D ownC hn46 .n 46 mf46 [AV.ptr 0 0, sv x1, iv x2, iv x3, AV.fn (Fn.func 47) [AV.ptr 0 0] []] [{ cells := [AV.ls p0_0, iv p0_1, AV.ls p0_2, bv p0_3], st := true, ex := false }] =
  askK D (Key.fn 47) [AV.ptr 0 0, iv x3] [ABlk.mk [AV.ls p0_0, iv p0_1, AV.ls p0_2, bv p0_3] true false] fun r o =>
  unTup r fun cs =>
  unCons cs fun c l =>
  unAgg c fun cs1 =>
  cInt IntKind.i64 cs1 fun n l1 =>
  cLs l1 fun xs l2 =>
  cLs l2 fun xs1 l3 =>
  cInt IntKind.i64 l3 fun n1 l4 =>
  cStr l4 fun s l5 =>
  cStr l5 fun s1 l6 =>
  cLs l6 fun xs2 l7 =>
  unNil l7 <|
  cInt IntKind.i64 l fun n2 l8 =>
  unNil l8 <|
  unOut o fun c1 l9 =>
  unSet true false c1 fun cs2 =>
  cLs cs2 fun xs3 l10 =>
  cInt IntKind.i64 l10 fun n3 l11 =>
  cLs l11 fun xs4 l12 =>
  cBool l12 fun b l13 =>
  unNil l13 <|
  unEnd l9 <|
  askK D (Key.lp 46 0) [AV.ptr 0 0, sv x1, iv x2, iv x3, AV.fn (Fn.func 47) [AV.ptr 0 0] [], AV.ptr 1 0, AV.ptr 2 0, iv n2] [ABlk.mk [AV.ls xs3, iv n3, AV.ls xs4, bv b] true false, ABlk.mk [iv 0, AV.ls [], AV.ls [], iv 0, sv (bstr []), sv (bstr []), AV.ls []] true false, ABlk.mk [iv n, AV.ls xs, AV.ls xs1, iv n1, sv s, sv s1, AV.ls xs2] true false] fun r1 o1 =>
  unTup r1 fun cs3 =>
  unCons cs3 fun c2 l14 =>
  br (axIs 1 c2)
   (unCons l14 fun c3 l15 =>
   unPtr 0 0 c3 <|
   unCons l15 fun c4 l16 =>
   unPtr 1 0 c4 <|
   unCons l16 fun c5 l17 =>
   unPtr 2 0 c5 <|
   cInt IntKind.i64 l17 fun n4 l18 =>
   unNil l18 <|
   unOut o1 fun c6 l19 =>
   unSet true false c6 fun cs4 =>
   cLs cs4 fun xs5 l20 =>
   cInt IntKind.i64 l20 fun n5 l21 =>
   cLs l21 fun xs6 l22 =>
   cBool l22 fun b1 l23 =>
   unNil l23 <|
   unOut l19 fun c7 l24 =>
   unSet true false c7 fun cs5 =>
   cInt IntKind.i64 cs5 fun _ l25 =>
   cLs l25 fun _ l26 =>
   cLs l26 fun _ l27 =>
   cInt IntKind.i64 l27 fun _ l28 =>
   cStr l28 fun _ l29 =>
   cStr l29 fun _ l30 =>
   cLs l30 fun _ l31 =>
   unNil l31 <|
   unOut l24 fun c8 l32 =>
   unSet true false c8 fun cs6 =>
   cInt IntKind.i64 cs6 fun n8 l33 =>
   cLs l33 fun xs10 l34 =>
   cLs l34 fun xs11 l35 =>
   cInt IntKind.i64 l35 fun n9 l36 =>
   cStr l36 fun s4 l37 =>
   cStr l37 fun s5 l38 =>
   cLs l38 fun xs12 l39 =>
   unNil l39 <|
   unEnd l32 <|
   br (A.eq n4 0)
    (some ((AV.tup [AV.agg [iv n8, AV.ls xs10, AV.ls xs11, iv n9, sv s4, sv s5, AV.ls xs12], iv 0], [BO.set (ABlk.mk [AV.ls xs5, iv n5, AV.ls xs6, bv b1] true false)])))
    (some ((AV.tup [AV.agg [iv 0, AV.ls [], AV.ls [], iv 0, sv (bstr []), sv (bstr []), AV.ls []], iv n4], [BO.set (ABlk.mk [AV.ls xs5, iv n5, AV.ls xs6, bv b1] true false)]))))
   (none) := by kernel_rfl

theorem e46b_0 (A : Ar) (D : Orc) (b0_0 : List (List AV)) (b0_1 : Int) (b0_2 : List (List AV)) (b0_3 : Bool) (t1 : ByteArray) (t2 : Int) (t3 : Int) (b10_0 : Int) (b10_1 : List (List AV)) (b10_2 : List (List AV)) (b10_3 : Int) (b10_4 : ByteArray) (b10_5 : ByteArray) (b10_6 : List (List AV)) (b12_0 : Int) (b12_1 : List (List AV)) (b12_2 : List (List AV)) (b12_3 : Int) (b12_4 : ByteArray) (b12_5 : ByteArray) (b12_6 : List (List AV)) (t13 : Int) : lpK A D ownC hn46 .n 46 0 (lpAt mf46 0).fst (lpAt mf46 0).snd [AV.ptr 0 0, sv t1, iv t2, iv t3, AV.fn (Fn.func 47) [AV.ptr 0 0] [], AV.ptr 1 0, AV.ptr 2 0, iv t13] [{ cells := [AV.ls b0_0, iv b0_1, AV.ls b0_2, bv b0_3], st := true, ex := false }, { cells := [iv b10_0, AV.ls b10_1, AV.ls b10_2, iv b10_3, sv b10_4, sv b10_5, AV.ls b10_6], st := true, ex := false }, { cells := [iv b12_0, AV.ls b12_1, AV.ls b12_2, iv b12_3, sv b12_4, sv b12_5, AV.ls b12_6], st := true, ex := false }] =
  br (A.eq t13 0)
   (askK D (Key.fn 19) [AV.ptr 0 0, sv t1] [ABlk.mk [AV.ls b0_0, iv b0_1, AV.ls b0_2, bv b0_3] true false] fun r o =>
   unBool r fun b =>
   unOut o fun c l =>
   unSet true false c fun cs =>
   cLs cs fun xs l1 =>
   cInt IntKind.i64 l1 fun n l2 =>
   cLs l2 fun xs1 l3 =>
   cBool l3 fun b1 l4 =>
   unNil l4 <|
   unEnd l <|
   br b
    (askK D (Key.fn 47) [AV.ptr 0 0, iv t3] [ABlk.mk [AV.ls xs, iv n, AV.ls xs1, bv b1] true false] fun r1 o1 =>
    unTup r1 fun cs1 =>
    unCons cs1 fun c1 l5 =>
    unAgg c1 fun cs2 =>
    cInt IntKind.i64 cs2 fun n1 l6 =>
    cLs l6 fun xs2 l7 =>
    cLs l7 fun xs3 l8 =>
    cInt IntKind.i64 l8 fun n2 l9 =>
    cStr l9 fun s l10 =>
    cStr l10 fun s1 l11 =>
    cLs l11 fun xs4 l12 =>
    unNil l12 <|
    cInt IntKind.i64 l5 fun n3 l13 =>
    unNil l13 <|
    unOut o1 fun c2 l14 =>
    unSet true false c2 fun cs3 =>
    cLs cs3 fun xs5 l15 =>
    cInt IntKind.i64 l15 fun n4 l16 =>
    cLs l16 fun xs6 l17 =>
    cBool l17 fun b2 l18 =>
    unNil l18 <|
    unEnd l14 <|
    br (A.eq n3 0)
     (askK D (Key.lp 46 0) [AV.ptr 0 0, sv t1, iv t2, iv t3, AV.fn (Fn.func 47) [AV.ptr 0 0] [], AV.ptr 1 0, AV.ptr 2 0, iv n3] [ABlk.mk [AV.ls xs5, iv n4, AV.ls xs6, bv b2] true false, ABlk.mk [iv b10_0, AV.ls b10_1, AV.ls b10_2, iv b10_3, sv b10_4, sv b10_5, AV.ls b10_6] true false, ABlk.mk [iv t2, AV.ls [], AV.ls [], iv 0, sv (bstr []), sv (bstr []), AV.ls [[iv b12_0, AV.ls b12_1, AV.ls b12_2, iv b12_3, sv b12_4, sv b12_5, AV.ls b12_6], [iv n1, AV.ls xs2, AV.ls xs3, iv n2, sv s, sv s1, AV.ls xs4]]] true false] fun r2 o2 =>
     tailK 3 [0, 1, 2] (AH.mk [(2, ABlk.mk [iv t2, AV.ls [], AV.ls [], iv 0, sv (bstr []), sv (bstr []), AV.ls [[iv b12_0, AV.ls b12_1, AV.ls b12_2, iv b12_3, sv b12_4, sv b12_5, AV.ls b12_6], [iv n1, AV.ls xs2, AV.ls xs3, iv n2, sv s, sv s1, AV.ls xs4]]] true false), (4, ABlk.mk [iv b12_0, AV.ls b12_1, AV.ls b12_2, iv b12_3, sv b12_4, sv b12_5, AV.ls b12_6, iv n1, AV.ls xs2, AV.ls xs3, iv n2, sv s, sv s1, AV.ls xs4] false true), (1, ABlk.mk [iv b10_0, AV.ls b10_1, AV.ls b10_2, iv b10_3, sv b10_4, sv b10_5, AV.ls b10_6] true false), (3, ABlk.mk [iv n1, AV.ls xs2, AV.ls xs3, iv n2, sv s, sv s1, AV.ls xs4] true false), (0, ABlk.mk [AV.ls xs5, iv n4, AV.ls xs6, bv b2] true false)] 5 none) [0, 1, 2] r2 o2)
     (askK D (Key.lp 46 0) [AV.ptr 0 0, sv t1, iv t2, iv t3, AV.fn (Fn.func 47) [AV.ptr 0 0] [], AV.ptr 1 0, AV.ptr 2 0, iv n3] [ABlk.mk [AV.ls xs5, iv n4, AV.ls xs6, bv b2] true false, ABlk.mk [iv b10_0, AV.ls b10_1, AV.ls b10_2, iv b10_3, sv b10_4, sv b10_5, AV.ls b10_6] true false, ABlk.mk [iv b12_0, AV.ls b12_1, AV.ls b12_2, iv b12_3, sv b12_4, sv b12_5, AV.ls b12_6] true false] fun r2 o2 =>
     tailK 3 [0, 1, 2] (AH.mk [(2, ABlk.mk [iv b12_0, AV.ls b12_1, AV.ls b12_2, iv b12_3, sv b12_4, sv b12_5, AV.ls b12_6] true false), (1, ABlk.mk [iv b10_0, AV.ls b10_1, AV.ls b10_2, iv b10_3, sv b10_4, sv b10_5, AV.ls b10_6] true false), (3, ABlk.mk [iv n1, AV.ls xs2, AV.ls xs3, iv n2, sv s, sv s1, AV.ls xs4] true false), (0, ABlk.mk [AV.ls xs5, iv n4, AV.ls xs6, bv b2] true false)] 4 none) [0, 1, 2] r2 o2))
    (some ((AV.tup [iv 0, AV.ptr 0 0, AV.ptr 1 0, AV.ptr 2 0, iv t13], [BO.set (ABlk.mk [AV.ls xs, iv n, AV.ls xs1, bv b1] true false), BO.set (ABlk.mk [iv b10_0, AV.ls b10_1, AV.ls b10_2, iv b10_3, sv b10_4, sv b10_5, AV.ls b10_6] true false), BO.set (ABlk.mk [iv b12_0, AV.ls b12_1, AV.ls b12_2, iv b12_3, sv b12_4, sv b12_5, AV.ls b12_6] true false)]))))
   (some ((AV.tup [iv 0, AV.ptr 0 0, AV.ptr 1 0, AV.ptr 2 0, iv t13], [BO.set (ABlk.mk [AV.ls b0_0, iv b0_1, AV.ls b0_2, bv b0_3] true false), BO.set (ABlk.mk [iv b10_0, AV.ls b10_1, AV.ls b10_2, iv b10_3, sv b10_4, sv b10_5, AV.ls b10_6] true false), BO.set (ABlk.mk [iv b12_0, AV.ls b12_1, AV.ls b12_2, iv b12_3, sv b12_4, sv b12_5, AV.ls b12_6] true false)]))) := by kernel_rfl

theorem e64 (A : Ar) (D : Orc) (p0_0 : List (List AV)) (p0_1 : Int) (p0_2 : List (List AV)) (p0_3 : Bool) : fnK A D ownC hn64 .n 64 mf64 [AV.ptr 0 0] [{ cells := [AV.ls p0_0, iv p0_1, AV.ls p0_2, bv p0_3], st := true, ex := false }] =
  askK D (Key.fn 7) [AV.ptr 0 0] [ABlk.mk [AV.ls p0_0, iv p0_1, AV.ls p0_2, bv p0_3] true false] fun r o =>
  unTup r fun cs =>
  cLs cs fun xs l =>
  cInt IntKind.i64 l fun n l1 =>
  unNil l1 <|
  unOut o fun c l2 =>
  unSet true false c fun cs1 =>
  cLs cs1 fun xs1 l3 =>
  cInt IntKind.i64 l3 fun n1 l4 =>
  cLs l4 fun xs2 l5 =>
  cBool l5 fun b l6 =>
  unNil l6 <|
  unEnd l2 <|
  br (A.eq n 0)
   (askK D (Key.fn 68) [] [] fun r1 o1 =>
   unLs r1 fun xs3 =>
   unEnd o1 <|
   askK D (Key.fn 67) [AV.ls xs3, AV.fn (Fn.func 19) [AV.ptr 0 0] []] [ABlk.mk [AV.ls xs1, iv n1, AV.ls xs2, bv b] true false] fun r2 o2 =>
   unInt IntKind.i64 r2 fun n2 =>
   unOut o2 fun c1 l7 =>
   unSet true false c1 fun cs2 =>
   cLs cs2 fun xs4 l8 =>
   cInt IntKind.i64 l8 fun n3 l9 =>
   cLs l9 fun xs5 l10 =>
   cBool l10 fun b1 l11 =>
   unNil l11 <|
   unEnd l7 <|
   br (A.lt n2 0)
    (some ((AV.tup [AV.agg [iv 0, AV.ls [], AV.ls [], iv 0, sv (bstr []), sv (bstr []), AV.ls []], iv 101], [BO.set (ABlk.mk [AV.ls xs4, iv n3, AV.ls xs5, bv b1] true false)])))
    (askK D (Key.fn 7) [AV.ptr 0 0] [ABlk.mk [AV.ls xs4, iv n3, AV.ls xs5, bv b1] true false] fun r3 o3 =>
    unTup r3 fun cs3 =>
    cLs cs3 fun xs6 l12 =>
    cInt IntKind.i64 l12 fun n4 l13 =>
    unNil l13 <|
    unOut o3 fun c2 l14 =>
    unSet true false c2 fun cs4 =>
    cLs cs4 fun xs7 l15 =>
    cInt IntKind.i64 l15 fun n5 l16 =>
    cLs l16 fun xs8 l17 =>
    cBool l17 fun b2 l18 =>
    unNil l18 <|
    unEnd l14 <|
    br (A.eq n4 0)
     (some ((AV.tup [AV.agg [iv 2, AV.ls xs, AV.ls xs6, iv n2, sv (bstr []), sv (bstr []), AV.ls []], iv 0], [BO.set (ABlk.mk [AV.ls xs7, iv n5, AV.ls xs8, bv b2] true false)])))
     (some ((AV.tup [AV.agg [iv 0, AV.ls [], AV.ls [], iv 0, sv (bstr []), sv (bstr []), AV.ls []], iv n4], [BO.set (ABlk.mk [AV.ls xs7, iv n5, AV.ls xs8, bv b2] true false)])))))
   (some ((AV.tup [AV.agg [iv 0, AV.ls [], AV.ls [], iv 0, sv (bstr []), sv (bstr []), AV.ls []], iv n], [BO.set (ABlk.mk [AV.ls xs1, iv n1, AV.ls xs2, bv b] true false)]))) := by kernel_rfl

theorem e57 (A : Ar) (D : Orc) (p0_0 : List (List AV)) (p0_1 : Int) (p0_2 : List (List AV)) (p0_3 : Bool) (x1 : Int) : fnK A D ownC hn57 (.b (.b .n (.b .n (.b (.b (.b (.b (.b .n (.b (.b .n (.b .n (.b .n (.b .n (.b .n (.b .n (.b .n (.b .n (.b (.b (.b .n (.b .n (.f .n))) .n) .n))))))))) .n)) .n) .n) .n) .n))) (.b (.b (.b (.b .n (.b (.b (.b (.b .n (.b (.b .n (.b .n (.b .n (.b .n (.b .n (.b .n (.b .n (.b .n (.b (.b (.b .n (.b .n (.f .n))) .n) .n))))))))) .n)) .n) .n) .n)) (.b .n (.b .n (.b .n (.b .n (.b .n (.b .n (.b .n (.b .n (.b .n (.b .n (.b .n (.b .n (.b .n (.b (.b (.b .n (.b .n (.f .n))) .n) .n))))))))))))))) .n) .n)) 57 mf57 [AV.ptr 0 0, iv x1] [{ cells := [AV.ls p0_0, iv p0_1, AV.ls p0_2, bv p0_3], st := true, ex := false }] =
  askK D (Key.fn 27) [AV.ptr 0 0, sv (bstr [33])] [ABlk.mk [AV.ls p0_0, iv p0_1, AV.ls p0_2, bv p0_3] true false] fun r o =>
  unBool r fun b =>
  unOut o fun c l =>
  unSet true false c fun cs =>
  cLs cs fun xs l1 =>
  cInt IntKind.i64 l1 fun n l2 =>
  cLs l2 fun xs1 l3 =>
  cBool l3 fun b1 l4 =>
  unNil l4 <|
  unEnd l <|
  br b
   (br (A.eq x1 60)
    (some ((AV.tup [AV.agg [iv 0, AV.ls [], AV.ls [], iv 0, sv (bstr []), sv (bstr []), AV.ls []], iv 102], [BO.set (ABlk.mk [AV.ls xs, iv n, AV.ls xs1, bv b1] true false)])))
    (askK D (Key.fn 19) [AV.ptr 0 0, sv (bstr [116, 114, 117, 101])] [ABlk.mk [AV.ls xs, iv n, AV.ls xs1, bv b1] true false] fun r1 o1 =>
    unBool r1 fun b2 =>
    unOut o1 fun c1 l5 =>
    unSet true false c1 fun cs1 =>
    cLs cs1 fun xs2 l6 =>
    cInt IntKind.i64 l6 fun n1 l7 =>
    cLs l7 fun xs3 l8 =>
    cBool l8 fun b3 l9 =>
    unNil l9 <|
    unEnd l5 <|
    br b2
     (some ((AV.tup [AV.agg [iv 0, AV.ls [], AV.ls [], iv 0, sv (bstr []), sv (bstr []), AV.ls []], iv 0], [BO.set (ABlk.mk [AV.ls xs2, iv n1, AV.ls xs3, bv b3] true false)])))
     (askK D (Key.fn 19) [AV.ptr 0 0, sv (bstr [102, 97, 108, 115, 101])] [ABlk.mk [AV.ls xs2, iv n1, AV.ls xs3, bv b3] true false] fun r2 o2 =>
     unBool r2 fun b4 =>
     unOut o2 fun c2 l10 =>
     unSet true false c2 fun cs2 =>
     cLs cs2 fun xs4 l11 =>
     cInt IntKind.i64 l11 fun n2 l12 =>
     cLs l12 fun xs5 l13 =>
     cBool l13 fun b5 l14 =>
     unNil l14 <|
     unEnd l10 <|
     br b4
      (some ((AV.tup [AV.agg [iv 1, AV.ls [], AV.ls [], iv 0, sv (bstr []), sv (bstr []), AV.ls []], iv 0], [BO.set (ABlk.mk [AV.ls xs4, iv n2, AV.ls xs5, bv b5] true false)])))
      (askK D (Key.fn 19) [AV.ptr 0 0, sv (bstr [33])] [ABlk.mk [AV.ls xs4, iv n2, AV.ls xs5, bv b5] true false] fun r3 o3 =>
      unBool r3 fun b6 =>
      unOut o3 fun c3 l15 =>
      unSet true false c3 fun cs3 =>
      cLs cs3 fun xs6 l16 =>
      cInt IntKind.i64 l16 fun n3 l17 =>
      cLs l17 fun xs7 l18 =>
      cBool l18 fun b7 l19 =>
      unNil l19 <|
      unEnd l15 <|
      br b6
       (askK D (Key.fn 57) [AV.ptr 0 0, iv (A.add IntKind.i64 x1 1)] [ABlk.mk [AV.ls xs6, iv n3, AV.ls xs7, bv b7] true false] fun r4 o4 =>
       unTup r4 fun cs4 =>
       unCons cs4 fun c4 l20 =>
       unAgg c4 fun cs5 =>
       cInt IntKind.i64 cs5 fun n4 l21 =>
       cLs l21 fun xs8 l22 =>
       cLs l22 fun xs9 l23 =>
       cInt IntKind.i64 l23 fun n5 l24 =>
       cStr l24 fun s l25 =>
       cStr l25 fun s1 l26 =>
       cLs l26 fun xs10 l27 =>
       unNil l27 <|
       cInt IntKind.i64 l20 fun n6 l28 =>
       unNil l28 <|
       unOut o4 fun c5 l29 =>
       unSet true false c5 fun cs6 =>
       cLs cs6 fun xs11 l30 =>
       cInt IntKind.i64 l30 fun n7 l31 =>
       cLs l31 fun xs12 l32 =>
       cBool l32 fun b8 l33 =>
       unNil l33 <|
       unEnd l29 <|
       br (A.eq n6 0)
        (some ((AV.tup [AV.agg [iv 3, AV.ls [], AV.ls [], iv 0, sv (bstr []), sv (bstr []), AV.ls [[iv n4, AV.ls xs8, AV.ls xs9, iv n5, sv s, sv s1, AV.ls xs10]]], iv 0], [BO.set (ABlk.mk [AV.ls xs11, iv n7, AV.ls xs12, bv b8] true false)])))
        (some ((AV.tup [AV.agg [iv 0, AV.ls [], AV.ls [], iv 0, sv (bstr []), sv (bstr []), AV.ls []], iv n6], [BO.set (ABlk.mk [AV.ls xs11, iv n7, AV.ls xs12, bv b8] true false)]))))
       (askK D (Key.fn 19) [AV.ptr 0 0, sv (bstr [40])] [ABlk.mk [AV.ls xs6, iv n3, AV.ls xs7, bv b7] true false] fun r4 o4 =>
       unBool r4 fun b8 =>
       unOut o4 fun c4 l20 =>
       unSet true false c4 fun cs4 =>
       cLs cs4 fun xs8 l21 =>
       cInt IntKind.i64 l21 fun n4 l22 =>
       cLs l22 fun xs9 l23 =>
       cBool l23 fun b9 l24 =>
       unNil l24 <|
       unEnd l20 <|
       br b8
        (askK D (Key.fn 31) [AV.ptr 0 0, iv (A.add IntKind.i64 x1 1)] [ABlk.mk [AV.ls xs8, iv n4, AV.ls xs9, bv b9] true false] fun r5 o5 =>
        unTup r5 fun cs5 =>
        unCons cs5 fun c5 l25 =>
        unAgg c5 fun cs6 =>
        cInt IntKind.i64 cs6 fun n5 l26 =>
        cLs l26 fun xs10 l27 =>
        cLs l27 fun xs11 l28 =>
        cInt IntKind.i64 l28 fun n6 l29 =>
        cStr l29 fun s l30 =>
        cStr l30 fun s1 l31 =>
        cLs l31 fun xs12 l32 =>
        unNil l32 <|
        cInt IntKind.i64 l25 fun n7 l33 =>
        unNil l33 <|
        unOut o5 fun c6 l34 =>
        unSet true false c6 fun cs7 =>
        cLs cs7 fun xs13 l35 =>
        cInt IntKind.i64 l35 fun n8 l36 =>
        cLs l36 fun xs14 l37 =>
        cBool l37 fun b10 l38 =>
        unNil l38 <|
        unEnd l34 <|
        br (A.eq n7 0)
         (askK D (Key.fn 17) [AV.ptr 0 0, sv (bstr [41])] [ABlk.mk [AV.ls xs13, iv n8, AV.ls xs14, bv b10] true false] fun r6 o6 =>
         unInt IntKind.i64 r6 fun n9 =>
         unOut o6 fun c7 l39 =>
         unSet true false c7 fun cs8 =>
         cLs cs8 fun xs15 l40 =>
         cInt IntKind.i64 l40 fun n10 l41 =>
         cLs l41 fun xs16 l42 =>
         cBool l42 fun b11 l43 =>
         unNil l43 <|
         unEnd l39 <|
         br (A.eq n9 0)
          (some ((AV.tup [AV.agg [iv n5, AV.ls xs10, AV.ls xs11, iv n6, sv s, sv s1, AV.ls xs12], iv 0], [BO.set (ABlk.mk [AV.ls xs15, iv n10, AV.ls xs16, bv b11] true false)])))
          (some ((AV.tup [AV.agg [iv 0, AV.ls [], AV.ls [], iv 0, sv (bstr []), sv (bstr []), AV.ls []], iv n9], [BO.set (ABlk.mk [AV.ls xs15, iv n10, AV.ls xs16, bv b11] true false)]))))
         (br (A.eq n7 0) none (some ((AV.tup [AV.agg [iv 0, AV.ls [], AV.ls [], iv 0, sv (bstr []), sv (bstr []), AV.ls []], iv n7], [BO.set (ABlk.mk [AV.ls xs13, iv n8, AV.ls xs14, bv b10] true false)])))))
        (askK D (Key.fn 64) [AV.ptr 0 0] [ABlk.mk [AV.ls xs8, iv n4, AV.ls xs9, bv b9] true false] fun r5 o5 =>
        unTup r5 fun cs5 =>
        unCons cs5 fun c5 l25 =>
        unAgg c5 fun cs6 =>
        cInt IntKind.i64 cs6 fun n5 l26 =>
        cLs l26 fun xs10 l27 =>
        cLs l27 fun xs11 l28 =>
        cInt IntKind.i64 l28 fun n6 l29 =>
        cStr l29 fun s l30 =>
        cStr l30 fun s1 l31 =>
        cLs l31 fun xs12 l32 =>
        unNil l32 <|
        cInt IntKind.i64 l25 fun n7 l33 =>
        unNil l33 <|
        unOut o5 fun c6 l34 =>
        unSet true false c6 fun cs7 =>
        cLs cs7 fun xs13 l35 =>
        cInt IntKind.i64 l35 fun n8 l36 =>
        cLs l36 fun xs14 l37 =>
        cBool l37 fun b10 l38 =>
        unNil l38 <|
        unEnd l34 <|
        some ((AV.tup [AV.agg [iv n5, AV.ls xs10, AV.ls xs11, iv n6, sv s, sv s1, AV.ls xs12], iv n7], [BO.set (ABlk.mk [AV.ls xs13, iv n8, AV.ls xs14, bv b10] true false)]))))))))
   (askK D (Key.fn 27) [AV.ptr 0 0, sv (bstr [40])] [ABlk.mk [AV.ls xs, iv n, AV.ls xs1, bv b1] true false] fun r1 o1 =>
   unBool r1 fun b2 =>
   unOut o1 fun c1 l5 =>
   unSet true false c1 fun cs1 =>
   cLs cs1 fun xs2 l6 =>
   cInt IntKind.i64 l6 fun n1 l7 =>
   cLs l7 fun xs3 l8 =>
   cBool l8 fun b3 l9 =>
   unNil l9 <|
   unEnd l5 <|
   br b2
    (br (A.eq x1 60)
     (some ((AV.tup [AV.agg [iv 0, AV.ls [], AV.ls [], iv 0, sv (bstr []), sv (bstr []), AV.ls []], iv 102], [BO.set (ABlk.mk [AV.ls xs2, iv n1, AV.ls xs3, bv b3] true false)])))
     (askK D (Key.fn 19) [AV.ptr 0 0, sv (bstr [116, 114, 117, 101])] [ABlk.mk [AV.ls xs2, iv n1, AV.ls xs3, bv b3] true false] fun r2 o2 =>
     unBool r2 fun b4 =>
     unOut o2 fun c2 l10 =>
     unSet true false c2 fun cs2 =>
     cLs cs2 fun xs4 l11 =>
     cInt IntKind.i64 l11 fun n2 l12 =>
     cLs l12 fun xs5 l13 =>
     cBool l13 fun b5 l14 =>
     unNil l14 <|
     unEnd l10 <|
     br b4
      (some ((AV.tup [AV.agg [iv 0, AV.ls [], AV.ls [], iv 0, sv (bstr []), sv (bstr []), AV.ls []], iv 0], [BO.set (ABlk.mk [AV.ls xs4, iv n2, AV.ls xs5, bv b5] true false)])))
      (askK D (Key.fn 19) [AV.ptr 0 0, sv (bstr [102, 97, 108, 115, 101])] [ABlk.mk [AV.ls xs4, iv n2, AV.ls xs5, bv b5] true false] fun r3 o3 =>
      unBool r3 fun b6 =>
      unOut o3 fun c3 l15 =>
      unSet true false c3 fun cs3 =>
      cLs cs3 fun xs6 l16 =>
      cInt IntKind.i64 l16 fun n3 l17 =>
      cLs l17 fun xs7 l18 =>
      cBool l18 fun b7 l19 =>
      unNil l19 <|
      unEnd l15 <|
      br b6
       (some ((AV.tup [AV.agg [iv 1, AV.ls [], AV.ls [], iv 0, sv (bstr []), sv (bstr []), AV.ls []], iv 0], [BO.set (ABlk.mk [AV.ls xs6, iv n3, AV.ls xs7, bv b7] true false)])))
       (askK D (Key.fn 19) [AV.ptr 0 0, sv (bstr [33])] [ABlk.mk [AV.ls xs6, iv n3, AV.ls xs7, bv b7] true false] fun r4 o4 =>
       unBool r4 fun b8 =>
       unOut o4 fun c4 l20 =>
       unSet true false c4 fun cs4 =>
       cLs cs4 fun xs8 l21 =>
       cInt IntKind.i64 l21 fun n4 l22 =>
       cLs l22 fun xs9 l23 =>
       cBool l23 fun b9 l24 =>
       unNil l24 <|
       unEnd l20 <|
       br b8
        (askK D (Key.fn 57) [AV.ptr 0 0, iv (A.add IntKind.i64 x1 1)] [ABlk.mk [AV.ls xs8, iv n4, AV.ls xs9, bv b9] true false] fun r5 o5 =>
        unTup r5 fun cs5 =>
        unCons cs5 fun c5 l25 =>
        unAgg c5 fun cs6 =>
        cInt IntKind.i64 cs6 fun n5 l26 =>
        cLs l26 fun xs10 l27 =>
        cLs l27 fun xs11 l28 =>
        cInt IntKind.i64 l28 fun n6 l29 =>
        cStr l29 fun s l30 =>
        cStr l30 fun s1 l31 =>
        cLs l31 fun xs12 l32 =>
        unNil l32 <|
        cInt IntKind.i64 l25 fun n7 l33 =>
        unNil l33 <|
        unOut o5 fun c6 l34 =>
        unSet true false c6 fun cs7 =>
        cLs cs7 fun xs13 l35 =>
        cInt IntKind.i64 l35 fun n8 l36 =>
        cLs l36 fun xs14 l37 =>
        cBool l37 fun b10 l38 =>
        unNil l38 <|
        unEnd l34 <|
        br (A.eq n7 0)
         (some ((AV.tup [AV.agg [iv 3, AV.ls [], AV.ls [], iv 0, sv (bstr []), sv (bstr []), AV.ls [[iv n5, AV.ls xs10, AV.ls xs11, iv n6, sv s, sv s1, AV.ls xs12]]], iv 0], [BO.set (ABlk.mk [AV.ls xs13, iv n8, AV.ls xs14, bv b10] true false)])))
         (some ((AV.tup [AV.agg [iv 0, AV.ls [], AV.ls [], iv 0, sv (bstr []), sv (bstr []), AV.ls []], iv n7], [BO.set (ABlk.mk [AV.ls xs13, iv n8, AV.ls xs14, bv b10] true false)]))))
        (askK D (Key.fn 19) [AV.ptr 0 0, sv (bstr [40])] [ABlk.mk [AV.ls xs8, iv n4, AV.ls xs9, bv b9] true false] fun r5 o5 =>
        unBool r5 fun b10 =>
        unOut o5 fun c5 l25 =>
        unSet true false c5 fun cs5 =>
        cLs cs5 fun xs10 l26 =>
        cInt IntKind.i64 l26 fun n5 l27 =>
        cLs l27 fun xs11 l28 =>
        cBool l28 fun b11 l29 =>
        unNil l29 <|
        unEnd l25 <|
        br b10
         (askK D (Key.fn 31) [AV.ptr 0 0, iv (A.add IntKind.i64 x1 1)] [ABlk.mk [AV.ls xs10, iv n5, AV.ls xs11, bv b11] true false] fun r6 o6 =>
         unTup r6 fun cs6 =>
         unCons cs6 fun c6 l30 =>
         unAgg c6 fun cs7 =>
         cInt IntKind.i64 cs7 fun n6 l31 =>
         cLs l31 fun xs12 l32 =>
         cLs l32 fun xs13 l33 =>
         cInt IntKind.i64 l33 fun n7 l34 =>
         cStr l34 fun s l35 =>
         cStr l35 fun s1 l36 =>
         cLs l36 fun xs14 l37 =>
         unNil l37 <|
         cInt IntKind.i64 l30 fun n8 l38 =>
         unNil l38 <|
         unOut o6 fun c7 l39 =>
         unSet true false c7 fun cs8 =>
         cLs cs8 fun xs15 l40 =>
         cInt IntKind.i64 l40 fun n9 l41 =>
         cLs l41 fun xs16 l42 =>
         cBool l42 fun b12 l43 =>
         unNil l43 <|
         unEnd l39 <|
         br (A.eq n8 0)
          (askK D (Key.fn 17) [AV.ptr 0 0, sv (bstr [41])] [ABlk.mk [AV.ls xs15, iv n9, AV.ls xs16, bv b12] true false] fun r7 o7 =>
          unInt IntKind.i64 r7 fun n10 =>
          unOut o7 fun c8 l44 =>
          unSet true false c8 fun cs9 =>
          cLs cs9 fun xs17 l45 =>
          cInt IntKind.i64 l45 fun n11 l46 =>
          cLs l46 fun xs18 l47 =>
          cBool l47 fun b13 l48 =>
          unNil l48 <|
          unEnd l44 <|
          br (A.eq n10 0)
           (some ((AV.tup [AV.agg [iv n6, AV.ls xs12, AV.ls xs13, iv n7, sv s, sv s1, AV.ls xs14], iv 0], [BO.set (ABlk.mk [AV.ls xs17, iv n11, AV.ls xs18, bv b13] true false)])))
           (some ((AV.tup [AV.agg [iv 0, AV.ls [], AV.ls [], iv 0, sv (bstr []), sv (bstr []), AV.ls []], iv n10], [BO.set (ABlk.mk [AV.ls xs17, iv n11, AV.ls xs18, bv b13] true false)]))))
          (br (A.eq n8 0) none (some ((AV.tup [AV.agg [iv 0, AV.ls [], AV.ls [], iv 0, sv (bstr []), sv (bstr []), AV.ls []], iv n8], [BO.set (ABlk.mk [AV.ls xs15, iv n9, AV.ls xs16, bv b12] true false)])))))
         (askK D (Key.fn 64) [AV.ptr 0 0] [ABlk.mk [AV.ls xs10, iv n5, AV.ls xs11, bv b11] true false] fun r6 o6 =>
         unTup r6 fun cs6 =>
         unCons cs6 fun c6 l30 =>
         unAgg c6 fun cs7 =>
         cInt IntKind.i64 cs7 fun n6 l31 =>
         cLs l31 fun xs12 l32 =>
         cLs l32 fun xs13 l33 =>
         cInt IntKind.i64 l33 fun n7 l34 =>
         cStr l34 fun s l35 =>
         cStr l35 fun s1 l36 =>
         cLs l36 fun xs14 l37 =>
         unNil l37 <|
         cInt IntKind.i64 l30 fun n8 l38 =>
         unNil l38 <|
         unOut o6 fun c7 l39 =>
         unSet true false c7 fun cs8 =>
         cLs cs8 fun xs15 l40 =>
         cInt IntKind.i64 l40 fun n9 l41 =>
         cLs l41 fun xs16 l42 =>
         cBool l42 fun b12 l43 =>
         unNil l43 <|
         unEnd l39 <|
         some ((AV.tup [AV.agg [iv n6, AV.ls xs12, AV.ls xs13, iv n7, sv s, sv s1, AV.ls xs14], iv n8], [BO.set (ABlk.mk [AV.ls xs15, iv n9, AV.ls xs16, bv b12] true false)]))))))))
    (askK D (Key.fn 19) [AV.ptr 0 0, sv (bstr [116, 114, 117, 101])] [ABlk.mk [AV.ls xs2, iv n1, AV.ls xs3, bv b3] true false] fun r2 o2 =>
    unBool r2 fun b4 =>
    unOut o2 fun c2 l10 =>
    unSet true false c2 fun cs2 =>
    cLs cs2 fun xs4 l11 =>
    cInt IntKind.i64 l11 fun n2 l12 =>
    cLs l12 fun xs5 l13 =>
    cBool l13 fun b5 l14 =>
    unNil l14 <|
    unEnd l10 <|
    br b4
     (some ((AV.tup [AV.agg [iv 0, AV.ls [], AV.ls [], iv 0, sv (bstr []), sv (bstr []), AV.ls []], iv 0], [BO.set (ABlk.mk [AV.ls xs4, iv n2, AV.ls xs5, bv b5] true false)])))
     (askK D (Key.fn 19) [AV.ptr 0 0, sv (bstr [102, 97, 108, 115, 101])] [ABlk.mk [AV.ls xs4, iv n2, AV.ls xs5, bv b5] true false] fun r3 o3 =>
     unBool r3 fun b6 =>
     unOut o3 fun c3 l15 =>
     unSet true false c3 fun cs3 =>
     cLs cs3 fun xs6 l16 =>
     cInt IntKind.i64 l16 fun n3 l17 =>
     cLs l17 fun xs7 l18 =>
     cBool l18 fun b7 l19 =>
     unNil l19 <|
     unEnd l15 <|
     br b6
      (some ((AV.tup [AV.agg [iv 1, AV.ls [], AV.ls [], iv 0, sv (bstr []), sv (bstr []), AV.ls []], iv 0], [BO.set (ABlk.mk [AV.ls xs6, iv n3, AV.ls xs7, bv b7] true false)])))
      (askK D (Key.fn 19) [AV.ptr 0 0, sv (bstr [33])] [ABlk.mk [AV.ls xs6, iv n3, AV.ls xs7, bv b7] true false] fun r4 o4 =>
      unBool r4 fun b8 =>
      unOut o4 fun c4 l20 =>
      unSet true false c4 fun cs4 =>
      cLs cs4 fun xs8 l21 =>
      cInt IntKind.i64 l21 fun n4 l22 =>
      cLs l22 fun xs9 l23 =>
      cBool l23 fun b9 l24 =>
      unNil l24 <|
      unEnd l20 <|
      br b8
       (askK D (Key.fn 57) [AV.ptr 0 0, iv (A.add IntKind.i64 x1 1)] [ABlk.mk [AV.ls xs8, iv n4, AV.ls xs9, bv b9] true false] fun r5 o5 =>
       unTup r5 fun cs5 =>
       unCons cs5 fun c5 l25 =>
       unAgg c5 fun cs6 =>
       cInt IntKind.i64 cs6 fun n5 l26 =>
       cLs l26 fun xs10 l27 =>
       cLs l27 fun xs11 l28 =>
       cInt IntKind.i64 l28 fun n6 l29 =>
       cStr l29 fun s l30 =>
       cStr l30 fun s1 l31 =>
       cLs l31 fun xs12 l32 =>
       unNil l32 <|
       cInt IntKind.i64 l25 fun n7 l33 =>
       unNil l33 <|
       unOut o5 fun c6 l34 =>
       unSet true false c6 fun cs7 =>
       cLs cs7 fun xs13 l35 =>
       cInt IntKind.i64 l35 fun n8 l36 =>
       cLs l36 fun xs14 l37 =>
       cBool l37 fun b10 l38 =>
       unNil l38 <|
       unEnd l34 <|
       br (A.eq n7 0)
        (some ((AV.tup [AV.agg [iv 3, AV.ls [], AV.ls [], iv 0, sv (bstr []), sv (bstr []), AV.ls [[iv n5, AV.ls xs10, AV.ls xs11, iv n6, sv s, sv s1, AV.ls xs12]]], iv 0], [BO.set (ABlk.mk [AV.ls xs13, iv n8, AV.ls xs14, bv b10] true false)])))
        (some ((AV.tup [AV.agg [iv 0, AV.ls [], AV.ls [], iv 0, sv (bstr []), sv (bstr []), AV.ls []], iv n7], [BO.set (ABlk.mk [AV.ls xs13, iv n8, AV.ls xs14, bv b10] true false)]))))
       (askK D (Key.fn 19) [AV.ptr 0 0, sv (bstr [40])] [ABlk.mk [AV.ls xs8, iv n4, AV.ls xs9, bv b9] true false] fun r5 o5 =>
       unBool r5 fun b10 =>
       unOut o5 fun c5 l25 =>
       unSet true false c5 fun cs5 =>
       cLs cs5 fun xs10 l26 =>
       cInt IntKind.i64 l26 fun n5 l27 =>
       cLs l27 fun xs11 l28 =>
       cBool l28 fun b11 l29 =>
       unNil l29 <|
       unEnd l25 <|
       br b10
        (askK D (Key.fn 31) [AV.ptr 0 0, iv (A.add IntKind.i64 x1 1)] [ABlk.mk [AV.ls xs10, iv n5, AV.ls xs11, bv b11] true false] fun r6 o6 =>
        unTup r6 fun cs6 =>
        unCons cs6 fun c6 l30 =>
        unAgg c6 fun cs7 =>
        cInt IntKind.i64 cs7 fun n6 l31 =>
        cLs l31 fun xs12 l32 =>
        cLs l32 fun xs13 l33 =>
        cInt IntKind.i64 l33 fun n7 l34 =>
        cStr l34 fun s l35 =>
        cStr l35 fun s1 l36 =>
        cLs l36 fun xs14 l37 =>
        unNil l37 <|
        cInt IntKind.i64 l30 fun n8 l38 =>
        unNil l38 <|
        unOut o6 fun c7 l39 =>
        unSet true false c7 fun cs8 =>
        cLs cs8 fun xs15 l40 =>
        cInt IntKind.i64 l40 fun n9 l41 =>
        cLs l41 fun xs16 l42 =>
        cBool l42 fun b12 l43 =>
        unNil l43 <|
        unEnd l39 <|
        br (A.eq n8 0)
         (askK D (Key.fn 17) [AV.ptr 0 0, sv (bstr [41])] [ABlk.mk [AV.ls xs15, iv n9, AV.ls xs16, bv b12] true false] fun r7 o7 =>
         unInt IntKind.i64 r7 fun n10 =>
         unOut o7 fun c8 l44 =>
         unSet true false c8 fun cs9 =>
         cLs cs9 fun xs17 l45 =>
         cInt IntKind.i64 l45 fun n11 l46 =>
         cLs l46 fun xs18 l47 =>
         cBool l47 fun b13 l48 =>
         unNil l48 <|
         unEnd l44 <|
         br (A.eq n10 0)
          (some ((AV.tup [AV.agg [iv n6, AV.ls xs12, AV.ls xs13, iv n7, sv s, sv s1, AV.ls xs14], iv 0], [BO.set (ABlk.mk [AV.ls xs17, iv n11, AV.ls xs18, bv b13] true false)])))
          (some ((AV.tup [AV.agg [iv 0, AV.ls [], AV.ls [], iv 0, sv (bstr []), sv (bstr []), AV.ls []], iv n10], [BO.set (ABlk.mk [AV.ls xs17, iv n11, AV.ls xs18, bv b13] true false)]))))
         (br (A.eq n8 0) none (some ((AV.tup [AV.agg [iv 0, AV.ls [], AV.ls [], iv 0, sv (bstr []), sv (bstr []), AV.ls []], iv n8], [BO.set (ABlk.mk [AV.ls xs15, iv n9, AV.ls xs16, bv b12] true false)])))))
        (askK D (Key.fn 64) [AV.ptr 0 0] [ABlk.mk [AV.ls xs10, iv n5, AV.ls xs11, bv b11] true false] fun r6 o6 =>
        unTup r6 fun cs6 =>
        unCons cs6 fun c6 l30 =>
        unAgg c6 fun cs7 =>
        cInt IntKind.i64 cs7 fun n6 l31 =>
        cLs l31 fun xs12 l32 =>
        cLs l32 fun xs13 l33 =>
        cInt IntKind.i64 l33 fun n7 l34 =>
        cStr l34 fun s l35 =>
        cStr l35 fun s1 l36 =>
        cLs l36 fun xs14 l37 =>
        unNil l37 <|
        cInt IntKind.i64 l30 fun n8 l38 =>
        unNil l38 <|
        unOut o6 fun c7 l39 =>
        unSet true false c7 fun cs8 =>
        cLs cs8 fun xs15 l40 =>
        cInt IntKind.i64 l40 fun n9 l41 =>
        cLs l41 fun xs16 l42 =>
        cBool l42 fun b12 l43 =>
        unNil l43 <|
        unEnd l39 <|
        some ((AV.tup [AV.agg [iv n6, AV.ls xs12, AV.ls xs13, iv n7, sv s, sv s1, AV.ls xs14], iv n8], [BO.set (ABlk.mk [AV.ls xs15, iv n9, AV.ls xs16, bv b12] true false)])))))))) := by kernel_rfl

theorem e47 (A : Ar) (D : Orc) (p0_0 : List (List AV)) (p0_1 : Int) (p0_2 : List (List AV)) (p0_3 : Bool) (x1 : Int) : fnK A D ownC hn47 .n 47 mf47 [AV.ptr 0 0, iv x1] [{ cells := [AV.ls p0_0, iv p0_1, AV.ls p0_2, bv p0_3], st := true, ex := false }] =
  askK D (Key.fn 46) [AV.ptr 0 0, sv (bstr [38]), iv 4, iv x1, AV.fn (Fn.func 57) [AV.ptr 0 0] []] [ABlk.mk [AV.ls p0_0, iv p0_1, AV.ls p0_2, bv p0_3] true false] fun r o =>
  unTup r fun cs =>
  unCons cs fun c l =>
  unAgg c fun cs1 =>
  cInt IntKind.i64 cs1 fun n l1 =>
  cLs l1 fun xs l2 =>
  cLs l2 fun xs1 l3 =>
  cInt IntKind.i64 l3 fun n1 l4 =>
  cStr l4 fun s l5 =>
  cStr l5 fun s1 l6 =>
  cLs l6 fun xs2 l7 =>
  unNil l7 <|
  cInt IntKind.i64 l fun n2 l8 =>
  unNil l8 <|
  unOut o fun c1 l9 =>
  unSet true false c1 fun cs2 =>
  cLs cs2 fun xs3 l10 =>
  cInt IntKind.i64 l10 fun n3 l11 =>
  cLs l11 fun xs4 l12 =>
  cBool l12 fun b l13 =>
  unNil l13 <|
  unEnd l9 <|
  some ((AV.tup [AV.agg [iv n, AV.ls xs, AV.ls xs1, iv n1, sv s, sv s1, AV.ls xs2], iv n2], [BO.set (ABlk.mk [AV.ls xs3, iv n3, AV.ls xs4, bv b] true false)])) := by kernel_rfl

theorem e31 (A : Ar) (D : Orc) (p0_0 : List (List AV)) (p0_1 : Int) (p0_2 : List (List AV)) (p0_3 : Bool) (x1 : Int) : fnK A D ownC hn31 .n 31 mf31 [AV.ptr 0 0, iv x1] [{ cells := [AV.ls p0_0, iv p0_1, AV.ls p0_2, bv p0_3], st := true, ex := false }] =
  askK D (Key.fn 46) [AV.ptr 0 0, sv (bstr [124]), iv 5, iv x1, AV.fn (Fn.func 47) [AV.ptr 0 0] []] [ABlk.mk [AV.ls p0_0, iv p0_1, AV.ls p0_2, bv p0_3] true false] fun r o =>
  unTup r fun cs =>
  unCons cs fun c l =>
  unAgg c fun cs1 =>
  cInt IntKind.i64 cs1 fun n l1 =>
  cLs l1 fun xs l2 =>
  cLs l2 fun xs1 l3 =>
  cInt IntKind.i64 l3 fun n1 l4 =>
  cStr l4 fun s l5 =>
  cStr l5 fun s1 l6 =>
  cLs l6 fun xs2 l7 =>
  unNil l7 <|
  cInt IntKind.i64 l fun n2 l8 =>
  unNil l8 <|
  unOut o fun c1 l9 =>
  unSet true false c1 fun cs2 =>
  cLs cs2 fun xs3 l10 =>
  cInt IntKind.i64 l10 fun n3 l11 =>
  cLs l11 fun xs4 l12 =>
  cBool l12 fun b l13 =>
  unNil l13 <|
  unEnd l9 <|
  some ((AV.tup [AV.agg [iv n, AV.ls xs, AV.ls xs1, iv n1, sv s, sv s1, AV.ls xs2], iv n2], [BO.set (ABlk.mk [AV.ls xs3, iv n3, AV.ls xs4, bv b] true false)])) := by kernel_rfl

theorem e9 (A : Ar) (D : Orc) (p0_0 : List (List AV)) (p0_1 : Int) (p0_2 : List (List AV)) (p0_3 : Bool) : fnK A D ownC hn9 .n 9 mf9 [AV.ptr 0 0] [{ cells := [AV.ls p0_0, iv p0_1, AV.ls p0_2, bv p0_3], st := true, ex := false }] =
  askK D (Key.fn 31) [AV.ptr 0 0, iv 0] [ABlk.mk [AV.ls p0_0, iv p0_1, AV.ls p0_2, bv p0_3] true false] fun r o =>
  unTup r fun cs =>
  unCons cs fun c l =>
  unAgg c fun cs1 =>
  cInt IntKind.i64 cs1 fun n l1 =>
  cLs l1 fun xs l2 =>
  cLs l2 fun xs1 l3 =>
  cInt IntKind.i64 l3 fun n1 l4 =>
  cStr l4 fun s l5 =>
  cStr l5 fun s1 l6 =>
  cLs l6 fun xs2 l7 =>
  unNil l7 <|
  cInt IntKind.i64 l fun n2 l8 =>
  unNil l8 <|
  unOut o fun c1 l9 =>
  unSet true false c1 fun cs2 =>
  cLs cs2 fun xs3 l10 =>
  cInt IntKind.i64 l10 fun n3 l11 =>
  cLs l11 fun xs4 l12 =>
  cBool l12 fun b l13 =>
  unNil l13 <|
  unEnd l9 <|
  some ((AV.tup [AV.agg [iv n, AV.ls xs, AV.ls xs1, iv n1, sv s, sv s1, AV.ls xs2], iv n2], [BO.set (ABlk.mk [AV.ls xs3, iv n3, AV.ls xs4, bv b] true false)])) := by kernel_rfl
end Go.Proofs.Ytlmhajfbpplpoaa
namespace Go.Proofs.Ytlmhajfbpplpoaa
open Go.RowKit
/- plumbline/expr.Whole[plumbline/api.Tree] -/
def hs13 : Hints := []
noncomputable def mf13 : MFn := mfD Try.prog entsC hs13 false false 13
def hn13 : Hnt := ⟨[(5, (.tup [.ls, .agg [.int .i64, .int .i64], .int .i64], [])), (9, (.tup [.agg [.int .i64, .ls, .ls, .int .i64, .str, .str, .ls], .int .i64], [.box [.ls, .int .i64, .ls, .bool]])), (16, (.agg [.int .i64, .str, .int .i64, .int .i64], [.box [.ls, .int .i64, .ls, .bool]]))], [], [(25, [.int .i64, .ls, .ls, .int .i64, .str, .str, .ls]), (26, [.int .i64, .int .i64]), (49, [.int .i64, .ls, .ls, .int .i64, .str, .str, .ls]), (54, [.int .i64, .ls, .ls, .int .i64, .str, .str, .ls])]⟩
noncomputable def tabWa : List (Nat × MFn) := [(13, mf13)]
theorem e13 (A : Ar) (D : Orc) (x0 : ByteArray) (x1 : List (List AV)) (x2 : Bool) : fnK A D ownC hn13 (.b (.b .n (.b .n (.b (.b (.b (.b (.b (.b (.b .n (.b (.b .n (.b .n (.t .n))) .n)) .n) .n) .n) .n) .n) (.b .n (.b .n (.b .n (.b .n (.b .n (.b .n (.b .n (.f .n))))))))))) .n) 13 mf13 [sv x0, AV.ls x1, bv x2, AV.fn (Fn.func 9) [] []] [] =
  askK D (Key.fn 5) [sv x0] [] fun r o =>
  unTup r fun cs =>
  cLs cs fun xs l =>
  unCons l fun c l1 =>
  unAgg c fun cs1 =>
  cInt IntKind.i64 cs1 fun n l2 =>
  cInt IntKind.i64 l2 fun n1 l3 =>
  unNil l3 <|
  cInt IntKind.i64 l1 fun n2 l4 =>
  unNil l4 <|
  unEnd o <|
  br (A.eq n2 0)
   (askK D (Key.fn 9) [AV.ptr 0 0] [ABlk.mk [AV.ls xs, iv 0, AV.ls x1, bv x2] true false] fun r1 o1 =>
   unTup r1 fun cs2 =>
   unCons cs2 fun c1 l5 =>
   unAgg c1 fun cs3 =>
   cInt IntKind.i64 cs3 fun n3 l6 =>
   cLs l6 fun xs1 l7 =>
   cLs l7 fun xs2 l8 =>
   cInt IntKind.i64 l8 fun n4 l9 =>
   cStr l9 fun s l10 =>
   cStr l10 fun s1 l11 =>
   cLs l11 fun xs3 l12 =>
   unNil l12 <|
   cInt IntKind.i64 l5 fun n5 l13 =>
   unNil l13 <|
   unOut o1 fun c2 l14 =>
   unSet true false c2 fun cs4 =>
   cLs cs4 fun xs4 l15 =>
   cInt IntKind.i64 l15 fun n6 l16 =>
   cLs l16 fun xs5 l17 =>
   cBool l17 fun b l18 =>
   unNil l18 <|
   unEnd l14 <|
   br (A.eq n5 0)
    (askK D (Key.fn 16) [AV.ptr 0 0] [ABlk.mk [AV.ls xs4, iv n6, AV.ls xs5, bv b] true false] fun r2 o2 =>
    unAgg r2 fun cs5 =>
    cInt IntKind.i64 cs5 fun n7 l19 =>
    cStr l19 fun _ l20 =>
    cInt IntKind.i64 l20 fun _ l21 =>
    cInt IntKind.i64 l21 fun _ l22 =>
    unNil l22 <|
    unOut o2 fun c3 l23 =>
    unSet true false c3 fun cs6 =>
    cLs cs6 fun xs6 l24 =>
    cInt IntKind.i64 l24 fun n10 l25 =>
    cLs l25 fun xs7 l26 =>
    cBool l26 fun b1 l27 =>
    unNil l27 <|
    unEnd l23 <|
    br (A.eq n7 5)
     (br (A.eq n5 0) (some ((AV.tup [AV.agg [iv n3, AV.ls xs1, AV.ls xs2, iv n4, sv s, sv s1, AV.ls xs3], AV.agg [iv 0, iv 0], iv 0], []))) none)
     (br (A.eq 101 0)
      (some ((AV.tup [AV.agg [iv n3, AV.ls xs1, AV.ls xs2, iv n4, sv s, sv s1, AV.ls xs3], AV.agg [iv 0, iv 0], iv 0], [])))
      (askK D (Key.fn 16) [AV.ptr 0 0] [ABlk.mk [AV.ls xs6, iv n10, AV.ls xs7, bv b1] true false] fun r3 o3 =>
      unAgg r3 fun cs7 =>
      cInt IntKind.i64 cs7 fun _ l28 =>
      cStr l28 fun _ l29 =>
      cInt IntKind.i64 l29 fun n12 l30 =>
      cInt IntKind.i64 l30 fun n13 l31 =>
      unNil l31 <|
      unOut o3 fun c4 l32 =>
      unSet true false c4 fun cs8 =>
      cLs cs8 fun _ l33 =>
      cInt IntKind.i64 l33 fun _ l34 =>
      cLs l34 fun _ l35 =>
      cBool l35 fun _ l36 =>
      unNil l36 <|
      unEnd l32 <|
      some ((AV.tup [AV.agg [iv 0, AV.ls [], AV.ls [], iv 0, sv (bstr []), sv (bstr []), AV.ls []], AV.agg [iv n12, iv n13], iv 101], [])))))
    (br (A.eq n5 0) none (askK D (Key.fn 16) [AV.ptr 0 0] [ABlk.mk [AV.ls xs4, iv n6, AV.ls xs5, bv b] true false] fun r2 o2 =>
    unAgg r2 fun cs5 =>
    cInt IntKind.i64 cs5 fun _ l19 =>
    cStr l19 fun _ l20 =>
    cInt IntKind.i64 l20 fun n8 l21 =>
    cInt IntKind.i64 l21 fun n9 l22 =>
    unNil l22 <|
    unOut o2 fun c3 l23 =>
    unSet true false c3 fun cs6 =>
    cLs cs6 fun _ l24 =>
    cInt IntKind.i64 l24 fun _ l25 =>
    cLs l25 fun _ l26 =>
    cBool l26 fun _ l27 =>
    unNil l27 <|
    unEnd l23 <|
    some ((AV.tup [AV.agg [iv 0, AV.ls [], AV.ls [], iv 0, sv (bstr []), sv (bstr []), AV.ls []], AV.agg [iv n8, iv n9], iv n5], [])))))
   (some ((AV.tup [AV.agg [iv 0, AV.ls [], AV.ls [], iv 0, sv (bstr []), sv (bstr []), AV.ls []], AV.agg [iv n, iv n1], iv n2], []))) := by kernel_rfl
end Go.Proofs.Ytlmhajfbpplpoaa
namespace Go.Proofs.Ytlmhajfbpplpoaa
open Go.RowKit
/- plumbline/plumblinelaw11.ExprWalks -/
def hs3 : Hints := []
noncomputable def mf3 : MFn := mfD Try.prog entsC hs3 false false 3
def hn3 : Hnt := ⟨[(4, (.bool, [])), (5, (.tup [.ls, .agg [.int .i64, .int .i64], .int .i64], [])), (6, (.tup [.ls, .agg [.int .i64, .int .i64], .int .i64], [])), (7, (.tup [.ls, .int .i64], [.box [.ls, .int .i64, .ls, .bool]])), (8, (.tup [.agg [.ls, .int .i64, .ls, .bool], .ls, .int .i64], [])), (9, (.tup [.agg [.int .i64, .ls, .ls, .int .i64, .str, .str, .ls], .int .i64], [.box [.ls, .int .i64, .ls, .bool]])), (10, (.tup [.agg [.ls, .int .i64, .ls, .bool], .agg [.int .i64, .ls, .ls, .int .i64, .str, .str, .ls], .int .i64], [])), (11, (.bool, [])), (12, (.bool, [])), (13, (.tup [.agg [.int .i64, .ls, .ls, .int .i64, .str, .str, .ls], .agg [.int .i64, .int .i64], .int .i64], [])), (14, (.tup [.agg [.int .i64, .int .i64], .int .i64], [])), (15, (.agg [.int .i64, .str, .int .i64, .int .i64], [])), (16, (.agg [.int .i64, .str, .int .i64, .int .i64], [.box [.ls, .int .i64, .ls, .bool]])), (17, (.int .i64, [.box [.ls, .int .i64, .ls, .bool]])), (18, (.bool, []))], [], [(87, [.ls, .int .i64, .ls, .bool]), (98, [.ls, .int .i64, .ls, .bool]), (110, [.int .i64]), (112, [.int .i64]), (130, [.int .i64]), (132, [.int .i64]), (136, [.int .i64, .ls, .ls, .int .i64, .str, .str, .ls]), (137, [.int .i64, .ls, .ls, .int .i64, .str, .str, .ls]), (159, [.ls, .int .i64, .ls, .bool]), (171, [.int .i64, .int .i64]), (172, [.int .i64, .int .i64]), (179, [.int .i64, .ls, .ls, .int .i64, .str, .str, .ls]), (180, [.int .i64, .ls, .ls, .int .i64, .str, .str, .ls]), (186, [.ls, .int .i64, .ls, .bool]), (192, [.str]), (199, [.int .i64]), (205, [.str]), (208, [.ls, .int .i64, .ls, .bool]), (210, [.str])]⟩
noncomputable def tabLa : List (Nat × MFn) := [(3, mf3)]
theorem e3 (A : Ar) (D : Orc) (x0 : ByteArray) (x1 : Int) (x2 : List (List AV)) (x3 : Bool) : fnK A D ownC hn3 .n 3 mf3 [sv x0, iv x1, AV.ls x2, bv x3] [] =
  askK D (Key.fn 4) [] [] fun r o =>
  unBool r fun b =>
  unEnd o <|
  br b
   (br (A.lt 2000 ↑(A.slen x0))
    (some ((bv true, [])))
    (br (A.lt 100 ↑(lenR x2))
     (some ((bv true, [])))
     (askK D (Key.fn 5) [sv x0] [] fun r1 o1 =>
     unTup r1 fun cs =>
     cLs cs fun xs l =>
     unCons l fun c l1 =>
     unAgg c fun cs1 =>
     cInt IntKind.i64 cs1 fun _ l2 =>
     cInt IntKind.i64 l2 fun _ l3 =>
     unNil l3 <|
     cInt IntKind.i64 l1 fun n2 l4 =>
     unNil l4 <|
     unEnd o1 <|
     askK D (Key.fn 6) [sv x0] [] fun r2 o2 =>
     unTup r2 fun cs2 =>
     cLs cs2 fun xs1 l5 =>
     unCons l5 fun c1 l6 =>
     unAgg c1 fun cs3 =>
     cInt IntKind.i64 cs3 fun _ l7 =>
     cInt IntKind.i64 l7 fun _ l8 =>
     unNil l8 <|
     cInt IntKind.i64 l6 fun n5 l9 =>
     unNil l9 <|
     unEnd o2 <|
     br (A.eq n2 n5)
      (askK D (Key.fn 7) [AV.ptr 0 0] [ABlk.mk [AV.ls xs, iv (A.bits BinOp.and IntKind.i64 x1 4095), AV.ls x2, bv x3] true false] fun r3 o3 =>
      unTup r3 fun cs4 =>
      cLs cs4 fun xs2 l10 =>
      cInt IntKind.i64 l10 fun n6 l11 =>
      unNil l11 <|
      unOut o3 fun c2 l12 =>
      unSet true false c2 fun cs5 =>
      cLs cs5 fun _ l13 =>
      cInt IntKind.i64 l13 fun n7 l14 =>
      cLs l14 fun _ l15 =>
      cBool l15 fun _ l16 =>
      unNil l16 <|
      unEnd l12 <|
      askK D (Key.fn 8) [AV.agg [AV.ls xs1, iv (A.bits BinOp.and IntKind.i64 x1 4095), AV.ls x2, bv x3]] [] fun r4 o4 =>
      unTup r4 fun cs6 =>
      unCons cs6 fun c3 l17 =>
      unAgg c3 fun cs7 =>
      cLs cs7 fun _ l18 =>
      cInt IntKind.i64 l18 fun n8 l19 =>
      cLs l19 fun _ l20 =>
      cBool l20 fun _ l21 =>
      unNil l21 <|
      cLs l17 fun xs7 l22 =>
      cInt IntKind.i64 l22 fun n9 l23 =>
      unNil l23 <|
      unEnd o4 <|
      askK D (Key.fn 9) [AV.ptr 0 0] [ABlk.mk [AV.ls xs, iv (A.bits BinOp.and IntKind.i64 x1 4095), AV.ls x2, bv x3] true false] fun r5 o5 =>
      unTup r5 fun cs8 =>
      unCons cs8 fun c4 l24 =>
      unAgg c4 fun cs9 =>
      cInt IntKind.i64 cs9 fun n10 l25 =>
      cLs l25 fun xs8 l26 =>
      cLs l26 fun xs9 l27 =>
      cInt IntKind.i64 l27 fun n11 l28 =>
      cStr l28 fun s l29 =>
      cStr l29 fun s1 l30 =>
      cLs l30 fun xs10 l31 =>
      unNil l31 <|
      cInt IntKind.i64 l24 fun n12 l32 =>
      unNil l32 <|
      unOut o5 fun c5 l33 =>
      unSet true false c5 fun cs10 =>
      cLs cs10 fun xs11 l34 =>
      cInt IntKind.i64 l34 fun n13 l35 =>
      cLs l35 fun xs12 l36 =>
      cBool l36 fun b3 l37 =>
      unNil l37 <|
      unEnd l33 <|
      askK D (Key.fn 10) [AV.agg [AV.ls xs1, iv (A.bits BinOp.and IntKind.i64 x1 4095), AV.ls x2, bv x3], iv 0] [] fun r6 o6 =>
      unTup r6 fun cs11 =>
      unCons cs11 fun c6 l38 =>
      unAgg c6 fun cs12 =>
      cLs cs12 fun xs13 l39 =>
      cInt IntKind.i64 l39 fun n14 l40 =>
      cLs l40 fun xs14 l41 =>
      cBool l41 fun b4 l42 =>
      unNil l42 <|
      unCons l38 fun c7 l43 =>
      unAgg c7 fun cs13 =>
      cInt IntKind.i64 cs13 fun n15 l44 =>
      cLs l44 fun xs15 l45 =>
      cLs l45 fun xs16 l46 =>
      cInt IntKind.i64 l46 fun n16 l47 =>
      cStr l47 fun s2 l48 =>
      cStr l48 fun s3 l49 =>
      cLs l49 fun xs17 l50 =>
      unNil l50 <|
      cInt IntKind.i64 l43 fun n17 l51 =>
      unNil l51 <|
      unEnd o6 <|
      br (A.eq n6 n9)
       (br (A.eq n7 n8)
        (askK D (Key.fn 11) [AV.ls xs2, AV.ls xs7] [] fun r7 o7 =>
        unBool r7 fun b5 =>
        unEnd o7 <|
        br b5
         (br (A.eq n12 n17)
          (br (A.eq n13 n14)
           (askK D (Key.fn 12) [AV.agg [iv n10, AV.ls xs8, AV.ls xs9, iv n11, sv s, sv s1, AV.ls xs10], AV.agg [iv n15, AV.ls xs15, AV.ls xs16, iv n16, sv s2, sv s3, AV.ls xs17]] [] fun r8 o8 =>
           unBool r8 fun b6 =>
           unEnd o8 <|
           br b6
            (askK D (Key.fn 13) [sv x0, AV.ls x2, bv x3, AV.fn (Fn.func 9) [] []] [] fun r9 o9 =>
            unTup r9 fun cs14 =>
            unCons cs14 fun c8 l52 =>
            unAgg c8 fun cs15 =>
            cInt IntKind.i64 cs15 fun n18 l53 =>
            cLs l53 fun xs18 l54 =>
            cLs l54 fun xs19 l55 =>
            cInt IntKind.i64 l55 fun n19 l56 =>
            cStr l56 fun s4 l57 =>
            cStr l57 fun s5 l58 =>
            cLs l58 fun xs20 l59 =>
            unNil l59 <|
            unCons l52 fun c9 l60 =>
            unAgg c9 fun cs16 =>
            cInt IntKind.i64 cs16 fun n20 l61 =>
            cInt IntKind.i64 l61 fun n21 l62 =>
            unNil l62 <|
            cInt IntKind.i64 l60 fun n22 l63 =>
            unNil l63 <|
            unEnd o9 <|
            askK D (Key.fn 10) [AV.agg [AV.ls xs1, iv 0, AV.ls x2, bv x3], iv 0] [] fun r10 o10 =>
            unTup r10 fun cs17 =>
            unCons cs17 fun c10 l64 =>
            unAgg c10 fun cs18 =>
            cLs cs18 fun xs21 l65 =>
            cInt IntKind.i64 l65 fun n23 l66 =>
            cLs l66 fun xs22 l67 =>
            cBool l67 fun b7 l68 =>
            unNil l68 <|
            unCons l64 fun c11 l69 =>
            unAgg c11 fun cs19 =>
            cInt IntKind.i64 cs19 fun n24 l70 =>
            cLs l70 fun xs23 l71 =>
            cLs l71 fun xs24 l72 =>
            cInt IntKind.i64 l72 fun n25 l73 =>
            cStr l73 fun s6 l74 =>
            cStr l74 fun s7 l75 =>
            cLs l75 fun xs25 l76 =>
            unNil l76 <|
            cInt IntKind.i64 l69 fun n26 l77 =>
            unNil l77 <|
            unEnd o10 <|
            askK D (Key.fn 14) [AV.agg [AV.ls xs21, iv n23, AV.ls xs22, bv b7], iv n26] [] fun r11 o11 =>
            unTup r11 fun cs20 =>
            unCons cs20 fun c12 l78 =>
            unAgg c12 fun cs21 =>
            cInt IntKind.i64 cs21 fun n27 l79 =>
            cInt IntKind.i64 l79 fun n28 l80 =>
            unNil l80 <|
            cInt IntKind.i64 l78 fun n29 l81 =>
            unNil l81 <|
            unEnd o11 <|
            br (A.eq n2 0)
             (br (A.eq n22 n29)
              (br (A.not (A.band (A.eq n20 n27) (A.band (A.eq n21 n28) true)))
               (some ((bv false, [])))
               (br (A.eq n29 0)
                (askK D (Key.fn 12) [AV.agg [iv n18, AV.ls xs18, AV.ls xs19, iv n19, sv s4, sv s5, AV.ls xs20], AV.agg [iv n24, AV.ls xs23, AV.ls xs24, iv n25, sv s6, sv s7, AV.ls xs25]] [] fun r12 o12 =>
                unBool r12 fun b8 =>
                unEnd o12 <|
                br b8
                 (askK D (Key.fn 15) [AV.agg [AV.ls xs13, iv n14, AV.ls xs14, bv b4]] [] fun r13 o13 =>
                 unAgg r13 fun cs22 =>
                 cInt IntKind.i64 cs22 fun n30 l82 =>
                 cStr l82 fun s8 l83 =>
                 cInt IntKind.i64 l83 fun _ l84 =>
                 cInt IntKind.i64 l84 fun _ l85 =>
                 unNil l85 <|
                 unEnd o13 <|
                 askK D (Key.fn 16) [AV.ptr 0 0] [ABlk.mk [AV.ls xs11, iv n13, AV.ls xs12, bv b3] true false] fun r14 o14 =>
                 unAgg r14 fun cs23 =>
                 cInt IntKind.i64 cs23 fun _ l86 =>
                 cStr l86 fun s9 l87 =>
                 cInt IntKind.i64 l87 fun _ l88 =>
                 cInt IntKind.i64 l88 fun _ l89 =>
                 unNil l89 <|
                 unOut o14 fun c13 l90 =>
                 unSet true false c13 fun cs24 =>
                 cLs cs24 fun xs26 l91 =>
                 cInt IntKind.i64 l91 fun n36 l92 =>
                 cLs l92 fun xs27 l93 =>
                 cBool l93 fun b9 l94 =>
                 unNil l94 <|
                 unEnd l90 <|
                 br (A.seq s9 s8)
                  (askK D (Key.fn 16) [AV.ptr 0 0] [ABlk.mk [AV.ls xs26, iv n36, AV.ls xs27, bv b9] true false] fun r15 o15 =>
                  unAgg r15 fun cs25 =>
                  cInt IntKind.i64 cs25 fun n37 l95 =>
                  cStr l95 fun _ l96 =>
                  cInt IntKind.i64 l96 fun _ l97 =>
                  cInt IntKind.i64 l97 fun _ l98 =>
                  unNil l98 <|
                  unOut o15 fun c14 l99 =>
                  unSet true false c14 fun cs26 =>
                  cLs cs26 fun xs28 l100 =>
                  cInt IntKind.i64 l100 fun n40 l101 =>
                  cLs l101 fun xs29 l102 =>
                  cBool l102 fun b10 l103 =>
                  unNil l103 <|
                  unEnd l99 <|
                  br (A.eq n37 n30)
                   (askK D (Key.fn 17) [AV.ptr 0 0, sv s8] [ABlk.mk [AV.ls xs28, iv n40, AV.ls xs29, bv b10] true false] fun r16 o16 =>
                   unInt IntKind.i64 r16 fun n41 =>
                   unOut o16 fun c15 l104 =>
                   unSet true false c15 fun cs27 =>
                   cLs cs27 fun _ l105 =>
                   cInt IntKind.i64 l105 fun _ l106 =>
                   cLs l106 fun _ l107 =>
                   cBool l107 fun _ l108 =>
                   unNil l108 <|
                   unEnd l104 <|
                   br (A.eq n41 0)
                    (askK D (Key.fn 18) [AV.agg [AV.ls xs13, iv n14, AV.ls xs14, bv b4], sv s8] [] fun r17 o17 =>
                    unBool r17 fun b12 =>
                    unEnd o17 <|
                    br b12
                     (br (A.beq true true)
                      (some ((bv true, [])))
                      (some ((bv false, []))))
                     (br (A.beq true false)
                      (some ((bv true, [])))
                      (some ((bv false, [])))))
                    (askK D (Key.fn 18) [AV.agg [AV.ls xs13, iv n14, AV.ls xs14, bv b4], sv s8] [] fun r17 o17 =>
                    unBool r17 fun b12 =>
                    unEnd o17 <|
                    br b12
                     (br (A.beq false true)
                      (some ((bv true, [])))
                      (some ((bv false, []))))
                     (br (A.beq false false)
                      (some ((bv true, [])))
                      (some ((bv false, []))))))
                   (some ((bv false, []))))
                  (some ((bv false, []))))
                 (some ((bv false, []))))
                (askK D (Key.fn 15) [AV.agg [AV.ls xs13, iv n14, AV.ls xs14, bv b4]] [] fun r12 o12 =>
                unAgg r12 fun cs22 =>
                cInt IntKind.i64 cs22 fun n30 l82 =>
                cStr l82 fun s8 l83 =>
                cInt IntKind.i64 l83 fun _ l84 =>
                cInt IntKind.i64 l84 fun _ l85 =>
                unNil l85 <|
                unEnd o12 <|
                askK D (Key.fn 16) [AV.ptr 0 0] [ABlk.mk [AV.ls xs11, iv n13, AV.ls xs12, bv b3] true false] fun r13 o13 =>
                unAgg r13 fun cs23 =>
                cInt IntKind.i64 cs23 fun _ l86 =>
                cStr l86 fun s9 l87 =>
                cInt IntKind.i64 l87 fun _ l88 =>
                cInt IntKind.i64 l88 fun _ l89 =>
                unNil l89 <|
                unOut o13 fun c13 l90 =>
                unSet true false c13 fun cs24 =>
                cLs cs24 fun xs26 l91 =>
                cInt IntKind.i64 l91 fun n36 l92 =>
                cLs l92 fun xs27 l93 =>
                cBool l93 fun b8 l94 =>
                unNil l94 <|
                unEnd l90 <|
                br (A.seq s9 s8)
                 (askK D (Key.fn 16) [AV.ptr 0 0] [ABlk.mk [AV.ls xs26, iv n36, AV.ls xs27, bv b8] true false] fun r14 o14 =>
                 unAgg r14 fun cs25 =>
                 cInt IntKind.i64 cs25 fun n37 l95 =>
                 cStr l95 fun _ l96 =>
                 cInt IntKind.i64 l96 fun _ l97 =>
                 cInt IntKind.i64 l97 fun _ l98 =>
                 unNil l98 <|
                 unOut o14 fun c14 l99 =>
                 unSet true false c14 fun cs26 =>
                 cLs cs26 fun xs28 l100 =>
                 cInt IntKind.i64 l100 fun n40 l101 =>
                 cLs l101 fun xs29 l102 =>
                 cBool l102 fun b9 l103 =>
                 unNil l103 <|
                 unEnd l99 <|
                 br (A.eq n37 n30)
                  (askK D (Key.fn 17) [AV.ptr 0 0, sv s8] [ABlk.mk [AV.ls xs28, iv n40, AV.ls xs29, bv b9] true false] fun r15 o15 =>
                  unInt IntKind.i64 r15 fun n41 =>
                  unOut o15 fun c15 l104 =>
                  unSet true false c15 fun cs27 =>
                  cLs cs27 fun _ l105 =>
                  cInt IntKind.i64 l105 fun _ l106 =>
                  cLs l106 fun _ l107 =>
                  cBool l107 fun _ l108 =>
                  unNil l108 <|
                  unEnd l104 <|
                  br (A.eq n41 0)
                   (askK D (Key.fn 18) [AV.agg [AV.ls xs13, iv n14, AV.ls xs14, bv b4], sv s8] [] fun r16 o16 =>
                   unBool r16 fun b11 =>
                   unEnd o16 <|
                   br b11
                    (br (A.beq true true)
                     (some ((bv true, [])))
                     (some ((bv false, []))))
                    (br (A.beq true false)
                     (some ((bv true, [])))
                     (some ((bv false, [])))))
                   (askK D (Key.fn 18) [AV.agg [AV.ls xs13, iv n14, AV.ls xs14, bv b4], sv s8] [] fun r16 o16 =>
                   unBool r16 fun b11 =>
                   unEnd o16 <|
                   br b11
                    (br (A.beq false true)
                     (some ((bv true, [])))
                     (some ((bv false, []))))
                    (br (A.beq false false)
                     (some ((bv true, [])))
                     (some ((bv false, []))))))
                  (some ((bv false, []))))
                 (some ((bv false, []))))))
              (some ((bv false, []))))
             (askK D (Key.fn 15) [AV.agg [AV.ls xs13, iv n14, AV.ls xs14, bv b4]] [] fun r12 o12 =>
             unAgg r12 fun cs22 =>
             cInt IntKind.i64 cs22 fun n30 l82 =>
             cStr l82 fun s8 l83 =>
             cInt IntKind.i64 l83 fun _ l84 =>
             cInt IntKind.i64 l84 fun _ l85 =>
             unNil l85 <|
             unEnd o12 <|
             askK D (Key.fn 16) [AV.ptr 0 0] [ABlk.mk [AV.ls xs11, iv n13, AV.ls xs12, bv b3] true false] fun r13 o13 =>
             unAgg r13 fun cs23 =>
             cInt IntKind.i64 cs23 fun _ l86 =>
             cStr l86 fun s9 l87 =>
             cInt IntKind.i64 l87 fun _ l88 =>
             cInt IntKind.i64 l88 fun _ l89 =>
             unNil l89 <|
             unOut o13 fun c13 l90 =>
             unSet true false c13 fun cs24 =>
             cLs cs24 fun xs26 l91 =>
             cInt IntKind.i64 l91 fun n36 l92 =>
             cLs l92 fun xs27 l93 =>
             cBool l93 fun b8 l94 =>
             unNil l94 <|
             unEnd l90 <|
             br (A.seq s9 s8)
              (askK D (Key.fn 16) [AV.ptr 0 0] [ABlk.mk [AV.ls xs26, iv n36, AV.ls xs27, bv b8] true false] fun r14 o14 =>
              unAgg r14 fun cs25 =>
              cInt IntKind.i64 cs25 fun n37 l95 =>
              cStr l95 fun _ l96 =>
              cInt IntKind.i64 l96 fun _ l97 =>
              cInt IntKind.i64 l97 fun _ l98 =>
              unNil l98 <|
              unOut o14 fun c14 l99 =>
              unSet true false c14 fun cs26 =>
              cLs cs26 fun xs28 l100 =>
              cInt IntKind.i64 l100 fun n40 l101 =>
              cLs l101 fun xs29 l102 =>
              cBool l102 fun b9 l103 =>
              unNil l103 <|
              unEnd l99 <|
              br (A.eq n37 n30)
               (askK D (Key.fn 17) [AV.ptr 0 0, sv s8] [ABlk.mk [AV.ls xs28, iv n40, AV.ls xs29, bv b9] true false] fun r15 o15 =>
               unInt IntKind.i64 r15 fun n41 =>
               unOut o15 fun c15 l104 =>
               unSet true false c15 fun cs27 =>
               cLs cs27 fun _ l105 =>
               cInt IntKind.i64 l105 fun _ l106 =>
               cLs l106 fun _ l107 =>
               cBool l107 fun _ l108 =>
               unNil l108 <|
               unEnd l104 <|
               br (A.eq n41 0)
                (askK D (Key.fn 18) [AV.agg [AV.ls xs13, iv n14, AV.ls xs14, bv b4], sv s8] [] fun r16 o16 =>
                unBool r16 fun b11 =>
                unEnd o16 <|
                br b11
                 (br (A.beq true true)
                  (some ((bv true, [])))
                  (some ((bv false, []))))
                 (br (A.beq true false)
                  (some ((bv true, [])))
                  (some ((bv false, [])))))
                (askK D (Key.fn 18) [AV.agg [AV.ls xs13, iv n14, AV.ls xs14, bv b4], sv s8] [] fun r16 o16 =>
                unBool r16 fun b11 =>
                unEnd o16 <|
                br b11
                 (br (A.beq false true)
                  (some ((bv true, [])))
                  (some ((bv false, []))))
                 (br (A.beq false false)
                  (some ((bv true, [])))
                  (some ((bv false, []))))))
               (some ((bv false, []))))
              (some ((bv false, [])))))
            (some ((bv false, []))))
           (some ((bv false, []))))
          (some ((bv false, []))))
         (some ((bv false, []))))
        (some ((bv false, []))))
       (some ((bv false, []))))
      (some ((bv false, []))))))
   (some ((bv false, []))) := by kernel_rfl
end Go.Proofs.Ytlmhajfbpplpoaa
