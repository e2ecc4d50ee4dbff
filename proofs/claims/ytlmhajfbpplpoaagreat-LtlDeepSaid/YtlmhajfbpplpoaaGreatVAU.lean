/-
  How far a cursor comes. No program in sight.
  Functions of the program as trees: what a call comes to.
  What the cursor's small functions come to.
  Functions of the program as trees: what a call comes to.
  What the reference's small functions over a tape come to.
  What the cursor's sums come to.
  Functions of the program as trees: what a call comes to.
  What the cursor's conditions come to.
  What the cursor's jobs come to.
  What the reference's sums come to.
  What the reference's comparisons come to.
  What the reference's conditions come to.
  Sums and conditions from any place on, behind the end too: the cursor's and the reference's.
  Functions of the program as trees: what a call comes to.
  A sum is the same as itself, and so is a tree; which trees come out of a text.
  Sums as texts; right sums. No program in sight.
  What right sums and a summand's text come to.
  The contracts of the library functions that lex calls, laid by the kit's own tools (lay-shelf, lay-plain) over this seat's numbers.
  A block of the call's own, known whole; boxes that a region of open order lays and fills. No program in sight.
  strings.Builder's methods copyCheck and WriteString over this seat's program.
  Small whole numbers as floats: adding 1, adding 0, and back to an integer are exact. No program in sight.
  A region that draws its order, in which boxes are laid beside calls: the boxes are struck from the walk; ahead of each operation the world may have gone on. No program in sight.
  A region that draws its order and whose operations each yield one value in whatever later world: one walk. No program in sight.
-/
import Derived.Test.YtlmhajfbpplpoaaGreatVAQ
import Derived.Test.YtlmhajfbpplpoaaGreatVAS
import Derived.Shelf.Strings.Builder1
import Derived.Shelf.Small.Strs
import Derived.Shelf.Strings.Search1
import Derived.Shelf.Strings.Prefix
import Derived.Shelf.Slices.Turned
import Derived.Ground.Names2Prog
import Derived.Shelf.Slices.SearchI
import Derived.Test.YtlmhajfbpplpoaaGreatProg
import Derived.WalkKit
import Derived.WalkSpells
import Derived.WalkLawsBesides
import Derived.Deep.Draws
import Derived.Lib.Hide
import Derived.Laws.ComplexArith
import Derived.Test.YtlmhajfbpplpoaaGreatVAA
import Derived.OrdersHeld
import Derived.StillTail
import Derived.Deep.QuietTactic
import Derived.BigQuiet
set_option linter.unusedSectionVars false
set_option linter.unusedSimpArgs false
set_option linter.unusedVariables false
namespace Go.Proofs.YtlmhajfbpplpoaaGreat
open Go.RowKit

structure Toks (ts : List Tk) : Prop where
 len : ts.length + 300 < 4611686018427387904
 short : ∀ i, (nx ts i).text.length < 4611686018427387904
 fin : (ts.getLastD ⟨5, [], 0, 0⟩).kind = 5
theorem Toks.past {ts : List Tk} (H : Toks ts) {i : Nat} (h : ts.length ≤ i) : (nx ts i).kind = 5 := by
 unfold nx
 rw [List.getElem?_eq_none h]
 exact H.fin
theorem Toks.isT {ts : List Tk} (H : Toks ts) {i : Nat} {s : List UInt8} (h : isT ts i s = true) : i < ts.length := by
 by_cases hi : i < ts.length
 ·exact hi
 ·unfold Go.Proofs.YtlmhajfbpplpoaaGreat.isT at h
  rw [H.past (by omega)] at h
  simp at h
theorem Toks.isN {ts : List Tk} (H : Toks ts) {i : Nat} (h : isN ts i = true) : i < ts.length := by
 by_cases hi : i < ts.length
 ·exact hi
 ·unfold Go.Proofs.YtlmhajfbpplpoaaGreat.isN at h
  rw [H.past (by omega)] at h
  simp at h
theorem Toks.num {ts : List Tk} (H : Toks ts) {i : Nat} (h : (nx ts i).kind = 3) : i < ts.length := by
 by_cases hi : i < ts.length
 ·exact hi
 ·rw [H.past (by omega)] at h
  simp at h
structure Far (ts : List Tk) (i j e : Nat) : Prop where
 ge : i ≤ j
 le : j ≤ ts.length
 gt : e = 0 → i < j
theorem Far.trans {ts : List Tk} {i j e k e2 : Nat} (h : Far ts i j e) (h2 : Far ts j k e2) : Far ts i k e2 := ⟨by have := h.ge; have := h2.ge; omega, h2.le, fun he => by have := h.ge; have := h2.gt he; omega⟩
section
variable {ts : List Tk} (H : Toks ts) (vars : List ByteArray) (kn : Bool)
include H
theorem varP_far {i : Nat} (hi : i ≤ ts.length) : Far ts i (varP ts vars kn i).1 (varP ts vars kn i).2.1 := by
 unfold varP
 cases h : isN ts i with
 | false => rw [if_pos rfl]; exact ⟨Nat.le_refl _, hi, fun h => absurd h (by simp)⟩
 | true =>
  have := H.isN h
  rw [if_neg (by simp)]
  split
  ·exact ⟨Nat.le_refl _, hi, fun h => absurd h (by simp)⟩
  ·exact ⟨Nat.le_succ _, this, fun _ => Nat.lt_succ_self _⟩
theorem monoP_far {i : Nat} (hi : i ≤ ts.length) (neg : Bool) : Far ts i (monoP ts vars kn i neg).1 (monoP ts vars kn i neg).2.1 := by
 unfold monoP
 split
 ·rename_i h3
  have := H.num h3
  cases h : isT ts (i + 1) [42] with
  | true =>
   have h1 := H.isT h
   have h2 := varP_far H vars kn (show i + 2 ≤ ts.length by omega)
   rw [if_pos rfl]
   exact ⟨by have := h2.ge; simp only; omega, h2.le, fun _ => by have := h2.ge; simp only; omega⟩
  | false =>
   rw [if_neg (by simp)]
   exact ⟨Nat.le_succ _, this, fun _ => Nat.lt_succ_self _⟩
 ·exact varP_far H vars kn hi
theorem sumL_far : ∀ (k : Nat) (out : List Mo) (neg : Bool) (i : Nat), i ≤ ts.length → Far ts i (sumL ts vars kn k out neg i).1 (sumL ts vars kn k out neg i).2.1 := by
 intro k
 induction k with
 | zero =>
  intro out neg i hi
  unfold sumL
  split
  ·exact ⟨Nat.le_refl _, hi, fun h => absurd h (by simp)⟩
  ·exact ⟨Nat.le_refl _, hi, fun h => absurd h (by simp)⟩
 | succ k ih =>
  intro out neg i hi
  unfold sumL
  dsimp only
  have m := monoP_far H vars kn hi neg
  split
  ·exact ⟨Nat.le_refl _, hi, fun h => absurd h (by simp)⟩
  ·split
   ·exact m
   ·split
    ·rename_i h
     have h1 := H.isT h
     have m2 := ih (out ++ [(monoP ts vars kn i neg).2.2]) true ((monoP ts vars kn i neg).1 + 1) (by omega)
     exact ⟨by have := m.ge; have := m2.ge; omega, m2.le, fun he => by have := m.ge; have := m2.gt he; omega⟩
    ·split
     ·rename_i h
      have h1 := H.isT h
      have m2 := ih (out ++ [(monoP ts vars kn i neg).2.2]) false ((monoP ts vars kn i neg).1 + 1) (by omega)
      exact ⟨by have := m.ge; have := m2.ge; omega, m2.le, fun he => by have := m.ge; have := m2.gt he; omega⟩
     ·rename_i h _ _
      exact ⟨m.ge, m.le, fun _ => m.gt (by simpa using h)⟩
theorem sumP_far {i : Nat} (hi : i ≤ ts.length) : Far ts i (sumP ts vars kn i).1 (sumP ts vars kn i).2.1 := by
 unfold sumP
 split
 ·rename_i h
  have h1 := H.isT h
  have m2 := sumL_far H vars kn 64 [] true (i + 1) (by omega)
  exact ⟨by have := m2.ge; omega, m2.le, fun he => by have := m2.gt he; omega⟩
 ·exact sumL_far H vars kn 64 [] false i hi
theorem opP_far {i op : Nat} (h : opP ts i = some op) : i < ts.length := by
 unfold opP at h
 obtain ⟨h1, h2, _⟩ := List.findIdx?_eq_some_iff_getElem.1 h
 exact H.isT h2
theorem cmpP_far {i : Nat} (hi : i ≤ ts.length) : Far ts i (cmpP ts vars kn i).1 (cmpP ts vars kn i).2.1 := by
 unfold cmpP
 have m := sumP_far H vars kn hi
 split
 ·exact m
 ·rename_i h0
  have h0 : (sumP ts vars kn i).2.1 = 0 := by simpa using h0
  rw [h0] at m
  split
  ·exact ⟨m.ge, m.le, fun h => absurd h (by simp)⟩
  ·rename_i op h
   have h1 := opP_far H h
   have m2 := sumP_far H vars kn (show (sumP ts vars kn i).1 + 1 ≤ ts.length by omega)
   have h2 := m.gt rfl
   have h3 := m2.ge
   split
   ·exact ⟨by simp only; omega, m2.le, fun _ => by simp only; omega⟩
   ·exact ⟨by simp only; omega, m2.le, fun _ => by simp only; omega⟩
end
end Go.Proofs.YtlmhajfbpplpoaaGreat
namespace Go.Proofs.YtlmhajfbpplpoaaGreat
open Go.RowKit
def hs92 : Hints := []
noncomputable def mf92 : MFn := mfD Tryz.prog entsC hs92 false true 92
def hn92 : Hnt := ⟨[], [], [(7, [.ls]), (15, [.ls]), (19, [.int .i64]), (24, [.int .i64, .str, .int .i64, .int .i64]), (25, [.int .i64, .str, .int .i64, .int .i64])]⟩
def hs96 : Hints := []
noncomputable def mf96 : MFn := mfD Tryz.prog entsC hs96 false true 96
def hn96 : Hnt := ⟨[(92, (.agg [.int .i64, .str, .int .i64, .int .i64], [.box [.ls, .int .i64, .ls, .bool]]))], [], [(9, [.str]), (14, [.int .i64]), (18, [.int .i64]), (23, [.int .i64])]⟩
def hs93 : Hints := []
noncomputable def mf93 : MFn := mfD Tryz.prog entsC hs93 false true 93
def hn93 : Hnt := ⟨[(96, (.bool, [.box [.ls, .int .i64, .ls, .bool]]))], [], [(13, [.int .i64])]⟩
def hs248 : Hints := []
noncomputable def mf248 : MFn := mfD Tryz.prog entsC hs248 false true 248
def hn248 : Hnt := ⟨[(93, (.bool, [.box [.ls, .int .i64, .ls, .bool]]))], [], []⟩
def hs162 : Hints := []
noncomputable def mf162 : MFn := mfD Tryz.prog entsC hs162 false true 162
def hn162 : Hnt := ⟨[(92, (.agg [.int .i64, .str, .int .i64, .int .i64], [.box [.ls, .int .i64, .ls, .bool]])), (109, (.bool, []))], [], [(7, [.int .i64]), (11, [.str])]⟩
def hs163 : Hints := []
noncomputable def mf163 : MFn := mfD Tryz.prog entsC hs163 false true 163
def hn163 : Hnt := ⟨[(92, (.agg [.int .i64, .str, .int .i64, .int .i64], [.box [.ls, .int .i64, .ls, .bool]])), (162, (.bool, [.box [.ls, .int .i64, .ls, .bool]])), (219, (.bool, []))], [], [(15, [.bool]), (20, [.ls]), (22, [.str]), (29, [.int .i64]), (34, [.str])]⟩
def hs95 : Hints := []
noncomputable def mf95 : MFn := mfD Tryz.prog entsC hs95 false true 95
def hn95 : Hnt := ⟨[(92, (.agg [.int .i64, .str, .int .i64, .int .i64], [.box [.ls, .int .i64, .ls, .bool]])), (93, (.bool, [.box [.ls, .int .i64, .ls, .bool]])), (163, (.tup [.str, .int .i64], [.box [.ls, .int .i64, .ls, .bool]]))], [], [(14, [.int .i64]), (17, [.str]), (22, [.int .i64]), (29, [.bool, .str, .str]), (36, [.bool, .str, .str])]⟩
def hs94 : Hints := []
noncomputable def mf94 : MFn := mfD Tryz.prog entsC hs94 false true 94
def hn94 : Hnt := ⟨[(92, (.agg [.int .i64, .str, .int .i64, .int .i64], [.box [.ls, .int .i64, .ls, .bool]])), (162, (.bool, [.box [.ls, .int .i64, .ls, .bool]]))], [], []⟩
def hs49 : Hints := [⟨41, [true, false, false, false, true, true], [(4, 3)], [], [(0, ([true, false, true, true], ([2], [4])))]⟩]
noncomputable def mf49 : MFn := mfD Tryz.prog entsC hs49 false true 49
def hn49 : Hnt := ⟨[(93, (.bool, [.box [.ls, .int .i64, .ls, .bool]])), (94, (.bool, [.box [.ls, .int .i64, .ls, .bool]])), (95, (.tup [.agg [.bool, .str, .str], .int .i64], [.box [.ls, .int .i64, .ls, .bool]])), (96, (.bool, [.box [.ls, .int .i64, .ls, .bool]]))], [(0, [(0, ([.ptr 0 0, .ls, .int .i64], [.box [.ls, .int .i64, .ls, .bool], .del]))])], [(27, [.bool, .str, .str])]⟩
def hs90 : Hints := []
noncomputable def mf90 : MFn := mfD Tryz.prog entsC hs90 false false 90
def hn90 : Hnt := ⟨[], [], []⟩
def hs88 : Hints := [⟨19, [true, true, false, false, false, false, false, true, true], [], [], [(0, ([false, false, false, false, true], ([], []))), (1, ([], ([], [])))]⟩]
noncomputable def mf88 : MFn := mfD Tryz.prog entsC hs88 false false 88
def hn88 : Hnt := ⟨[], [(0, [(0, ([.int .i64], [])), (1, ([], []))])], [(14, [.str]), (15, [.str])]⟩
def hs219 : Hints := []
noncomputable def mf219 : MFn := mfD Tryz.prog entsC hs219 false false 219
def hn219 : Hnt := ⟨[(88, (.int .i64, []))], [], []⟩
noncomputable def tabEa : List (Nat × MFn) := [(92, mf92), (96, mf96), (93, mf93), (248, mf248), (162, mf162), (163, mf163), (95, mf95), (94, mf94), (49, mf49), (90, mf90), (88, mf88), (219, mf219)]
theorem e92 (A : Ar) (D : Orc) (p0_0 : List (List AV)) (p0_1 : Int) (p0_2 : List (List AV)) (p0_3 : Bool) : fnK A D ownC hn92 .n 92 mf92 [AV.ptr 0 0] [{ cells := [AV.ls p0_0, iv p0_1, AV.ls p0_2, bv p0_3], st := true, ex := false }] =
 br (A.eq (↑(lenR p0_0)) 0)
 (some ((AV.agg [iv 5, sv (bstr []), iv 0, iv 0], [BO.set (ABlk.mk [AV.ls p0_0, iv p0_1, AV.ls p0_2, bv p0_3] true false)])))
 (unI (A.min (A.max p0_1 0) (A.sub IntKind.i64 (↑(lenR p0_0)) 1)) fun i =>
 nthK p0_0 i fun cs =>
 cInt IntKind.i64 cs fun n l =>
 cStr l fun s l1 =>
 cInt IntKind.i64 l1 fun n1 l2 =>
 cInt IntKind.i64 l2 fun n2 l3 =>
 unNil l3 <|
 some ((AV.agg [iv n, sv s, iv n1, iv n2], [BO.set (ABlk.mk [AV.ls p0_0, iv p0_1, AV.ls p0_2, bv p0_3] true false)]))) := by kernel_rfl

theorem e96 (A : Ar) (D : Orc) (p0_0 : List (List AV)) (p0_1 : Int) (p0_2 : List (List AV)) (p0_3 : Bool) (x1 : ByteArray) : fnK A D ownC hn96 .n 96 mf96 [AV.ptr 0 0, sv x1] [{ cells := [AV.ls p0_0, iv p0_1, AV.ls p0_2, bv p0_3], st := true, ex := false }] =
 askK D (Key.fn 92) [AV.ptr 0 0] [ABlk.mk [AV.ls p0_0, iv p0_1, AV.ls p0_2, bv p0_3] true false] fun r o =>
 unAgg r fun cs =>
 cInt IntKind.i64 cs fun n l =>
 cStr l fun s l1 =>
 cInt IntKind.i64 l1 fun _ l2 =>
 cInt IntKind.i64 l2 fun _ l3 =>
 unNil l3 <|
 unOut o fun c l4 =>
 unSet true false c fun cs1 =>
 cLs cs1 fun xs l5 =>
 cInt IntKind.i64 l5 fun n3 l6 =>
 cLs l6 fun xs1 l7 =>
 cBool l7 fun b l8 =>
 unNil l8 <|
 unEnd l4 <|
 br (A.seq s x1)
 (br (A.eq n 2)
 (some ((bv true, [BO.set (ABlk.mk [AV.ls xs, iv n3, AV.ls xs1, bv b] true false)])))
 (br (A.eq n 1)
 (some ((bv true, [BO.set (ABlk.mk [AV.ls xs, iv n3, AV.ls xs1, bv b] true false)])))
 (br (A.eq n 4)
 (some ((bv true, [BO.set (ABlk.mk [AV.ls xs, iv n3, AV.ls xs1, bv b] true false)])))
 (some ((bv false, [BO.set (ABlk.mk [AV.ls xs, iv n3, AV.ls xs1, bv b] true false)]))))))
 (some ((bv false, [BO.set (ABlk.mk [AV.ls xs, iv n3, AV.ls xs1, bv b] true false)]))) := by kernel_rfl

theorem e93 (A : Ar) (D : Orc) (p0_0 : List (List AV)) (p0_1 : Int) (p0_2 : List (List AV)) (p0_3 : Bool) (x1 : ByteArray) : fnK A D ownC hn93 .n 93 mf93 [AV.ptr 0 0, sv x1] [{ cells := [AV.ls p0_0, iv p0_1, AV.ls p0_2, bv p0_3], st := true, ex := false }] =
 askK D (Key.fn 96) [AV.ptr 0 0, sv x1] [ABlk.mk [AV.ls p0_0, iv p0_1, AV.ls p0_2, bv p0_3] true false] fun r o =>
 unBool r fun b =>
 unOut o fun c l =>
 unSet true false c fun cs =>
 cLs cs fun xs l1 =>
 cInt IntKind.i64 l1 fun n l2 =>
 cLs l2 fun xs1 l3 =>
 cBool l3 fun b1 l4 =>
 unNil l4 <|
 unEnd l <|
 br b
 (some ((bv true, [BO.set (ABlk.mk [AV.ls xs, iv (A.add IntKind.i64 n 1), AV.ls xs1, bv b1] true false)])))
 (some ((bv false, [BO.set (ABlk.mk [AV.ls xs, iv n, AV.ls xs1, bv b1] true false)]))) := by kernel_rfl

theorem e248 (A : Ar) (D : Orc) (p0_0 : List (List AV)) (p0_1 : Int) (p0_2 : List (List AV)) (p0_3 : Bool) (x1 : ByteArray) : fnK A D ownC hn248 .n 248 mf248 [AV.ptr 0 0, sv x1] [{ cells := [AV.ls p0_0, iv p0_1, AV.ls p0_2, bv p0_3], st := true, ex := false }] =
 askK D (Key.fn 93) [AV.ptr 0 0, sv x1] [ABlk.mk [AV.ls p0_0, iv p0_1, AV.ls p0_2, bv p0_3] true false] fun r o =>
 unBool r fun b =>
 unOut o fun c l =>
 unSet true false c fun cs =>
 cLs cs fun xs l1 =>
 cInt IntKind.i64 l1 fun n l2 =>
 cLs l2 fun xs1 l3 =>
 cBool l3 fun b1 l4 =>
 unNil l4 <|
 unEnd l <|
 br b
 (some ((iv 0, [BO.set (ABlk.mk [AV.ls xs, iv n, AV.ls xs1, bv b1] true false)])))
 (some ((iv 101, [BO.set (ABlk.mk [AV.ls xs, iv n, AV.ls xs1, bv b1] true false)]))) := by kernel_rfl

theorem e162 (A : Ar) (D : Orc) (p0_0 : List (List AV)) (p0_1 : Int) (p0_2 : List (List AV)) (p0_3 : Bool) : fnK A D ownC hn162 .n 162 mf162 [AV.ptr 0 0] [{ cells := [AV.ls p0_0, iv p0_1, AV.ls p0_2, bv p0_3], st := true, ex := false }] =
 askK D (Key.fn 92) [AV.ptr 0 0] [ABlk.mk [AV.ls p0_0, iv p0_1, AV.ls p0_2, bv p0_3] true false] fun r o =>
 unAgg r fun cs =>
 cInt IntKind.i64 cs fun n l =>
 cStr l fun s l1 =>
 cInt IntKind.i64 l1 fun _ l2 =>
 cInt IntKind.i64 l2 fun _ l3 =>
 unNil l3 <|
 unOut o fun c l4 =>
 unSet true false c fun cs1 =>
 cLs cs1 fun xs l5 =>
 cInt IntKind.i64 l5 fun n3 l6 =>
 cLs l6 fun xs1 l7 =>
 cBool l7 fun b l8 =>
 unNil l8 <|
 unEnd l4 <|
 br (A.eq n 1)
 (askK D (Key.fn 109) [sv s] [] fun r1 o1 =>
 unBool r1 fun b1 =>
 unEnd o1 <|
 br b1
 (some ((bv true, [BO.set (ABlk.mk [AV.ls xs, iv n3, AV.ls xs1, bv b] true false)])))
 (some ((bv false, [BO.set (ABlk.mk [AV.ls xs, iv n3, AV.ls xs1, bv b] true false)]))))
 (some ((bv false, [BO.set (ABlk.mk [AV.ls xs, iv n3, AV.ls xs1, bv b] true false)]))) := by kernel_rfl

theorem e163 (A : Ar) (D : Orc) (p0_0 : List (List AV)) (p0_1 : Int) (p0_2 : List (List AV)) (p0_3 : Bool) : fnK A D ownC hn163 (.b (.b .n (.b .n (.b (.t (.t (.t (.t (.t (.t (.b (.t (.b .n (.t .n))) (.t (.b (.t .n) .n))))))))) (.f (.f (.f (.f (.f (.f (.f (.f .n))))))))))) .n) 163 mf163 [AV.ptr 0 0] [{ cells := [AV.ls p0_0, iv p0_1, AV.ls p0_2, bv p0_3], st := true, ex := false }] =
 askK D (Key.fn 92) [AV.ptr 0 0] [ABlk.mk [AV.ls p0_0, iv p0_1, AV.ls p0_2, bv p0_3] true false] fun r o =>
 unAgg r fun cs =>
 cInt IntKind.i64 cs fun _ l =>
 cStr l fun s l1 =>
 cInt IntKind.i64 l1 fun _ l2 =>
 cInt IntKind.i64 l2 fun _ l3 =>
 unNil l3 <|
 unOut o fun c l4 =>
 unSet true false c fun cs1 =>
 cLs cs1 fun xs l5 =>
 cInt IntKind.i64 l5 fun n3 l6 =>
 cLs l6 fun xs1 l7 =>
 cBool l7 fun b l8 =>
 unNil l8 <|
 unEnd l4 <|
 askK D (Key.fn 162) [AV.ptr 0 0] [ABlk.mk [AV.ls xs, iv n3, AV.ls xs1, bv b] true false] fun r1 o1 =>
 unBool r1 fun b1 =>
 unOut o1 fun c1 l9 =>
 unSet true false c1 fun cs2 =>
 cLs cs2 fun xs2 l10 =>
 cInt IntKind.i64 l10 fun n4 l11 =>
 cLs l11 fun xs3 l12 =>
 cBool l12 fun b2 l13 =>
 unNil l13 <|
 unEnd l9 <|
 br b1
 (br b2
 (br b2 (br b2 (br b2 (br b2 (br b2 (br b2 (askK D (Key.fn 219) [AV.ls xs3, sv s] [] fun r2 o2 =>
 unBool r2 fun b3 =>
 unEnd o2 <|
 br b3
 (br b2 (br b2 (some ((AV.tup [sv s, iv 0], [BO.set (ABlk.mk [AV.ls xs2, iv (A.add IntKind.i64 n4 1), AV.ls xs3, bv b2] true false)]))) none) none)
 (br b2 (br b2 (some ((AV.tup [sv (bstr []), iv 110], [BO.set (ABlk.mk [AV.ls xs2, iv n4, AV.ls xs3, bv b2] true false)]))) none) none)) none) none) none) none) none) none)
 (br b2 none (br b2 none (br b2 none (br b2 none (br b2 none (br b2 none (br b2 none (br b2 none (some ((AV.tup [sv s, iv 0], [BO.set (ABlk.mk [AV.ls xs2, iv (A.add IntKind.i64 n4 1), AV.ls xs3, bv b2] true false)]))))))))))))
 (some ((AV.tup [sv (bstr []), iv 101], [BO.set (ABlk.mk [AV.ls xs2, iv n4, AV.ls xs3, bv b2] true false)]))) := by kernel_rfl

theorem e95 (A : Ar) (D : Orc) (p0_0 : List (List AV)) (p0_1 : Int) (p0_2 : List (List AV)) (p0_3 : Bool) (x1 : Bool) : fnK A D ownC hn95 .n 95 mf95 [AV.ptr 0 0, bv x1] [{ cells := [AV.ls p0_0, iv p0_1, AV.ls p0_2, bv p0_3], st := true, ex := false }] =
 askK D (Key.fn 92) [AV.ptr 0 0] [ABlk.mk [AV.ls p0_0, iv p0_1, AV.ls p0_2, bv p0_3] true false] fun r o =>
 unAgg r fun cs =>
 cInt IntKind.i64 cs fun n l =>
 cStr l fun s l1 =>
 cInt IntKind.i64 l1 fun _ l2 =>
 cInt IntKind.i64 l2 fun _ l3 =>
 unNil l3 <|
 unOut o fun c l4 =>
 unSet true false c fun cs1 =>
 cLs cs1 fun xs l5 =>
 cInt IntKind.i64 l5 fun n3 l6 =>
 cLs l6 fun xs1 l7 =>
 cBool l7 fun b l8 =>
 unNil l8 <|
 unEnd l4 <|
 br (A.eq n 3)
 (askK D (Key.fn 93) [AV.ptr 0 0, sv (bstr [42])] [ABlk.mk [AV.ls xs, iv (A.add IntKind.i64 n3 1), AV.ls xs1, bv b] true false] fun r1 o1 =>
 unBool r1 fun b1 =>
 unOut o1 fun c1 l9 =>
 unSet true false c1 fun cs2 =>
 cLs cs2 fun xs2 l10 =>
 cInt IntKind.i64 l10 fun n4 l11 =>
 cLs l11 fun xs3 l12 =>
 cBool l12 fun b2 l13 =>
 unNil l13 <|
 unEnd l9 <|
 br b1
 (askK D (Key.fn 163) [AV.ptr 0 0] [ABlk.mk [AV.ls xs2, iv n4, AV.ls xs3, bv b2] true false] fun r2 o2 =>
 unTup r2 fun cs3 =>
 cStr cs3 fun s1 l14 =>
 cInt IntKind.i64 l14 fun n5 l15 =>
 unNil l15 <|
 unOut o2 fun c2 l16 =>
 unSet true false c2 fun cs4 =>
 cLs cs4 fun xs4 l17 =>
 cInt IntKind.i64 l17 fun n6 l18 =>
 cLs l18 fun xs5 l19 =>
 cBool l19 fun b3 l20 =>
 unNil l20 <|
 unEnd l16 <|
 some ((AV.tup [AV.agg [bv x1, sv s, sv s1], iv n5], [BO.set (ABlk.mk [AV.ls xs4, iv n6, AV.ls xs5, bv b3] true false)])))
 (some ((AV.tup [AV.agg [bv x1, sv s, sv (bstr [])], iv 0], [BO.set (ABlk.mk [AV.ls xs2, iv n4, AV.ls xs3, bv b2] true false)]))))
 (askK D (Key.fn 163) [AV.ptr 0 0] [ABlk.mk [AV.ls xs, iv n3, AV.ls xs1, bv b] true false] fun r1 o1 =>
 unTup r1 fun cs2 =>
 cStr cs2 fun s1 l9 =>
 cInt IntKind.i64 l9 fun n4 l10 =>
 unNil l10 <|
 unOut o1 fun c1 l11 =>
 unSet true false c1 fun cs3 =>
 cLs cs3 fun xs2 l12 =>
 cInt IntKind.i64 l12 fun n5 l13 =>
 cLs l13 fun xs3 l14 =>
 cBool l14 fun b1 l15 =>
 unNil l15 <|
 unEnd l11 <|
 some ((AV.tup [AV.agg [bv x1, sv (bstr []), sv s1], iv n4], [BO.set (ABlk.mk [AV.ls xs2, iv n5, AV.ls xs3, bv b1] true false)]))) := by kernel_rfl

theorem e94 (A : Ar) (D : Orc) (p0_0 : List (List AV)) (p0_1 : Int) (p0_2 : List (List AV)) (p0_3 : Bool) : fnK A D ownC hn94 .n 94 mf94 [AV.ptr 0 0] [{ cells := [AV.ls p0_0, iv p0_1, AV.ls p0_2, bv p0_3], st := true, ex := false }] =
 askK D (Key.fn 92) [AV.ptr 0 0] [ABlk.mk [AV.ls p0_0, iv p0_1, AV.ls p0_2, bv p0_3] true false] fun r o =>
 unAgg r fun cs =>
 cInt IntKind.i64 cs fun n l =>
 cStr l fun _ l1 =>
 cInt IntKind.i64 l1 fun _ l2 =>
 cInt IntKind.i64 l2 fun _ l3 =>
 unNil l3 <|
 unOut o fun c l4 =>
 unSet true false c fun cs1 =>
 cLs cs1 fun xs l5 =>
 cInt IntKind.i64 l5 fun n3 l6 =>
 cLs l6 fun xs1 l7 =>
 cBool l7 fun b l8 =>
 unNil l8 <|
 unEnd l4 <|
 br (A.eq n 3)
 (some ((bv true, [BO.set (ABlk.mk [AV.ls xs, iv n3, AV.ls xs1, bv b] true false)])))
 (askK D (Key.fn 162) [AV.ptr 0 0] [ABlk.mk [AV.ls xs, iv n3, AV.ls xs1, bv b] true false] fun r1 o1 =>
 unBool r1 fun b1 =>
 unOut o1 fun c1 l9 =>
 unSet true false c1 fun cs2 =>
 cLs cs2 fun xs2 l10 =>
 cInt IntKind.i64 l10 fun n4 l11 =>
 cLs l11 fun xs3 l12 =>
 cBool l12 fun b2 l13 =>
 unNil l13 <|
 unEnd l9 <|
 br b1
 (some ((bv true, [BO.set (ABlk.mk [AV.ls xs2, iv n4, AV.ls xs3, bv b2] true false)])))
 (some ((bv false, [BO.set (ABlk.mk [AV.ls xs2, iv n4, AV.ls xs3, bv b2] true false)])))) := by kernel_rfl

theorem e49 (A : Ar) (D : Orc) (p0_0 : List (List AV)) (p0_1 : Int) (p0_2 : List (List AV)) (p0_3 : Bool) : fnK A D ownC hn49 .n 49 mf49 [AV.ptr 0 0] [{ cells := [AV.ls p0_0, iv p0_1, AV.ls p0_2, bv p0_3], st := true, ex := false }] =
 askK D (Key.fn 93) [AV.ptr 0 0, sv (bstr [45])] [ABlk.mk [AV.ls p0_0, iv p0_1, AV.ls p0_2, bv p0_3] true false] fun r o =>
 unBool r fun b =>
 unOut o fun c l =>
 unSet true false c fun cs =>
 cLs cs fun xs l1 =>
 cInt IntKind.i64 l1 fun n l2 =>
 cLs l2 fun xs1 l3 =>
 cBool l3 fun b1 l4 =>
 unNil l4 <|
 unEnd l <|
 br b
 (askK D (Key.lp 49 0) [AV.ptr 0 0, AV.sl 1 0 0 3, bv true] [ABlk.mk [AV.ls xs, iv n, AV.ls xs1, bv b1] true false, ABlk.mk [] true true] fun r1 o1 =>
 unTup r1 fun cs1 =>
 unCons cs1 fun c1 l5 =>
 br (axIs 0 c1)
 (unCons l5 fun c2 l6 =>
 unPtr 0 0 c2 <|
 cLs l6 fun xs2 l7 =>
 cInt IntKind.i64 l7 fun n1 l8 =>
 unNil l8 <|
 unOut o1 fun c3 l9 =>
 unSet true false c3 fun cs2 =>
 cLs cs2 fun xs3 l10 =>
 cInt IntKind.i64 l10 fun n2 l11 =>
 cLs l11 fun xs4 l12 =>
 cBool l12 fun b2 l13 =>
 unNil l13 <|
 unOut l9 fun c4 l14 =>
 unDel c4 <|
 unEnd l14 <|
 some ((AV.tup [AV.ls xs2, iv n1], [BO.set (ABlk.mk [AV.ls xs3, iv n2, AV.ls xs4, bv b2] true false)])))
 (none))
 (askK D (Key.lp 49 0) [AV.ptr 0 0, AV.sl 1 0 0 3, bv false] [ABlk.mk [AV.ls xs, iv n, AV.ls xs1, bv b1] true false, ABlk.mk [] true true] fun r1 o1 =>
 unTup r1 fun cs1 =>
 unCons cs1 fun c1 l5 =>
 br (axIs 0 c1)
 (unCons l5 fun c2 l6 =>
 unPtr 0 0 c2 <|
 cLs l6 fun xs2 l7 =>
 cInt IntKind.i64 l7 fun n1 l8 =>
 unNil l8 <|
 unOut o1 fun c3 l9 =>
 unSet true false c3 fun cs2 =>
 cLs cs2 fun xs3 l10 =>
 cInt IntKind.i64 l10 fun n2 l11 =>
 cLs l11 fun xs4 l12 =>
 cBool l12 fun b2 l13 =>
 unNil l13 <|
 unOut l9 fun c4 l14 =>
 unDel c4 <|
 unEnd l14 <|
 some ((AV.tup [AV.ls xs2, iv n1], [BO.set (ABlk.mk [AV.ls xs3, iv n2, AV.ls xs4, bv b2] true false)])))
 (none)) := by kernel_rfl

theorem e49_0 (A : Ar) (D : Orc) (b0_0 : List (List AV)) (b0_1 : Int) (b0_2 : List (List AV)) (b0_3 : Bool) (n4 : Nat) (c4 : List AV) (t5 : Bool) : lpK A D ownC hn49 .n 49 0 (lpAt mf49 0).fst (lpAt mf49 0).snd [AV.ptr 0 0, AV.sl 1 0 n4 3, bv t5] [{ cells := [AV.ls b0_0, iv b0_1, AV.ls b0_2, bv b0_3], st := true, ex := false }, { cells := c4, st := true, ex := true }] =
 br (A.eq (↑n4) 64)
 (askK D (Key.fn 94) [AV.ptr 0 0] [ABlk.mk [AV.ls b0_0, iv b0_1, AV.ls b0_2, bv b0_3] true false] fun r o =>
 unBool r fun b =>
 unOut o fun c l =>
 unSet true false c fun cs =>
 cLs cs fun xs l1 =>
 cInt IntKind.i64 l1 fun n l2 =>
 cLs l2 fun xs1 l3 =>
 cBool l3 fun b1 l4 =>
 unNil l4 <|
 unEnd l <|
 br b
 (some ((AV.tup [bv true, AV.ptr 0 0, AV.ls [], iv 3], [BO.set (ABlk.mk [AV.ls xs, iv n, AV.ls xs1, bv b1] true false), BO.del])))
 (askK D (Key.fn 95) [AV.ptr 0 0, bv t5] [ABlk.mk [AV.ls xs, iv n, AV.ls xs1, bv b1] true false] fun r1 o1 =>
 unTup r1 fun cs1 =>
 unCons cs1 fun c1 l5 =>
 unAgg c1 fun cs2 =>
 cBool cs2 fun b2 l6 =>
 cStr l6 fun s l7 =>
 cStr l7 fun s1 l8 =>
 unNil l8 <|
 cInt IntKind.i64 l5 fun n1 l9 =>
 unNil l9 <|
 unOut o1 fun c2 l10 =>
 unSet true false c2 fun cs3 =>
 cLs cs3 fun xs2 l11 =>
 cInt IntKind.i64 l11 fun n2 l12 =>
 cLs l12 fun xs3 l13 =>
 cBool l13 fun b3 l14 =>
 unNil l14 <|
 unEnd l10 <|
 br (A.eq n1 0)
 (br (fitsB (n4 + 1) 40) (br ((0 + n4 * 3).ble c4.length) (askK D (Key.fn 96) [AV.ptr 0 0, sv (bstr [45])] [ABlk.mk [AV.ls xs2, iv n2, AV.ls xs3, bv b3] true false] fun r2 o2 =>
 unBool r2 fun b4 =>
 unOut o2 fun c3 l15 =>
 unSet true false c3 fun cs4 =>
 cLs cs4 fun xs4 l16 =>
 cInt IntKind.i64 l16 fun n3 l17 =>
 cLs l17 fun xs5 l18 =>
 cBool l18 fun b5 l19 =>
 unNil l19 <|
 unEnd l15 <|
 br b4
 (askK D (Key.fn 93) [AV.ptr 0 0, sv (bstr [45])] [ABlk.mk [AV.ls xs4, iv n3, AV.ls xs5, bv b5] true false] fun r3 o3 =>
 unBool r3 fun b6 =>
 unOut o3 fun c5 l20 =>
 unSet true false c5 fun cs5 =>
 cLs cs5 fun xs6 l21 =>
 cInt IntKind.i64 l21 fun n5 l22 =>
 cLs l22 fun xs7 l23 =>
 cBool l23 fun b7 l24 =>
 unNil l24 <|
 unEnd l20 <|
 br b6
 (askK D (Key.lp 49 0) [AV.ptr 0 0, AV.sl 1 0 (n4 + 1) 3, bv true] [ABlk.mk [AV.ls xs6, iv n5, AV.ls xs7, bv b7] true false, ABlk.mk (List.drop 0 (List.take (0 + n4 * 3) c4) ++ [bv b2, sv s, sv s1]) true true] fun r4 o4 =>
 tailK 2 [0, 4] (AH.mk [(0, ABlk.mk [AV.ls xs6, iv n5, AV.ls xs7, bv b7] true false), (4, ABlk.mk (List.drop 0 (List.take (0 + n4 * 3) c4) ++ [bv b2, sv s, sv s1]) true true), (3, ABlk.mk [bv b2, sv s, sv s1] true true), (2, ABlk.mk [bv b2, sv s, sv s1] true false)] 5 none) [1, 0] r4 o4)
 (askK D (Key.fn 93) [AV.ptr 0 0, sv (bstr [43])] [ABlk.mk [AV.ls xs6, iv n5, AV.ls xs7, bv b7] true false] fun r4 o4 =>
 unBool r4 fun b8 =>
 unOut o4 fun c6 l25 =>
 unSet true false c6 fun cs6 =>
 cLs cs6 fun xs8 l26 =>
 cInt IntKind.i64 l26 fun n6 l27 =>
 cLs l27 fun xs9 l28 =>
 cBool l28 fun b9 l29 =>
 unNil l29 <|
 unEnd l25 <|
 br b8
 (askK D (Key.lp 49 0) [AV.ptr 0 0, AV.sl 1 0 (n4 + 1) 3, bv true] [ABlk.mk [AV.ls xs8, iv n6, AV.ls xs9, bv b9] true false, ABlk.mk (List.drop 0 (List.take (0 + n4 * 3) c4) ++ [bv b2, sv s, sv s1]) true true] fun r5 o5 =>
 tailK 2 [0, 4] (AH.mk [(0, ABlk.mk [AV.ls xs8, iv n6, AV.ls xs9, bv b9] true false), (4, ABlk.mk (List.drop 0 (List.take (0 + n4 * 3) c4) ++ [bv b2, sv s, sv s1]) true true), (3, ABlk.mk [bv b2, sv s, sv s1] true true), (2, ABlk.mk [bv b2, sv s, sv s1] true false)] 5 none) [1, 0] r5 o5)
 (br ((0 + (n4 + 1) * 3).ble (List.drop 0 (List.take (0 + n4 * 3) c4) ++ [bv b2, sv s, sv s1]).length) (some ((AV.tup [bv true, AV.ptr 0 0, AV.ls (chunk (n4 + 1) 3 (List.take ((n4 + 1) * 3) (List.drop 0 (List.drop 0 (List.take (0 + n4 * 3) c4) ++ [bv b2, sv s, sv s1])))), iv 0], [BO.set (ABlk.mk [AV.ls xs8, iv n6, AV.ls xs9, bv b9] true false), BO.del]))) none)))
 (askK D (Key.fn 93) [AV.ptr 0 0, sv (bstr [45])] [ABlk.mk [AV.ls xs4, iv n3, AV.ls xs5, bv b5] true false] fun r3 o3 =>
 unBool r3 fun b6 =>
 unOut o3 fun c5 l20 =>
 unSet true false c5 fun cs5 =>
 cLs cs5 fun xs6 l21 =>
 cInt IntKind.i64 l21 fun n5 l22 =>
 cLs l22 fun xs7 l23 =>
 cBool l23 fun b7 l24 =>
 unNil l24 <|
 unEnd l20 <|
 br b6
 (askK D (Key.lp 49 0) [AV.ptr 0 0, AV.sl 1 0 (n4 + 1) 3, bv false] [ABlk.mk [AV.ls xs6, iv n5, AV.ls xs7, bv b7] true false, ABlk.mk (List.drop 0 (List.take (0 + n4 * 3) c4) ++ [bv b2, sv s, sv s1]) true true] fun r4 o4 =>
 tailK 2 [0, 4] (AH.mk [(0, ABlk.mk [AV.ls xs6, iv n5, AV.ls xs7, bv b7] true false), (4, ABlk.mk (List.drop 0 (List.take (0 + n4 * 3) c4) ++ [bv b2, sv s, sv s1]) true true), (3, ABlk.mk [bv b2, sv s, sv s1] true true), (2, ABlk.mk [bv b2, sv s, sv s1] true false)] 5 none) [1, 0] r4 o4)
 (askK D (Key.fn 93) [AV.ptr 0 0, sv (bstr [43])] [ABlk.mk [AV.ls xs6, iv n5, AV.ls xs7, bv b7] true false] fun r4 o4 =>
 unBool r4 fun b8 =>
 unOut o4 fun c6 l25 =>
 unSet true false c6 fun cs6 =>
 cLs cs6 fun xs8 l26 =>
 cInt IntKind.i64 l26 fun n6 l27 =>
 cLs l27 fun xs9 l28 =>
 cBool l28 fun b9 l29 =>
 unNil l29 <|
 unEnd l25 <|
 br b8
 (askK D (Key.lp 49 0) [AV.ptr 0 0, AV.sl 1 0 (n4 + 1) 3, bv false] [ABlk.mk [AV.ls xs8, iv n6, AV.ls xs9, bv b9] true false, ABlk.mk (List.drop 0 (List.take (0 + n4 * 3) c4) ++ [bv b2, sv s, sv s1]) true true] fun r5 o5 =>
 tailK 2 [0, 4] (AH.mk [(0, ABlk.mk [AV.ls xs8, iv n6, AV.ls xs9, bv b9] true false), (4, ABlk.mk (List.drop 0 (List.take (0 + n4 * 3) c4) ++ [bv b2, sv s, sv s1]) true true), (3, ABlk.mk [bv b2, sv s, sv s1] true true), (2, ABlk.mk [bv b2, sv s, sv s1] true false)] 5 none) [1, 0] r5 o5)
 (br ((0 + (n4 + 1) * 3).ble (List.drop 0 (List.take (0 + n4 * 3) c4) ++ [bv b2, sv s, sv s1]).length) (some ((AV.tup [bv true, AV.ptr 0 0, AV.ls (chunk (n4 + 1) 3 (List.take ((n4 + 1) * 3) (List.drop 0 (List.drop 0 (List.take (0 + n4 * 3) c4) ++ [bv b2, sv s, sv s1])))), iv 0], [BO.set (ABlk.mk [AV.ls xs8, iv n6, AV.ls xs9, bv b9] true false), BO.del]))) none)))) none) none)
 (some ((AV.tup [bv true, AV.ptr 0 0, AV.ls [], iv n1], [BO.set (ABlk.mk [AV.ls xs2, iv n2, AV.ls xs3, bv b3] true false), BO.del])))))
 (askK D (Key.fn 95) [AV.ptr 0 0, bv t5] [ABlk.mk [AV.ls b0_0, iv b0_1, AV.ls b0_2, bv b0_3] true false] fun r o =>
 unTup r fun cs =>
 unCons cs fun c l =>
 unAgg c fun cs1 =>
 cBool cs1 fun b l1 =>
 cStr l1 fun s l2 =>
 cStr l2 fun s1 l3 =>
 unNil l3 <|
 cInt IntKind.i64 l fun n l4 =>
 unNil l4 <|
 unOut o fun c1 l5 =>
 unSet true false c1 fun cs2 =>
 cLs cs2 fun xs l6 =>
 cInt IntKind.i64 l6 fun n1 l7 =>
 cLs l7 fun xs1 l8 =>
 cBool l8 fun b1 l9 =>
 unNil l9 <|
 unEnd l5 <|
 br (A.eq n 0)
 (br (fitsB (n4 + 1) 40) (br ((0 + n4 * 3).ble c4.length) (askK D (Key.fn 96) [AV.ptr 0 0, sv (bstr [45])] [ABlk.mk [AV.ls xs, iv n1, AV.ls xs1, bv b1] true false] fun r1 o1 =>
 unBool r1 fun b2 =>
 unOut o1 fun c2 l10 =>
 unSet true false c2 fun cs3 =>
 cLs cs3 fun xs2 l11 =>
 cInt IntKind.i64 l11 fun n2 l12 =>
 cLs l12 fun xs3 l13 =>
 cBool l13 fun b3 l14 =>
 unNil l14 <|
 unEnd l10 <|
 br b2
 (askK D (Key.fn 93) [AV.ptr 0 0, sv (bstr [45])] [ABlk.mk [AV.ls xs2, iv n2, AV.ls xs3, bv b3] true false] fun r2 o2 =>
 unBool r2 fun b4 =>
 unOut o2 fun c3 l15 =>
 unSet true false c3 fun cs4 =>
 cLs cs4 fun xs4 l16 =>
 cInt IntKind.i64 l16 fun n3 l17 =>
 cLs l17 fun xs5 l18 =>
 cBool l18 fun b5 l19 =>
 unNil l19 <|
 unEnd l15 <|
 br b4
 (askK D (Key.lp 49 0) [AV.ptr 0 0, AV.sl 1 0 (n4 + 1) 3, bv true] [ABlk.mk [AV.ls xs4, iv n3, AV.ls xs5, bv b5] true false, ABlk.mk (List.drop 0 (List.take (0 + n4 * 3) c4) ++ [bv b, sv s, sv s1]) true true] fun r3 o3 =>
 tailK 2 [0, 4] (AH.mk [(0, ABlk.mk [AV.ls xs4, iv n3, AV.ls xs5, bv b5] true false), (4, ABlk.mk (List.drop 0 (List.take (0 + n4 * 3) c4) ++ [bv b, sv s, sv s1]) true true), (3, ABlk.mk [bv b, sv s, sv s1] true true), (2, ABlk.mk [bv b, sv s, sv s1] true false)] 5 none) [1, 0] r3 o3)
 (askK D (Key.fn 93) [AV.ptr 0 0, sv (bstr [43])] [ABlk.mk [AV.ls xs4, iv n3, AV.ls xs5, bv b5] true false] fun r3 o3 =>
 unBool r3 fun b6 =>
 unOut o3 fun c5 l20 =>
 unSet true false c5 fun cs5 =>
 cLs cs5 fun xs6 l21 =>
 cInt IntKind.i64 l21 fun n5 l22 =>
 cLs l22 fun xs7 l23 =>
 cBool l23 fun b7 l24 =>
 unNil l24 <|
 unEnd l20 <|
 br b6
 (askK D (Key.lp 49 0) [AV.ptr 0 0, AV.sl 1 0 (n4 + 1) 3, bv true] [ABlk.mk [AV.ls xs6, iv n5, AV.ls xs7, bv b7] true false, ABlk.mk (List.drop 0 (List.take (0 + n4 * 3) c4) ++ [bv b, sv s, sv s1]) true true] fun r4 o4 =>
 tailK 2 [0, 4] (AH.mk [(0, ABlk.mk [AV.ls xs6, iv n5, AV.ls xs7, bv b7] true false), (4, ABlk.mk (List.drop 0 (List.take (0 + n4 * 3) c4) ++ [bv b, sv s, sv s1]) true true), (3, ABlk.mk [bv b, sv s, sv s1] true true), (2, ABlk.mk [bv b, sv s, sv s1] true false)] 5 none) [1, 0] r4 o4)
 (br ((0 + (n4 + 1) * 3).ble (List.drop 0 (List.take (0 + n4 * 3) c4) ++ [bv b, sv s, sv s1]).length) (some ((AV.tup [bv true, AV.ptr 0 0, AV.ls (chunk (n4 + 1) 3 (List.take ((n4 + 1) * 3) (List.drop 0 (List.drop 0 (List.take (0 + n4 * 3) c4) ++ [bv b, sv s, sv s1])))), iv 0], [BO.set (ABlk.mk [AV.ls xs6, iv n5, AV.ls xs7, bv b7] true false), BO.del]))) none)))
 (askK D (Key.fn 93) [AV.ptr 0 0, sv (bstr [45])] [ABlk.mk [AV.ls xs2, iv n2, AV.ls xs3, bv b3] true false] fun r2 o2 =>
 unBool r2 fun b4 =>
 unOut o2 fun c3 l15 =>
 unSet true false c3 fun cs4 =>
 cLs cs4 fun xs4 l16 =>
 cInt IntKind.i64 l16 fun n3 l17 =>
 cLs l17 fun xs5 l18 =>
 cBool l18 fun b5 l19 =>
 unNil l19 <|
 unEnd l15 <|
 br b4
 (askK D (Key.lp 49 0) [AV.ptr 0 0, AV.sl 1 0 (n4 + 1) 3, bv false] [ABlk.mk [AV.ls xs4, iv n3, AV.ls xs5, bv b5] true false, ABlk.mk (List.drop 0 (List.take (0 + n4 * 3) c4) ++ [bv b, sv s, sv s1]) true true] fun r3 o3 =>
 tailK 2 [0, 4] (AH.mk [(0, ABlk.mk [AV.ls xs4, iv n3, AV.ls xs5, bv b5] true false), (4, ABlk.mk (List.drop 0 (List.take (0 + n4 * 3) c4) ++ [bv b, sv s, sv s1]) true true), (3, ABlk.mk [bv b, sv s, sv s1] true true), (2, ABlk.mk [bv b, sv s, sv s1] true false)] 5 none) [1, 0] r3 o3)
 (askK D (Key.fn 93) [AV.ptr 0 0, sv (bstr [43])] [ABlk.mk [AV.ls xs4, iv n3, AV.ls xs5, bv b5] true false] fun r3 o3 =>
 unBool r3 fun b6 =>
 unOut o3 fun c5 l20 =>
 unSet true false c5 fun cs5 =>
 cLs cs5 fun xs6 l21 =>
 cInt IntKind.i64 l21 fun n5 l22 =>
 cLs l22 fun xs7 l23 =>
 cBool l23 fun b7 l24 =>
 unNil l24 <|
 unEnd l20 <|
 br b6
 (askK D (Key.lp 49 0) [AV.ptr 0 0, AV.sl 1 0 (n4 + 1) 3, bv false] [ABlk.mk [AV.ls xs6, iv n5, AV.ls xs7, bv b7] true false, ABlk.mk (List.drop 0 (List.take (0 + n4 * 3) c4) ++ [bv b, sv s, sv s1]) true true] fun r4 o4 =>
 tailK 2 [0, 4] (AH.mk [(0, ABlk.mk [AV.ls xs6, iv n5, AV.ls xs7, bv b7] true false), (4, ABlk.mk (List.drop 0 (List.take (0 + n4 * 3) c4) ++ [bv b, sv s, sv s1]) true true), (3, ABlk.mk [bv b, sv s, sv s1] true true), (2, ABlk.mk [bv b, sv s, sv s1] true false)] 5 none) [1, 0] r4 o4)
 (br ((0 + (n4 + 1) * 3).ble (List.drop 0 (List.take (0 + n4 * 3) c4) ++ [bv b, sv s, sv s1]).length) (some ((AV.tup [bv true, AV.ptr 0 0, AV.ls (chunk (n4 + 1) 3 (List.take ((n4 + 1) * 3) (List.drop 0 (List.drop 0 (List.take (0 + n4 * 3) c4) ++ [bv b, sv s, sv s1])))), iv 0], [BO.set (ABlk.mk [AV.ls xs6, iv n5, AV.ls xs7, bv b7] true false), BO.del]))) none)))) none) none)
 (some ((AV.tup [bv true, AV.ptr 0 0, AV.ls [], iv n], [BO.set (ABlk.mk [AV.ls xs, iv n1, AV.ls xs1, bv b1] true false), BO.del])))) := by kernel_rfl

theorem e90 (A : Ar) (D : Orc) : fnK A D ownC hn90 .n 90 mf90 [] [] =
 some ((AV.ls [[sv (bstr [61])], [sv (bstr [33, 61])], [sv (bstr [60])], [sv (bstr [60, 61])], [sv (bstr [62])], [sv (bstr [62, 61])]], [])) := by kernel_rfl

theorem e88 (A : Ar) (D : Orc) (x0 : List (List AV)) (x1 : ByteArray) : fnK A D ownC hn88 .n 88 mf88 [AV.ls x0, sv x1] [] =
 askK D (Key.lp 88 0) [AV.ls x0, sv x1, iv ↑(lenR x0), iv 0] [] fun r o =>
 unTup r fun cs =>
 unCons cs fun c l =>
 br (axIs 0 c)
 (cInt IntKind.i64 l fun n l1 =>
 unNil l1 <|
 unEnd o <|
 some ((iv n, [])))
 (br (axIs 1 c)
 (unNil l <|
 unEnd o <|
 some ((iv (-1), [])))
 (none)) := by kernel_rfl

theorem e88_0 (A : Ar) (D : Orc) (t0 : List (List AV)) (t1 : ByteArray) (t7 : Int) (t8 : Int) : lpK A D ownC hn88 .n 88 0 (lpAt mf88 0).fst (lpAt mf88 0).snd [AV.ls t0, sv t1, iv t7, iv t8] [] =
 br (A.lt t8 t7)
 (unI t8 fun i =>
 nthK t0 i fun cs =>
 cStr cs fun s l =>
 unNil l <|
 br (A.seq t1 s)
 (some ((AV.tup [bv true, iv t8], [])))
 (askK D (Key.lp 88 0) [AV.ls t0, sv t1, iv t7, iv (A.add IntKind.i64 t8 1)] [] fun r o =>
 tailK 0 [] (AH.mk [] 0 none) [] r o))
 (some ((AV.tup [iv 0], []))) := by kernel_rfl

theorem e219 (A : Ar) (D : Orc) (x0 : List (List AV)) (x1 : ByteArray) : fnK A D ownC hn219 .n 219 mf219 [AV.ls x0, sv x1] [] =
 askK D (Key.fn 88) [AV.ls x0, sv x1] [] fun r o =>
 unInt IntKind.i64 r fun n =>
 unEnd o <|
 br (A.le 0 n)
 (some ((bv true, [])))
 (some ((bv false, []))) := by kernel_rfl
end Go.Proofs.YtlmhajfbpplpoaaGreat
namespace Go.Proofs.YtlmhajfbpplpoaaGreat
open Go.RowKit

section
variable {D : Orc}
theorem nth_last {α : Type} (l : List α) (h : l ≠ []) (d : α) : l[l.length - 1]? = some (l.getLastD d) := by
 rw [← List.getLast?_eq_getElem?, List.getLast?_eq_some_getLast h, List.getLastD_eq_getLast?, List.getLast?_eq_some_getLast h]
 rfl
theorem at_ok (K : Knows ownC tabEa D) (ts : List Tk) (vars : List ByteArray) (kn : Bool) (i : Nat) (hts : ts.length < 4611686018427387904) (hi : i < 4611686018427387904) : D.ask (.fn 92) [.ptr 0 0] [cuB ts vars kn i] = some (.agg (eTk (nx ts i)), [.set (cuB ts vars kn i)]) := by
 refine K.fn' hn92 _ rfl ((e92 ..).trans ?_)
 simp only [r_eq, lenR_map, br_if]
 by_cases h0 : ts = []
 ·subst h0
  rw [if_pos (by simp)]
  rfl
 ·have hl : 0 < ts.length := List.length_pos_iff.2 h0
  rw [if_neg (by simp [h0])]
  have e1 : realA.sub .i64 (ts.length : Int) 1 = ((ts.length - 1 : Nat) : Int) := by rw [r_sub (by omega) (by omega)]; omega
  obtain ⟨k, e2, e3⟩ : ∃ k : Nat, realA.min (realA.max (i : Int) 0) (realA.sub .i64 (ts.length : Int) 1) = (k : Int) ∧ ts[k]? = some (nx ts i) := by
   rw [e1, r_max, r_min]
   unfold nx
   by_cases h : i < ts.length
   ·exact ⟨i, by omega, by rw [List.getElem?_eq_getElem h]⟩
   ·exact ⟨ts.length - 1, by omega, by rw [List.getElem?_eq_none (show ts.length ≤ i by omega), nth_last ts h0 ⟨5, [], 0, 0⟩]⟩
  rw [e2, unI_n]
  rw [nthK_some e3]
  simp only [eTk, ND]
  rfl
theorem is_ok (K : Knows ownC tabEa D) (ts : List Tk) (vars : List ByteArray) (kn : Bool) (i : Nat) (hts : ts.length < 4611686018427387904) (hi : i < 4611686018427387904) (s : List UInt8) : D.ask (.fn 96) [.ptr 0 0, sv (bstr s)] [cuB ts vars kn i] = some (bv (isT ts i s), [.set (cuB ts vars kn i)]) := by
 refine K.fn' hn96 _ rfl ((e96 ..).trans ?_)
 refine (askK_of (at_ok K ts vars kn i hts hi) _).trans ?_
 unfold isT
 simp only [eTk, cuB, ND, ci0, ci1, ci2, ci3, ci4, ci5, ci6, r_lt, r_le, r_eq, r_seq, r_slen, r_cat, r_beq, br_if, bstr_inj]
 by_cases h1 : (nx ts i).text = s <;> by_cases h2 : (nx ts i).kind = 1 <;> by_cases h3 : (nx ts i).kind = 2 <;> by_cases h4 : (nx ts i).kind = 4 <;> simp [h1, h2, h3, h4]
theorem take_ok (K : Knows ownC tabEa D) (ts : List Tk) (vars : List ByteArray) (kn : Bool) (i : Nat) (hts : ts.length < 4611686018427387904) (hi : i < 4611686018427387904) (s : List UInt8) : D.ask (.fn 93) [.ptr 0 0, sv (bstr s)] [cuB ts vars kn i] = some (bv (isT ts i s), [.set (cuB ts vars kn (if isT ts i s then i + 1 else i))]) := by
 refine K.fn' hn93 _ rfl ((e93 ..).trans ?_)
 refine (askK_of (is_ok K ts vars kn i hts hi s) _).trans ?_
 simp only [cuB, ND, add1 hi]
 cases isT ts i s <;> rfl
theorem want_ok (K : Knows ownC tabEa D) (ts : List Tk) (vars : List ByteArray) (kn : Bool) (i : Nat) (hts : ts.length < 4611686018427387904) (hi : i < 4611686018427387904) (s : List UInt8) : D.ask (.fn 248) [.ptr 0 0, sv (bstr s)] [cuB ts vars kn i] = some (iv (if isT ts i s then 0 else 101), [.set (cuB ts vars kn (if isT ts i s then i + 1 else i))]) := by
 refine K.fn' hn248 _ rfl ((e248 ..).trans ?_)
 refine (askK_of (take_ok K ts vars kn i hts hi s) _).trans ?_
 simp only [cuB, ND]
 cases isT ts i s <;> rfl
structure NameF (D : Orc) : Prop where
 name : ∀ s : List UInt8, s.length < 4611686018427387904 → D.ask (.fn 109) [sv (bstr s)] [] = some (bv (nameB s), [])
def ShortT (ts : List Tk) : Prop := ∀ i, (nx ts i).text.length < 4611686018427387904
theorem name_ok (K : Knows ownC tabEa D) (L : NameF D) (ts : List Tk) (vars : List ByteArray) (kn : Bool) (i : Nat) (hts : ts.length < 4611686018427387904) (hs : ShortT ts) (hi : i < 4611686018427387904) : D.ask (.fn 162) [.ptr 0 0] [cuB ts vars kn i] = some (bv (isN ts i), [.set (cuB ts vars kn i)]) := by
 refine K.fn' hn162 _ rfl ((e162 ..).trans ?_)
 refine (askK_of (at_ok K ts vars kn i hts hi) _).trans ?_
 unfold isN
 simp only [eTk, cuB, ND, ci0, ci1, ci2, ci3, ci4, ci5, ci6, r_lt, r_le, r_eq, r_seq, r_slen, r_cat, r_beq]
 by_cases h : (nx ts i).kind = 1
 ·simp only [h, decide_true, ND]
  refine (askK_of (L.name _ (hs i)) _).trans ?_
  simp only [ND]
  cases nameB (nx ts i).text <;> rfl
 ·simp only [h, decide_false, ND]
  rfl
theorem begins_ok (K : Knows ownC tabEa D) (L : NameF D) (ts : List Tk) (vars : List ByteArray) (kn : Bool) (i : Nat) (hts : ts.length < 4611686018427387904) (hs : ShortT ts) (hi : i < 4611686018427387904) : D.ask (.fn 94) [.ptr 0 0] [cuB ts vars kn i] = some (bv (begP ts i), [.set (cuB ts vars kn i)]) := by
 refine K.fn' hn94 _ rfl ((e94 ..).trans ?_)
 refine (askK_of (at_ok K ts vars kn i hts hi) _).trans ?_
 unfold begP
 simp only [eTk, cuB, ND, ci0, ci1, ci2, ci3, ci4, ci5, ci6, r_lt, r_le, r_eq, r_seq, r_slen, r_cat, r_beq]
 by_cases h : (nx ts i).kind = 3
 ·simp only [h, decide_true, ND]
  rfl
 ·simp only [h, decide_false, ND]
  refine (askK_of (name_ok K L ts vars kn i hts hs hi) _).trans ?_
  simp only [cuB, ND]
  cases isN ts i <;> rfl
def placeI : Option Nat → Int
 | some j => j
 | none => -1
def placeR (i : Nat) : Option Nat → AV
 | some j => .tup [bv true, iv ((i + j : Nat) : Int)]
 | none => .tup [iv 0]
theorem index_lp (K : Knows ownC tabEa D) (xs : List ByteArray) (hx : xs.length < 4611686018427387904) (s : ByteArray) : ∀ (k i : Nat), xs.length - i = k → D.ask (.lp 88 0) [.ls (xs.map eS), sv s, iv (xs.length : Int), iv (i : Int)] [] = some (placeR i ((xs.drop i).findIdx? (s = ·)), []) := by
 intro k
 induction k with
 | zero =>
  intro i hi
  refine K.lp' hn88 _ rfl (by kernel_rfl) ((e88_0 ..).trans ?_)
  have : xs.drop i = [] := List.drop_eq_nil_of_le (by omega)
  simp only [r_lt, this, br_if]
  rw [if_neg (by simp; omega)]
  rfl
 | succ k ih =>
  intro i hi
  have hlt : i < xs.length := by omega
  refine K.lp' hn88 _ rfl (by kernel_rfl) ((e88_0 ..).trans ?_)
  have e1 : xs.drop i = xs[i] :: xs.drop (i + 1) := List.drop_eq_getElem_cons hlt
  have ih' := ih (i + 1) (by omega)
  have e2 : realA.add .i64 (i : Int) 1 = ((i + 1 : Nat) : Int) := add1 (by omega)
  simp only [r_lt, unI_n, nthK_map, List.getElem?_eq_getElem hlt, eS, cStr_sv, unNil_nil, r_seq, e2, br_if]
  rw [if_pos (by simpa using hlt), e1, List.findIdx?_cons]
  by_cases h : s = xs[i]
  ·simp [← h, placeR]
  ·rw [if_neg (by simpa using h), if_neg (by simpa using h)]
   refine (askK_of ih' _).trans ?_
   cases (xs.drop (i + 1)).findIdx? (s = ·) with
   | none => rfl
   | some j =>
    simp only [placeR, Option.map_some, show i + (j + 1) = i + 1 + j by omega]
    rfl
theorem index_ok (K : Knows ownC tabEa D) (xs : List ByteArray) (hx : xs.length < 4611686018427387904) (s : ByteArray) : D.ask (.fn 88) [.ls (xs.map eS), sv s] [] = some (iv (placeI (xs.findIdx? (s = ·))), []) := by
 refine K.fn' hn88 _ rfl ((e88 ..).trans ?_)
 rw [lenR_map]
 refine (askK_of (index_lp K xs hx s _ 0 rfl) _).trans ?_
 rw [List.drop_zero]
 cases xs.findIdx? (s = ·) with
 | none => rfl
 | some j => simp only [placeR, ND, Nat.zero_add]; rfl
theorem placeI_mem (xs : List ByteArray) (s : ByteArray) : decide (0 ≤ placeI (xs.findIdx? (s = ·))) = decide (s ∈ xs) := by
 cases e : xs.findIdx? (s = ·) with
 | none =>
  have := List.findIdx?_eq_none_iff.1 e
  have h : s ∉ xs := fun h => by simpa using this s h
  simp [placeI, h]
 | some j =>
  obtain ⟨h, h2, _⟩ := List.findIdx?_eq_some_iff_getElem.1 e
  have : s ∈ xs := by
   have h2 : s = xs[j] := by simpa using h2
   rw [h2]; exact List.getElem_mem h
  simp [placeI, this]
theorem contains_ok (K : Knows ownC tabEa D) (xs : List ByteArray) (hx : xs.length < 4611686018427387904) (s : ByteArray) : D.ask (.fn 219) [.ls (xs.map eS), sv s] [] = some (bv (decide (s ∈ xs)), []) := by
 refine K.fn' hn219 _ rfl ((e219 ..).trans ?_)
 refine (askK_of (index_ok K xs hx s) _).trans ?_
 simp only [ND, r_le, placeI_mem]
 cases decide (s ∈ xs) <;> rfl
theorem variable_ok (K : Knows ownC tabEa D) (L : NameF D) (ts : List Tk) (vars : List ByteArray) (kn : Bool) (i : Nat) (hts : ts.length < 4611686018427387904) (hv : vars.length < 4611686018427387904) (hs : ShortT ts) (hi : i < 4611686018427387904) : D.ask (.fn 163) [.ptr 0 0] [cuB ts vars kn i] = some (.tup [sv (varP ts vars kn i).2.2, iv ((varP ts vars kn i).2.1 : Int)], [.set (cuB ts vars kn (varP ts vars kn i).1)]) := by
 refine K.fn' hn163 _ rfl ((e163 ..).trans ?_)
 refine (askK_of (at_ok K ts vars kn i hts hi) _).trans ?_
 simp only [eTk, cuB, ND]
 refine (askK_of (name_ok K L ts vars kn i hts hs hi) _).trans ?_
 unfold varP
 simp only [cuB, ND, add1 hi]
 cases isN ts i with
 | false => rfl
 | true =>
  cases kn with
  | false => rfl
  | true =>
   simp only [ND, Bool.true_eq_false, if_false, true_and]
   refine (askK_of (contains_ok K vars hv _) _).trans ?_
   simp only [ND]
   by_cases h : bstr (nx ts i).text ∈ vars <;> simp only [h, decide_true, decide_false, ND, not_true, not_false_eq_true, if_true, if_false] <;> rfl
theorem varP_le (ts : List Tk) (vars : List ByteArray) (kn : Bool) (i : Nat) : i ≤ (varP ts vars kn i).1 ∧ (varP ts vars kn i).1 ≤ i + 1 := by
 unfold varP
 split
 ·simp
 ·split <;> simp
theorem monoP_le (ts : List Tk) (vars : List ByteArray) (kn : Bool) (i : Nat) (neg : Bool) : i ≤ (monoP ts vars kn i neg).1 ∧ (monoP ts vars kn i neg).1 ≤ i + 3 := by
 unfold monoP
 have h1 := varP_le ts vars kn i
 have h2 := varP_le ts vars kn (i + 2)
 split
 ·split
  ·simp only; omega
  ·simp
 ·simp only; omega
theorem mono_ok (K : Knows ownC tabEa D) (L : NameF D) (ts : List Tk) (vars : List ByteArray) (kn : Bool) (i : Nat) (hts : ts.length < 4611686018427387904) (hv : vars.length < 4611686018427387904) (hs : ShortT ts) (hi : i + 3 < 4611686018427387904) (neg : Bool) : D.ask (.fn 95) [.ptr 0 0, bv neg] [cuB ts vars kn i] = some (.tup [.agg (eMo (monoP ts vars kn i neg).2.2), iv ((monoP ts vars kn i neg).2.1 : Int)], [.set (cuB ts vars kn (monoP ts vars kn i neg).1)]) := by
 refine K.fn' hn95 _ rfl ((e95 ..).trans ?_)
 refine (askK_of (at_ok K ts vars kn i hts (by omega)) _).trans ?_
 unfold monoP eMo
 simp only [eTk, cuB, ND, ci0, ci1, ci2, ci3, ci4, ci5, ci6, r_lt, r_le, r_eq, r_seq, r_slen, r_cat, r_beq]
 by_cases h : (nx ts i).kind = 3
 ·simp only [h, decide_true, ND, add1 (show i < 4611686018427387904 by omega), if_true]
  refine (askK_of (take_ok K ts vars kn (i + 1) hts (by omega) _) _).trans ?_
  simp only [cuB, ND]
  cases isT ts (i + 1) [42] with
  | false => rfl
  | true =>
   simp only [if_true, ND]
   refine (askK_of (variable_ok K L ts vars kn (i + 2) hts hv hs (by omega)) _).trans ?_
   simp only [cuB, ND]
 ·simp only [h, decide_false, ND, if_false]
  refine (askK_of (variable_ok K L ts vars kn i hts hv hs (by omega)) _).trans ?_
  simp only [cuB, ND]
end
end Go.Proofs.YtlmhajfbpplpoaaGreat
namespace Go.Proofs.YtlmhajfbpplpoaaGreat
open Go.RowKit
def hs121 : Hints := [⟨19, [true, true, false, false, false, true], [], [], [(0, ([false, false, false, false, true], ([], []))), (1, ([], ([], [])))]⟩]
noncomputable def mf121 : MFn := mfD Tryz.prog entsC hs121 false false 121
def hs103 : Hints := []
noncomputable def mf103 : MFn := mfD Tryz.prog entsC hs103 false false 103
def hs101 : Hints := []
noncomputable def mf101 : MFn := mfD Tryz.prog entsC hs101 false false 101
def hs99 : Hints := []
noncomputable def mf99 : MFn := mfD Tryz.prog entsC hs99 false false 99
def hs100 : Hints := []
noncomputable def mf100 : MFn := mfD Tryz.prog entsC hs100 false false 100
def hs102 : Hints := []
noncomputable def mf102 : MFn := mfD Tryz.prog entsC hs102 false false 102
def hs237 : Hints := []
noncomputable def mf237 : MFn := mfD Tryz.prog entsC hs237 false false 237
def hs51 : Hints := [⟨90, [false, true, true, false, false, true, true], [(5, 3)], [1, 2], [(0, ([false, false, true, true, true], ([2, 3], [1, 5])))]⟩]
noncomputable def mf51 : MFn := mfD Tryz.prog entsC hs51 false false 51
def hs221 : Hints := [⟨52, [false, true, true, true, false, true, false, true, true], [], [1, 2, 3], [(1, ([false, true, true, true, false, true, false, true], ([], [])))]⟩]
noncomputable def mf221 : MFn := mfD Tryz.prog entsC hs221 false false 221
def hs166 : Hints := []
noncomputable def mf166 : MFn := mfD Tryz.prog entsC hs166 false false 166
def hs105 : Hints := [⟨46, [false, true, true, false, true, true, false, true, true], [], [2, 4, 5, 7], [(1, ([false, false, true, false, true, true, false, true, true], ([], [])))]⟩]
noncomputable def mf105 : MFn := mfD Tryz.prog entsC hs105 false false 105
def hs55 : Hints := [⟨46, [false, true, true, false, true, true, false, true, true], [], [2, 4, 5, 7], [(1, ([false, false, true, false, true, true, false, true, true], ([], [])))]⟩]
noncomputable def mf55 : MFn := mfD Tryz.prog entsC hs55 false false 55
def hs52 : Hints := []
noncomputable def mf52 : MFn := mfD Tryz.prog entsC hs52 false false 52
noncomputable def tabRa : List (Nat × MFn) := [(121, mf121), (103, mf103), (101, mf101), (99, mf99), (100, mf100), (102, mf102), (237, mf237), (51, mf51), (221, mf221), (166, mf166), (105, mf105), (55, mf55), (52, mf52)]
end Go.Proofs.YtlmhajfbpplpoaaGreat
namespace Go.Proofs.YtlmhajfbpplpoaaGreat
open Go.RowKit

section
variable {D : Orc}
structure RNameF (D : Orc) : Prop where
 name : ∀ s : List UInt8, s.length < 4611686018427387904 → D.ask (.fn 77) [sv (bstr s)] [] = some (bv (nameB s), [])
end
end Go.Proofs.YtlmhajfbpplpoaaGreat
namespace Go.Proofs.YtlmhajfbpplpoaaGreat
open Go.RowKit

section
variable {D : Orc}
theorem eMo_len (m : Mo) : (eMo m).length = 3 := rfl
theorem begP_mono {ts : List Tk} {vars : List ByteArray} {kn : Bool} {i : Nat} {neg : Bool} (h : begP ts i = false) : (monoP ts vars kn i neg).1 = i ∧ (monoP ts vars kn i neg).2.1 = 101 := by
 unfold begP at h
 simp only [Bool.or_eq_false_iff, decide_eq_false_iff_not] at h
 unfold monoP varP
 rw [if_neg h.1, if_pos h.2]
 exact ⟨rfl, rfl⟩
theorem sum_lp (K : Knows ownC tabEa D) (L : NameF D) (ts : List Tk) (vars : List ByteArray) (kn : Bool) (hts : ts.length < 4611686018427387904) (hv : vars.length < 4611686018427387904) (hs : ShortT ts) : ∀ (k : Nat) (out : List Mo) (neg : Bool) (i : Nat), out.length + k = 64 → i + 4 * (k + 1) < 4611686018427387904 →
  D.ask (.lp 49 0) [.ptr 0 0, .sl 1 0 out.length 3, bv neg] [cuB ts vars kn i, ABlk.mk (rowC eMo out) true true] = some (.tup [bv true, .ptr 0 0, .ls ((sumL ts vars kn k out neg i).2.2.map eMo), iv ((sumL ts vars kn k out neg i).2.1 : Int)], [.set (cuB ts vars kn (sumL ts vars kn k out neg i).1), .del]) := by
 intro k
 induction k with
 | zero =>
  intro out neg i hk hi
  refine K.lp' hn49 _ rfl (by kernel_rfl) ((e49_0 ..).trans ?_)
  have h64 : decide ((out.length : Int) = 64) = true := by simp; omega
  simp only [r_eq, h64, br_t]
  refine (askK_of (begins_ok K L ts vars kn i hts hs (by omega)) _).trans ?_
  simp only [cuB, ND]
  unfold sumL
  cases hb : begP ts i with
  | true => rfl
  | false =>
   simp only [ND]
   refine (askK_of (mono_ok K L ts vars kn i hts hv hs (by omega) neg) _).trans ?_
   obtain ⟨h1, h2⟩ := begP_mono (vars := vars) (kn := kn) (neg := neg) hb
   simp only [cuB, eMo, ND, h1, h2]
   rfl
 | succ k ih =>
  intro out neg i hk hi
  refine K.lp' hn49 _ rfl (by kernel_rfl) ((e49_0 ..).trans ?_)
  have h64 : decide ((out.length : Int) = 64) = false := by simp; omega
  simp only [r_eq, h64, br_f]
  refine (askK_of (mono_ok K L ts vars kn i hts hv hs (by omega) neg) _).trans ?_
  have hle := monoP_le ts vars kn i neg
  cases hb : begP ts i with
  | false =>
   obtain ⟨h1, h2⟩ := begP_mono (vars := vars) (kn := kn) (neg := neg) hb
   have e : sumL ts vars kn (k + 1) out neg i = (i, 101, []) := by unfold sumL; rw [if_pos hb]
   rw [e]
   simp only [cuB, eMo, ND, h1, h2]
   rfl
  | true =>
   by_cases he : (monoP ts vars kn i neg).2.1 = 0
   ·have e3 : List.drop 0 (List.take (0 + out.length * 3) (rowC eMo out)) ++ [bv (monoP ts vars kn i neg).2.2.neg, sv (monoP ts vars kn i neg).2.2.num, sv (monoP ts vars kn i neg).2.2.var] = rowC eMo (out ++ [(monoP ts vars kn i neg).2.2]) := by
     rw [List.drop_zero, rowC_all eMo_len out (by omega)]
     exact rowC_snoc eMo out _
    have hf : fitsB (out.length + 1) 40 = true := fits_small (by omega) (by omega)
    have hb1 : Nat.ble (0 + out.length * 3) (rowC eMo out).length = true := ble_row eMo_len out (by omega)
    have hd : decide (((monoP ts vars kn i neg).2.1 : Int) = 0) = true := by rw [he]; rfl
    have hb2 : Nat.ble (0 + (out.length + 1) * 3) (rowC eMo (out ++ [(monoP ts vars kn i neg).2.2])).length = true := ble_row eMo_len _ (by simp)
    have hc : chunk (out.length + 1) 3 (List.take ((out.length + 1) * 3) (List.drop 0 (rowC eMo (out ++ [(monoP ts vars kn i neg).2.2])))) = (out ++ [(monoP ts vars kn i neg).2.2]).map eMo := by
     rw [List.drop_zero]
     exact chunk_of eMo_len _ (by simp)
    simp only [cuB, eMo, ND, r_eq, hd, hf, hb1, e3, hb2, hc]
    refine (askK_of (is_ok K ts vars kn _ hts (by omega) _) _).trans ?_
    have ih1 := ih (out ++ [(monoP ts vars kn i neg).2.2]) true ((monoP ts vars kn i neg).1 + 1) (by simp; omega) (by omega)
    have ih2 := ih (out ++ [(monoP ts vars kn i neg).2.2]) false ((monoP ts vars kn i neg).1 + 1) (by simp; omega) (by omega)
    rw [List.length_append, List.length_singleton] at ih1 ih2
    have e : sumL ts vars kn (k + 1) out neg i = if isT ts (monoP ts vars kn i neg).1 [45] then sumL ts vars kn k (out ++ [(monoP ts vars kn i neg).2.2]) true ((monoP ts vars kn i neg).1 + 1)
      else if isT ts (monoP ts vars kn i neg).1 [43] then sumL ts vars kn k (out ++ [(monoP ts vars kn i neg).2.2]) false ((monoP ts vars kn i neg).1 + 1)
      else ((monoP ts vars kn i neg).1, 0, out ++ [(monoP ts vars kn i neg).2.2]) := by
     rw [sumL, hb, if_neg (by simp)]
     rw [if_neg (by simp [he])]
    rw [e]
    simp only [cuB, ND]
    have tk := take_ok K ts vars kn (monoP ts vars kn i neg).1 hts (by omega) [45]
    have tp := take_ok K ts vars kn (monoP ts vars kn i neg).1 hts (by omega) [43]
    cases h45 : isT ts (monoP ts vars kn i neg).1 [45] with
    | true =>
     rw [h45] at tk
     simp only [ND, if_true]
     refine (askK_of tk _).trans ?_
     simp only [cuB, ND, if_true]
     refine (askK_of ih1 _).trans ?_
     rfl
    | false =>
     rw [h45] at tk
     simp only [ND]
     refine (askK_of tk _).trans ?_
     simp only [cuB, ND, Bool.false_eq_true, if_false]
     refine (askK_of tp _).trans ?_
     simp only [cuB, ND]
     cases h43 : isT ts (monoP ts vars kn i neg).1 [43] with
     | true =>
      simp only [ND, if_true]
      refine (askK_of ih2 _).trans ?_
      rfl
     | false => rfl
   ·have e : sumL ts vars kn (k + 1) out neg i = ((monoP ts vars kn i neg).1, (monoP ts vars kn i neg).2.1, []) := by
     rw [sumL, hb, if_neg (by simp)]
     rw [if_pos he]
    rw [e]
    have hd : decide (((monoP ts vars kn i neg).2.1 : Int) = 0) = false := by simp; exact he
    simp only [cuB, eMo, ND, r_eq, hd]
    rfl
theorem sum_ok (K : Knows ownC tabEa D) (L : NameF D) (ts : List Tk) (vars : List ByteArray) (kn : Bool) (hts : ts.length < 4611686018427387904) (hv : vars.length < 4611686018427387904) (hs : ShortT ts) (i : Nat) (hi : i + 300 < 4611686018427387904) : D.ask (.fn 49) [.ptr 0 0] [cuB ts vars kn i] = some (.tup [.ls ((sumP ts vars kn i).2.2.map eMo), iv ((sumP ts vars kn i).2.1 : Int)], [.set (cuB ts vars kn (sumP ts vars kn i).1)]) := by
 refine K.fn' hn49 _ rfl ((e49 ..).trans ?_)
 refine (askK_of (take_ok K ts vars kn i hts (by omega) _) _).trans ?_
 unfold sumP
 simp only [cuB, ND]
 cases isT ts i [45] with
 | true =>
  simp only [ND, if_true]
  refine (askK_of (sum_lp K L ts vars kn hts hv hs 64 [] true (i + 1) rfl (by omega)) _).trans ?_
  rfl
 | false =>
  simp only [ND, Bool.false_eq_true, if_false]
  refine (askK_of (sum_lp K L ts vars kn hts hv hs 64 [] false i rfl (by omega)) _).trans ?_
  rfl
end
end Go.Proofs.YtlmhajfbpplpoaaGreat
namespace Go.Proofs.YtlmhajfbpplpoaaGreat
open Go.RowKit
def hs262 : Hints := [⟨19, [true, true, false, false, false, false, false, true, true], [], [], [(0, ([false, false, false, false, true], ([], []))), (1, ([], ([], [])))]⟩]
noncomputable def mf262 : MFn := mfD Tryz.prog entsC hs262 false true 262
def hn262 : Hnt := ⟨[(93, (.bool, [.box [.ls, .int .i64, .ls, .bool]]))], [(0, [(0, ([.int .i64], [.box [.ls, .int .i64, .ls, .bool]])), (1, ([], [.box [.ls, .int .i64, .ls, .bool]]))])], [(14, [.str]), (15, [.str])]⟩
def hs164 : Hints := [⟨46, [true, true, true, true, true, false, false, false, false, false, true, false, true, true], [], [10, 12], [(1, ([true, false, false, false, false, false, false, false, false, false, true, false, true, true], ([], [])))]⟩]
noncomputable def mf164 : MFn := mfD Tryz.prog entsC hs164 false true 164
def hs249 : Hints := []
noncomputable def mf249 : MFn := mfD Tryz.prog entsC hs249 false true 249
def hn249 : Hnt := ⟨[(49, (.tup [.ls, .int .i64], [.box [.ls, .int .i64, .ls, .bool]])), (90, (.ls, [])), (262, (.int .i64, [.box [.ls, .int .i64, .ls, .bool]]))], [], []⟩
def hs220 : Hints := []
noncomputable def mf220 : MFn := mfD Tryz.prog entsC hs220 false true 220
def hs165 : Hints := []
noncomputable def mf165 : MFn := mfD Tryz.prog entsC hs165 false true 165
def hs104 : Hints := []
noncomputable def mf104 : MFn := mfD Tryz.prog entsC hs104 false true 104
def hs54 : Hints := []
noncomputable def mf54 : MFn := mfD Tryz.prog entsC hs54 false true 54
noncomputable def tabEb : List (Nat × MFn) := [(262, mf262), (164, mf164), (249, mf249), (220, mf220), (165, mf165), (104, mf104), (54, mf54)]
theorem e262 (A : Ar) (D : Orc) (x0 : List (List AV)) (p_0 : List (List AV)) (p_1 : Int) (p_2 : List (List AV)) (p_3 : Bool) : fnK A D ownC hn262 .n 262 mf262 [AV.ls x0, AV.fn (Fn.func 93) [AV.ptr 0 0] []] [{ cells := [AV.ls p_0, iv p_1, AV.ls p_2, bv p_3], st := true, ex := false }] =
 askK D (Key.lp 262 0) [AV.ls x0, AV.fn (Fn.func 93) [AV.ptr 0 0] [], iv ↑(lenR x0), iv 0] [ABlk.mk [AV.ls p_0, iv p_1, AV.ls p_2, bv p_3] true false] fun r o =>
 unTup r fun cs =>
 unCons cs fun c l =>
 br (axIs 0 c)
 (cInt IntKind.i64 l fun n l1 =>
 unNil l1 <|
 unOut o fun c1 l2 =>
 unSet true false c1 fun cs1 =>
 cLs cs1 fun xs l3 =>
 cInt IntKind.i64 l3 fun n1 l4 =>
 cLs l4 fun xs1 l5 =>
 cBool l5 fun b l6 =>
 unNil l6 <|
 unEnd l2 <|
 some ((iv n, [BO.set (ABlk.mk [AV.ls xs, iv n1, AV.ls xs1, bv b] true false)])))
 (br (axIs 1 c)
 (unNil l <|
 unOut o fun c1 l1 =>
 unSet true false c1 fun cs1 =>
 cLs cs1 fun xs l2 =>
 cInt IntKind.i64 l2 fun n l3 =>
 cLs l3 fun xs1 l4 =>
 cBool l4 fun b l5 =>
 unNil l5 <|
 unEnd l1 <|
 some ((iv (-1), [BO.set (ABlk.mk [AV.ls xs, iv n, AV.ls xs1, bv b] true false)])))
 (none)) := by kernel_rfl

theorem e262_0 (A : Ar) (D : Orc) (x0 : List (List AV)) (p_0 : List (List AV)) (p_1 : Int) (p_2 : List (List AV)) (p_3 : Bool) (t7 : Int) (t8 : Int) : lpK A D ownC hn262 .n 262 0 (lpAt mf262 0).fst (lpAt mf262 0).snd [AV.ls x0, AV.fn (Fn.func 93) [AV.ptr 0 0] [], iv t7, iv t8] [{ cells := [AV.ls p_0, iv p_1, AV.ls p_2, bv p_3], st := true, ex := false }] =
 br (A.lt t8 t7)
 (unI t8 fun i =>
 nthK x0 i fun cs =>
 cStr cs fun s l =>
 unNil l <|
 askK D (Key.fn 93) [AV.ptr 0 0, sv s] [ABlk.mk [AV.ls p_0, iv p_1, AV.ls p_2, bv p_3] true false] fun r o =>
 unBool r fun b =>
 unOut o fun c l1 =>
 unSet true false c fun cs1 =>
 cLs cs1 fun xs l2 =>
 cInt IntKind.i64 l2 fun n l3 =>
 cLs l3 fun xs1 l4 =>
 cBool l4 fun b1 l5 =>
 unNil l5 <|
 unEnd l1 <|
 br b
 (some ((AV.tup [bv true, iv t8], [BO.set (ABlk.mk [AV.ls xs, iv n, AV.ls xs1, bv b1] true false)])))
 (askK D (Key.lp 262 0) [AV.ls x0, AV.fn (Fn.func 93) [AV.ptr 0 0] [], iv t7, iv (A.add IntKind.i64 t8 1)] [ABlk.mk [AV.ls xs, iv n, AV.ls xs1, bv b1] true false] fun r1 o1 =>
 tailK 1 [0] (AH.mk [(0, ABlk.mk [AV.ls xs, iv n, AV.ls xs1, bv b1] true false)] 1 none) [0] r1 o1))
 (some ((AV.tup [iv 0], [BO.keep]))) := by kernel_rfl

theorem e249 (A : Ar) (D : Orc) (p0_0 : List (List AV)) (p0_1 : Int) (p0_2 : List (List AV)) (p0_3 : Bool) : fnK A D ownC hn249 .n 249 mf249 [AV.ptr 0 0] [{ cells := [AV.ls p0_0, iv p0_1, AV.ls p0_2, bv p0_3], st := true, ex := false }] =
 askK D (Key.fn 49) [AV.ptr 0 0] [ABlk.mk [AV.ls p0_0, iv p0_1, AV.ls p0_2, bv p0_3] true false] fun r o =>
 unTup r fun cs =>
 cLs cs fun xs l =>
 cInt IntKind.i64 l fun n l1 =>
 unNil l1 <|
 unOut o fun c l2 =>
 unSet true false c fun cs1 =>
 cLs cs1 fun xs1 l3 =>
 cInt IntKind.i64 l3 fun n1 l4 =>
 cLs l4 fun xs2 l5 =>
 cBool l5 fun b l6 =>
 unNil l6 <|
 unEnd l2 <|
 br (A.eq n 0)
 (askK D (Key.fn 90) [] [] fun r1 o1 =>
 unLs r1 fun xs3 =>
 unEnd o1 <|
 askK D (Key.fn 262) [AV.ls xs3, AV.fn (Fn.func 93) [AV.ptr 0 0] []] [ABlk.mk [AV.ls xs1, iv n1, AV.ls xs2, bv b] true false] fun r2 o2 =>
 unInt IntKind.i64 r2 fun n2 =>
 unOut o2 fun c1 l7 =>
 unSet true false c1 fun cs2 =>
 cLs cs2 fun xs4 l8 =>
 cInt IntKind.i64 l8 fun n3 l9 =>
 cLs l9 fun xs5 l10 =>
 cBool l10 fun b1 l11 =>
 unNil l11 <|
 unEnd l7 <|
 br (A.lt n2 0)
 (some ((AV.tup [AV.agg [iv 0, AV.ls [], AV.ls [], iv 0, sv (bstr []), sv (bstr []), AV.ls []], iv 101], [BO.set (ABlk.mk [AV.ls xs4, iv n3, AV.ls xs5, bv b1] true false)])))
 (askK D (Key.fn 49) [AV.ptr 0 0] [ABlk.mk [AV.ls xs4, iv n3, AV.ls xs5, bv b1] true false] fun r3 o3 =>
 unTup r3 fun cs3 =>
 cLs cs3 fun xs6 l12 =>
 cInt IntKind.i64 l12 fun n4 l13 =>
 unNil l13 <|
 unOut o3 fun c2 l14 =>
 unSet true false c2 fun cs4 =>
 cLs cs4 fun xs7 l15 =>
 cInt IntKind.i64 l15 fun n5 l16 =>
 cLs l16 fun xs8 l17 =>
 cBool l17 fun b2 l18 =>
 unNil l18 <|
 unEnd l14 <|
 br (A.eq n4 0)
 (some ((AV.tup [AV.agg [iv 2, AV.ls xs, AV.ls xs6, iv n2, sv (bstr []), sv (bstr []), AV.ls []], iv 0], [BO.set (ABlk.mk [AV.ls xs7, iv n5, AV.ls xs8, bv b2] true false)])))
 (some ((AV.tup [AV.agg [iv 0, AV.ls [], AV.ls [], iv 0, sv (bstr []), sv (bstr []), AV.ls []], iv n4], [BO.set (ABlk.mk [AV.ls xs7, iv n5, AV.ls xs8, bv b2] true false)])))))
 (some ((AV.tup [AV.agg [iv 0, AV.ls [], AV.ls [], iv 0, sv (bstr []), sv (bstr []), AV.ls []], iv n], [BO.set (ABlk.mk [AV.ls xs1, iv n1, AV.ls xs2, bv b] true false)]))) := by kernel_rfl

end Go.Proofs.YtlmhajfbpplpoaaGreat
namespace Go.Proofs.YtlmhajfbpplpoaaGreat
open Go.RowKit

section
variable {D : Orc}
def eOp (s : List UInt8) : List AV := [sv (bstr s)]
theorem compares_ok (K : Knows ownC tabEa D) : D.ask (.fn 90) [] [] = some (.ls (opsL.map eOp), []) :=
 K.fn' hn90 _ rfl ((e90 ..).trans rfl)
def keepC (b : Bool) (x : ABlk) : List BO := if b then [.set x] else [.keep]
def pickR (ts : List Tk) (vars : List ByteArray) (kn : Bool) (i j : Nat) (b : Bool) : Option Nat → AV × List BO
 | some m => (.tup [bv true, iv ((j + m : Nat) : Int)], [.set (cuB ts vars kn (i + 1))])
 | none => (.tup [iv 0], keepC b (cuB ts vars kn i))
theorem pick_lp (K : Knows ownC tabEa D) (Kb : Knows ownC tabEb D) {ts : List Tk} (H : Toks ts) (vars : List ByteArray) (kn : Bool) (i : Nat) (hi : i ≤ ts.length) (xs : List (List UInt8)) (hx : xs.length < 4611686018427387904) : ∀ (k j : Nat), xs.length - j = k →
  D.ask (.lp 262 0) [.ls (xs.map eOp), .fn (.func 93) [.ptr 0 0] [], iv (xs.length : Int), iv (j : Int)] [cuB ts vars kn i] = some (pickR ts vars kn i j (decide (j < xs.length)) ((xs.drop j).findIdx? (isT ts i))) := by
 have hl := H.len
 intro k
 induction k with
 | zero =>
  intro j hj
  refine Kb.lp' hn262 _ rfl (by kernel_rfl) ((e262_0 ..).trans ?_)
  have h1 : xs.drop j = [] := List.drop_eq_nil_of_le (by omega)
  have h2 : decide ((j : Int) < (xs.length : Int)) = false := by simp; omega
  have h3 : decide (j < xs.length) = false := by simp; omega
  simp only [r_lt, h1, h2, h3, br_f]
  rfl
 | succ k ih =>
  intro j hj
  have hlt : j < xs.length := by omega
  refine Kb.lp' hn262 _ rfl (by kernel_rfl) ((e262_0 ..).trans ?_)
  have e1 : xs.drop j = xs[j] :: xs.drop (j + 1) := List.drop_eq_getElem_cons hlt
  have ih' := ih (j + 1) (by omega)
  have h2 : decide ((j : Int) < (xs.length : Int)) = true := by simp; omega
  have h3 : decide (j < xs.length) = true := by simp; omega
  simp only [r_lt, h2, h3, br_t, unI_n, nthK_map, List.getElem?_eq_getElem hlt, eOp, cStr_sv, unNil_nil, e1, List.findIdx?_cons]
  refine (askK_of (take_ok K ts vars kn i (by omega) (by omega) _) _).trans ?_
  simp only [cuB, ND]
  cases hT : isT ts i xs[j] with
  | true =>
   simp only [ND, if_true]
   rfl
  | false =>
   simp only [ND, Bool.false_eq_true, if_false, add1 (show j < 4611686018427387904 by omega)]
   refine (askK_of ih' _).trans ?_
   cases (xs.drop (j + 1)).findIdx? (isT ts i) with
   | none => cases decide (j + 1 < xs.length) <;> rfl
   | some m =>
    simp only [pickR, Option.map_some, show j + (m + 1) = j + 1 + m by omega]
    rfl
def opAt (ts : List Tk) (i : Nat) : Nat := match opP ts i with
 | some _ => i + 1
 | none => i
theorem pick_ok (K : Knows ownC tabEa D) (Kb : Knows ownC tabEb D) {ts : List Tk} (H : Toks ts) (vars : List ByteArray) (kn : Bool) (i : Nat) (hi : i ≤ ts.length) : D.ask (.fn 262) [.ls (opsL.map eOp), .fn (.func 93) [.ptr 0 0] []] [cuB ts vars kn i] = some (iv (placeI (opP ts i)), [.set (cuB ts vars kn (opAt ts i))]) := by
 refine Kb.fn' hn262 _ rfl ((e262 ..).trans ?_)
 rw [lenR_map]
 refine (askK_of (pick_lp K Kb H vars kn i hi opsL (by decide) _ 0 rfl) _).trans ?_
 rw [List.drop_zero]
 unfold opAt
 show _ = some (iv (placeI (opP ts i)), _)
 unfold opP
 cases opsL.findIdx? (isT ts i) with
 | none => rfl
 | some j => simp only [pickR, cuB, ND, Nat.zero_add]; rfl
theorem compare_ok (K : Knows ownC tabEa D) (Kb : Knows ownC tabEb D) (L : NameF D) {ts : List Tk} (H : Toks ts) (vars : List ByteArray) (kn : Bool) (hv : vars.length < 4611686018427387904) (i : Nat) (hi : i ≤ ts.length) : D.ask (.fn 249) [.ptr 0 0] [cuB ts vars kn i] = some (.tup [.agg (eTr (cmpP ts vars kn i).2.2), iv ((cmpP ts vars kn i).2.1 : Int)], [.set (cuB ts vars kn (cmpP ts vars kn i).1)]) := by
 have hl := H.len
 refine Kb.fn' hn249 _ rfl ((e249 ..).trans ?_)
 refine (askK_of (sum_ok K L ts vars kn (by omega) hv H.short i (by omega)) _).trans ?_
 have m := sumP_far H vars kn hi
 unfold cmpP
 simp only [cuB, ND, r_eq, ci0]
 by_cases h0 : (sumP ts vars kn i).2.1 = 0
 ·simp only [h0, decide_true, ND, ne_eq, not_true, if_false]
  refine (askK_of (compares_ok K) _).trans ?_
  simp only [ND]
  refine (askK_of (pick_ok K Kb H vars kn _ m.le) _).trans ?_
  simp only [cuB, ND, r_lt]
  unfold opAt
  cases ho : opP ts (sumP ts vars kn i).1 with
  | none => rfl
  | some op =>
   have h1 : decide (placeI (some op) < 0) = false := decide_eq_false (show ¬ ((op : Int) < 0) by omega)
   have h2 := opP_far H ho
   simp only [h1, ND]
   refine (askK_of (sum_ok K L ts vars kn (by omega) hv H.short ((sumP ts vars kn i).1 + 1) (by omega)) _).trans ?_
   simp only [cuB, ND, r_eq, ci0]
   by_cases h3 : (sumP ts vars kn ((sumP ts vars kn i).1 + 1)).2.1 = 0
   ·simp only [h3, decide_true, ND, ne_eq, not_true, if_false]
    rfl
   ·simp only [h3, decide_false, ND, ne_eq, not_false_eq_true, if_true]
    rfl
 ·simp only [h0, decide_false, ND, ne_eq, not_false_eq_true, if_true]
  rfl
end
end Go.Proofs.YtlmhajfbpplpoaaGreat
namespace Go.Proofs.YtlmhajfbpplpoaaGreat
open Go.RowKit

theorem br_eqT {a b : Int} (h : a = b) {x y : KR} : br (realA.eq a b) x y = x := by rw [r_eq, decide_eq_true h]; rfl
theorem br_eqF {a b : Int} (h : ¬ a = b) {x y : KR} : br (realA.eq a b) x y = y := by rw [r_eq, decide_eq_false h]; rfl
set_option linter.unusedSectionVars false
section
variable {D : Orc}
def trB (x : Tr) : ABlk := ABlk.mk (eTr x) true false
variable (K : Knows ownC tabEa D) (Kb : Knows ownC tabEb D) (L : NameF D) {ts : List Tk} (H : Toks ts) (vars : List ByteArray) (kn : Bool) (hv : vars.length < 4611686018427387904)
include K Kb L H hv
end
end Go.Proofs.YtlmhajfbpplpoaaGreat
namespace Go.Proofs.YtlmhajfbpplpoaaGreat
open Go.RowKit

theorem br_seqT {a b : ByteArray} (h : a = b) {x y : KR} : br (realA.seq a b) x y = x := by rw [r_seq, decide_eq_true h]; rfl
theorem br_seqF {a b : ByteArray} (h : ¬ a = b) {x y : KR} : br (realA.seq a b) x y = y := by rw [r_seq, decide_eq_false h]; rfl
section
variable {ts : List Tk} {vars : List ByteArray} {kn : Bool} {k : Nat} {out : List Mo} {neg : Bool} {i j e : Nat} {m : Mo}
end
section
variable {D : Orc}
end
end Go.Proofs.YtlmhajfbpplpoaaGreat
namespace Go.Proofs.YtlmhajfbpplpoaaGreat
open Go.RowKit

section
variable {D : Orc}
theorem br_ltT {a b : Int} (h : a < b) {x y : KR} : br (realA.lt a b) x y = x := by rw [r_lt, decide_eq_true h]; rfl
theorem br_ltF {a b : Int} (h : ¬ a < b) {x y : KR} : br (realA.lt a b) x y = y := by rw [r_lt, decide_eq_false h]; rfl
end
end Go.Proofs.YtlmhajfbpplpoaaGreat
namespace Go.Proofs.YtlmhajfbpplpoaaGreat
open Go.RowKit

set_option linter.unusedSectionVars false
section
variable {D : Orc}
variable (K : Knows ownC tabRa D) (L : RNameF D) {ts : List Tk} (H : Toks ts) (hnum : ∀ i, (nx ts i).kind = 3 → (nx ts i).text ≠ []) (vars : List ByteArray) (kn : Bool) (hv : vars.length < 4611686018427387904)
include K L H hnum hv
end
end Go.Proofs.YtlmhajfbpplpoaaGreat
namespace Go.Proofs.YtlmhajfbpplpoaaGreat
open Go.RowKit

section
variable {ts : List Tk} (H : Toks ts) {i : Nat} (he : ts.length ≤ i)
include H he
end
section
variable {D : Orc} {ts : List Tk} (H : Toks ts) {i : Nat} (he : ts.length ≤ i) (hi : i + 300 < 4611686018427387904) (vars : List ByteArray) (kn : Bool) (hv : vars.length < 4611686018427387904) (d : Nat)
include H he hi hv
variable (hnum : ∀ i, (nx ts i).kind = 3 → (nx ts i).text ≠ [])
include hnum
end
section
variable {D : Orc} {ts : List Tk} (H : Toks ts) (i : Nat) (hi : i + 300 < 4611686018427387904) (vars : List ByteArray) (kn : Bool) (hv : vars.length < 4611686018427387904)
include H hi hv
end
end Go.Proofs.YtlmhajfbpplpoaaGreat
namespace Go.Proofs.YtlmhajfbpplpoaaGreat
open Go.RowKit
def hs21 : Hints := [⟨31, [false, true, true, false, false, true, true], [], [2], [(1, ([false, false, false, false, false, true], ([], [2])))]⟩]
noncomputable def mf21 : MFn := mfD Tryz.prog entsC hs21 false false 21
def hn21 : Hnt := ⟨[(21, (.int .i64, []))], [(0, [(1, ([.int .i64], [.del]))])], [(9, [.ls]), (21, [.ls]), (23, [.int .i64, .ls, .ls, .int .i64, .str, .str, .ls]), (24, [.int .i64, .ls, .ls, .int .i64, .str, .str, .ls])]⟩
theorem e21 (A : Ar) (D : Orc) (x0_0 : Int) (x0_1 : List (List AV)) (x0_2 : List (List AV)) (x0_3 : Int) (x0_4 : ByteArray) (x0_5 : ByteArray) (x0_6 : List (List AV)) (x1 : Int) : fnK A D ownC hn21 .n 21 mf21 [AV.agg [iv x0_0, AV.ls x0_1, AV.ls x0_2, iv x0_3, sv x0_4, sv x0_5, AV.ls x0_6], iv x1] [] =
 askK D (Key.lp 21 0) [iv x1, AV.ptr 0 0, iv 1, iv 0] [ABlk.mk [iv x0_0, AV.ls x0_1, AV.ls x0_2, iv x0_3, sv x0_4, sv x0_5, AV.ls x0_6] true false] fun r o =>
 unTup r fun cs =>
 unCons cs fun c l =>
 br (axIs 1 c)
 (cInt IntKind.i64 l fun n l1 =>
 unNil l1 <|
 unOut o fun c1 l2 =>
 unDel c1 <|
 unEnd l2 <|
 some ((iv n, [])))
 (none) := by kernel_rfl

end Go.Proofs.YtlmhajfbpplpoaaGreat
namespace Go.Proofs.YtlmhajfbpplpoaaGreat
open Go.RowKit

section
variable {D : Orc}
inductive WfT : Tr → Prop where
 | mk {k : Int} {l r : List Mo} {op : Int} {p q : ByteArray} {ks : List Tr} (hl : l.length < 4611686018427387904) (hr : r.length < 4611686018427387904) (hk : ks.length < 4611686018427387904) (h : ∀ x ∈ ks, WfT x) : WfT (.mk k l r op p q ks)
end
section
variable (ts : List Tk) (vars : List ByteArray) (kn : Bool)
end
end Go.Proofs.YtlmhajfbpplpoaaGreat
namespace Go.Proofs.YtlmhajfbpplpoaaGreat
open Go.RowKit

def rightMoB (m : Mo) : Bool := (decide (m.num ≠ bstr []) || decide (m.var ≠ bstr [])) && (decide (m.num = bstr []) || numB m.num.data.toList) && (decide (m.var = bstr []) || nameB m.var.data.toList)
def rsB (ms : List Mo) : Bool := decide (0 < ms.length) && decide (ms.length ≤ 64) && ms.all rightMoB
def moText (m : Mo) : List UInt8 := if m.num ≠ bstr [] ∧ m.var ≠ bstr [] then m.num.data.toList ++ [42] ++ m.var.data.toList else m.num.data.toList ++ m.var.data.toList
def sepT (i : Nat) (m : Mo) : List UInt8 := if m.neg then (if i = 0 then [45] else [32, 45, 32]) else if i = 0 then [] else [32, 43, 32]
def sumTx : Nat → List Mo → List UInt8
 | _, [] => []
 | i, m :: r => sepT i m ++ moText m ++ sumTx (i + 1) r
theorem sumTx_snoc (m : Mo) : ∀ (l : List Mo) (i : Nat), sumTx i (l ++ [m]) = sumTx i l ++ sepT (i + l.length) m ++ moText m
 | [], i => by simp [sumTx]
 | x :: r, i => by
  rw [List.cons_append, sumTx, sumTx, sumTx_snoc m r (i + 1)]
  simp [List.append_assoc, show i + 1 + r.length = i + (r.length + 1) by omega]
theorem sumTx_take (ms : List Mo) (k : Nat) (h : k < ms.length) : sumTx 0 (ms.take (k + 1)) = sumTx 0 (ms.take k) ++ sepT k ms[k] ++ moText ms[k] := by
 rw [List.take_succ_eq_append_getElem h, sumTx_snoc, List.length_take, Nat.zero_add, Nat.min_eq_left (by omega)]
theorem numB_len {l : List UInt8} (h : numB l = true) : l.length ≤ 60 := by
 unfold numB at h
 simp only [Bool.and_eq_true, decide_eq_true_eq] at h
 exact h.1.1.2
theorem nameB_len {l : List UInt8} (h : nameB l = true) : l.length ≤ 20 := by
 unfold nameB wordB at h
 simp only [Bool.and_eq_true, decide_eq_true_eq] at h
 exact h.1.1.1.2
theorem moText_len {m : Mo} (h : rightMoB m = true) : (moText m).length ≤ 81 := by
 unfold rightMoB at h
 simp only [Bool.and_eq_true, Bool.or_eq_true, decide_eq_true_eq] at h
 have h1 : m.num.data.toList.length ≤ 60 := by
  rcases h.1.2 with h | h
  ·rw [h]; simp [bstr]
  ·exact numB_len h
 have h2 : m.var.data.toList.length ≤ 20 := by
  rcases h.2 with h | h
  ·rw [h]; simp [bstr]
  ·exact nameB_len h
 unfold moText
 split <;> simp only [List.length_append, List.length_cons, List.length_nil] <;> omega
theorem sepT_len (i : Nat) (m : Mo) : (sepT i m).length ≤ 3 := by
 unfold sepT
 repeat' split
 all_goals simp
theorem sumTx_len : ∀ (l : List Mo) (i : Nat), l.all rightMoB = true → (sumTx i l).length ≤ 84 * l.length
 | [], _, _ => by simp [sumTx]
 | m :: r, i, h => by
  rw [List.all_cons, Bool.and_eq_true] at h
  have h1 := moText_len h.1
  have h2 := sepT_len i m
  have h3 := sumTx_len r (i + 1) h.2
  simp only [sumTx, List.length_append, List.length_cons]
  omega
def sumTxt (ms : List Mo) : List UInt8 := if rsB ms then sumTx 0 ms else []
end Go.Proofs.YtlmhajfbpplpoaaGreat
namespace Go.Proofs.YtlmhajfbpplpoaaGreat
open Go.RowKit

theorem bstr_list (s : ByteArray) : bstr s.data.toList = s := by
 obtain ⟨s⟩ := s
 simp [bstr]
theorem cat_bstr (a b : ByteArray) : a ++ b = bstr (a.data.toList ++ b.data.toList) := by
 rw [← bstr_list (a ++ b)]
 simp
theorem bstr_data (l : List UInt8) : (bstr l).data.toList = l := by simp [bstr]
theorem bstr_size (l : List UInt8) : (bstr l).size = l.length := by simp [bstr, ByteArray.size]
theorem size_list (s : ByteArray) : s.size = s.data.toList.length := by simp
theorem br_ble {a b : Nat} (h : a ≤ b) (x y : KR) : br (a.ble b) x y = x := by
 rw [Nat.ble_eq_true_of_le h]
 rfl
def WzM (m : Mo) : Prop := m.num.size ≤ 9223372036854775807 ∧ m.var.size ≤ 9223372036854775807
section
variable {D : Orc}
structure LexN (D : Orc) : Prop where
 name : ∀ s : ByteArray, s.size ≤ 9223372036854775807 → D.ask (.fn 109) [sv s] [] = some (bv (nameB s.data.toList), [])
 num : ∀ s : ByteArray, s.size ≤ 9223372036854775807 → D.ask (.fn 108) [sv s] [] = some (bv (numB s.data.toList), [])
variable (K : Knows ownC tabTa D)
include K
theorem rightMono_ok (L : LexN D) (m : Mo) (hm : WzM m) : D.ask (.fn 61) [.agg (eMo m)] [] = some (bv (rightMoB m), []) := by
 obtain ⟨ng, nu, va⟩ := m
 obtain ⟨h1, h2⟩ := hm
 refine K.fn' hn61 _ rfl ((e61 ..).trans ?_)
 have g1 := L.num nu h1
 have g2 := L.name va h2
 unfold rightMoB
 simp only at h1 h2 ⊢
 simp only [r_seq]
 by_cases hn : nu = bstr [] <;> by_cases hv : va = bstr [] <;> simp only [hn, hv, decide_true, decide_false, ND, not_true, not_false_eq_true, ne_eq, Bool.or_self, Bool.false_and, Bool.true_and, Bool.and_self, Bool.true_or, Bool.or_true, Bool.false_or, Bool.and_true]
 ·refine (askK_of g2 _).trans ?_
  simp only [ND]
  cases nameB va.data.toList <;> rfl
 ·refine (askK_of g1 _).trans ?_
  simp only [ND]
  cases numB nu.data.toList <;> rfl
 ·refine (askK_of g1 _).trans ?_
  simp only [ND]
  cases numB nu.data.toList with
  | false => rfl
  | true =>
   simp only [ND]
   refine (askK_of g2 _).trans ?_
   simp only [ND]
   cases nameB va.data.toList <;> rfl
theorem rs1_ok (L : LexN D) (m : Mo) (hm : WzM m) : D.ask (.fn 60) [.agg (eMo m)] [] = some (bv (!rightMoB m), []) := by
 have g := rightMono_ok K L m hm
 obtain ⟨ng, nu, va⟩ := m
 refine K.fn' hn60 _ rfl ((e60 ..).trans ?_)
 refine (askK_of g _).trans ?_
 simp only [ND]
 cases rightMoB ⟨ng, nu, va⟩ <;> rfl
theorem idm_lp (L : LexN D) (ms : List Mo) (hm : ∀ m ∈ ms, WzM m) (hl : ms.length < 4611686018427387904) : ∀ (k i : Nat), ms.length - i = k → D.ask (.lp 107 0) [.ls (ms.map eMo), .fn (.func 60) [] [], iv (ms.length : Int), iv (i : Int)] [] = some (placeR i ((ms.drop i).findIdx? fun m => !rightMoB m), []) := by
 intro k
 induction k with
 | zero =>
  intro i hi
  refine K.lp' hn107 _ rfl (by kernel_rfl) ((e107_0 ..).trans ?_)
  have : ms.drop i = [] := List.drop_eq_nil_of_le (by omega)
  simp only [r_lt, this, br_if]
  rw [if_neg (by simp; omega)]
  rfl
 | succ k ih =>
  intro i hi
  have hlt : i < ms.length := by omega
  refine K.lp' hn107 _ rfl (by kernel_rfl) ((e107_0 ..).trans ?_)
  have e1 : ms.drop i = ms[i] :: ms.drop (i + 1) := List.drop_eq_getElem_cons hlt
  have ih' := ih (i + 1) (by omega)
  have g := rs1_ok K L ms[i] (hm _ (List.getElem_mem hlt))
  refine (br_ltT (by omega)).trans ?_
  rw [unI_n, nthK_some (List.getElem?_eq_getElem hlt), e1, List.findIdx?_cons]
  revert g
  generalize ms[i] = m
  obtain ⟨ng, nu, va⟩ := m
  intro g
  simp only [eMo, ND]
  refine (askK_of g _).trans ?_
  simp only [ND]
  cases rightMoB ⟨ng, nu, va⟩ with
  | false =>
   simp only [Bool.not_false, if_true]
   rfl
  | true =>
   simp only [Bool.not_true, Bool.false_eq_true, if_false, add1 (show i < 4611686018427387904 by omega)]
   refine (br_f _ _).trans ?_
   refine (askK_of ih' _).trans ?_
   cases (ms.drop (i + 1)).findIdx? fun m => !rightMoB m with
   | none => rfl
   | some j =>
    simp only [placeR, Option.map_some, show i + (j + 1) = i + 1 + j by omega]
    rfl
theorem idm_ok (L : LexN D) (ms : List Mo) (hm : ∀ m ∈ ms, WzM m) (hl : ms.length < 4611686018427387904) : D.ask (.fn 107) [.ls (ms.map eMo), .fn (.func 60) [] []] [] = some (iv (placeI (ms.findIdx? fun m => !rightMoB m)), []) := by
 refine K.fn' hn107 _ rfl ((e107 ..).trans ?_)
 rw [lenR_map]
 refine (askK_of (idm_lp K L ms hm hl _ 0 rfl) _).trans ?_
 rw [List.drop_zero]
 cases ms.findIdx? fun m => !rightMoB m with
 | none => rfl
 | some j => simp only [placeR, ND, Nat.zero_add]; rfl
omit K in
theorem placeI_all (ms : List Mo) : decide (0 ≤ placeI (ms.findIdx? fun m => !rightMoB m)) = !ms.all rightMoB := by
 cases e : ms.findIdx? fun m => !rightMoB m with
 | none =>
  have h := List.findIdx?_eq_none_iff.1 e
  have : ms.all rightMoB = true := List.all_eq_true.2 fun x hx => by simpa using h x hx
  simp [placeI, this]
 | some j =>
  obtain ⟨h, h2, _⟩ := List.findIdx?_eq_some_iff_getElem.1 e
  have : ms.all rightMoB = false := by
   rw [Bool.eq_false_iff]
   intro ha
   have := List.all_eq_true.1 ha _ (List.getElem_mem h)
   rw [this] at h2
   cases h2
  simp [placeI, this]
theorem rightSum_ok (L : LexN D) (ms : List Mo) (hm : ∀ m ∈ ms, WzM m) (hl : ms.length < 4611686018427387904) : D.ask (.fn 23) [.ls (ms.map eMo)] [] = some (bv (rsB ms), []) := by
 refine K.fn' hn23 _ rfl ((e23 ..).trans ?_)
 rw [lenR_map]
 unfold rsB
 by_cases h0 : 0 < ms.length
 ·refine (br_ltT (by omega)).trans ?_
  by_cases h1 : ms.length ≤ 64
  ·rw [r_le, decide_eq_true (show (ms.length : Int) ≤ 64 by omega), decide_eq_true h0, decide_eq_true h1]
   refine (br_t _ _).trans ?_
   have g : D.ask (.fn 59) [.ls (ms.map eMo), .fn (.func 60) [] []] [] = some (bv (!ms.all rightMoB), []) := by
    refine K.fn' hn59 _ rfl ((e59 ..).trans ?_)
    refine (askK_of (idm_ok K L ms hm hl) _).trans ?_
    simp only [ND, r_le, placeI_all]
    cases ms.all rightMoB <;> rfl
   refine (askK_of g _).trans ?_
   simp only [ND]
   cases ms.all rightMoB <;> rfl
  ·rw [r_le, decide_eq_false (show ¬ (ms.length : Int) ≤ 64 by omega), decide_eq_false h1, Bool.and_false, Bool.false_and]
   rfl
 ·refine (br_ltF (by omega)).trans ?_
  rw [decide_eq_false h0, Bool.false_and, Bool.false_and]
theorem monoText_ok (m : Mo) (h : rightMoB m = true) : D.ask (.fn 57) [.agg (eMo m)] [] = some (sv (bstr (moText m)), []) := by
 obtain ⟨ng, nu, va⟩ := m
 refine K.fn' hn57 _ rfl ((e57 ..).trans ?_)
 unfold rightMoB at h
 simp only [Bool.and_eq_true, Bool.or_eq_true, decide_eq_true_eq] at h
 have h1 : nu.size ≤ 60 := by
  rw [size_list]
  rcases h.1.2 with h | h
  ·rw [h]; simp [bstr]
  ·exact numB_len h
 have h2 : va.size ≤ 20 := by
  rw [size_list]
  rcases h.2 with h | h
  ·rw [h]; simp [bstr]
  ·exact nameB_len h
 have s1 : (bstr [42]).size = 1 := rfl
 unfold moText
 simp only [r_seq, r_slen, r_cat]
 by_cases hn : nu = bstr []
 ·simp only [hn, decide_true, ND, ne_eq, not_true, false_and, if_false]
  refine (br_ble (by rw [← hn]; omega) _ _).trans ?_
  rw [cat_bstr]
 ·simp only [hn, decide_false, ND, ne_eq, not_false_eq_true, true_and]
  by_cases hv : va = bstr []
  ·simp only [hv, decide_true, ND, not_true, if_false]
   refine (br_ble (by rw [← hv]; omega) _ _).trans ?_
   rw [cat_bstr]
  ·simp only [hv, decide_false, ND, not_false_eq_true, if_true]
   have s2 : (nu ++ bstr [42]).size = nu.size + 1 := by simp [s1]
   refine (br_ble (by rw [s1]; omega) _ _).trans ?_
   refine (br_ble (by rw [s2]; omega) _ _).trans ?_
   rw [cat_bstr (nu ++ bstr [42]), cat_bstr nu, bstr_data, bstr_data]
end
end Go.Proofs.YtlmhajfbpplpoaaGreat
namespace Go.Proofs
open Go.Shelf
def Tryz.lays169_ren : Go.Shelf.Ren := ⟨fun | 169 => 58 | n => n, fun | 70 => 116 | 9 => 9 | 0 => 0 | 72 => 119 | 37 => 117 | 127 => 176 | 3 => 3 | 5 => 5 | n => n, fun | n => n⟩
theorem Tryz.lays169 : Go.Proofs.Lays.n169 Tryz.prog Tryz.lays169_ren := {
 mixed := by kernel_rfl
 f169 := Tryz.func58.trans (congrArg some (by kernel_rfl))
 t0 := Tryz.underlying0
 a0 := Tryz.isAgg0
 z0 := Tryz.sizeOf0
 v0 := Tryz.zeroValue0
 t3 := Tryz.underlying3
 a3 := Tryz.isAgg3
 z3 := Tryz.sizeOf3
 v3 := Tryz.zeroValue3
 t9 := Tryz.underlying9
 a9 := Tryz.isAgg9
 z9 := Tryz.sizeOf9
 v9 := Tryz.zeroValue9
 t37 := Tryz.underlying117
 a37 := Tryz.isAgg117
 z37 := Tryz.sizeOf117
 v37 := Tryz.zeroValue117
 t70 := Tryz.underlying116
 a70 := Tryz.isAgg116
 z70 := Tryz.sizeOf116
 v70 := Tryz.zeroValue116
 t72 := Tryz.underlying119
 a72 := Tryz.isAgg119
 z72 := Tryz.sizeOf119
 v72 := Tryz.zeroValue119
 t127 := Tryz.underlying176
 a127 := Tryz.isAgg176
 z127 := Tryz.sizeOf176
 v127 := Tryz.zeroValue176 }
theorem Tryz.Builder_Extra_169 : Builder.Extra Tryz.prog Tryz.lays169_ren := {
 sizeBuilder := by kernel_rfl
 liesBuilder := by kernel_rfl
 t5 := Tryz.underlying5
 a5 := Tryz.isAgg5
 z5 := Tryz.sizeOf5
 v5 := Tryz.zeroValue5
 infoByte := by kernel_rfl
 cellsByte := by kernel_rfl
 sizeByte := by kernel_rfl
 neB5 := by decide }
open Go.RowKit in
theorem Tryz.Builder_String_any (B b : Nat) (l : List UInt8) (w : World) (h : Lib.IsBuilder 119 5 B b (Lib.byteCells l) w) (hBw : B ≤ w.heap.size) :
  Calls Tryz.prog 58 #[.pointer (some ⟨b, 0, none⟩)] w fun e w' => e = .returned (.string ⟨l.toArray⟩) ∧ Below B w w' := Any.Builder_String_any Tryz.lays169 Tryz.Builder_Extra_169 B b l w h hBw
def Tryz.lays137_ren : Go.Shelf.Ren := ⟨fun | 137 => 245 | 217 => 261 | 266 => 274 | n => n, fun | 9 => 9 | 5 => 5 | 3 => 3 | n => n, fun | n => n⟩
theorem Tryz.lays137 : Go.Proofs.Lays.n137 Tryz.prog Tryz.lays137_ren := {
 mixed := by kernel_rfl
 f137 := Tryz.func245.trans (congrArg some (by kernel_rfl))
 f217 := Tryz.func261.trans (congrArg some (by kernel_rfl))
 f266 := Tryz.func274.trans (congrArg some (by kernel_rfl))
 t3 := Tryz.underlying3
 a3 := Tryz.isAgg3
 z3 := Tryz.sizeOf3
 v3 := Tryz.zeroValue3
 t5 := Tryz.underlying5
 a5 := Tryz.isAgg5
 z5 := Tryz.sizeOf5
 v5 := Tryz.zeroValue5
 t9 := Tryz.underlying9
 a9 := Tryz.isAgg9
 z9 := Tryz.sizeOf9
 v9 := Tryz.zeroValue9 }
open Go.RowKit in
theorem Tryz.strings_IndexByte (s : ByteArray) (c : Int) (w : World) :
  Calls Tryz.prog 245 #[.string s, .int .u8 c] w fun e w' => e = .returned (.int .i64 (Lib.indexByte s.data.toList c.toNat.toUInt8)) ∧ w' = w := Any.strings_IndexByte Tryz.lays137 s c w
def Tryz.lays99_ren : Go.Shelf.Ren := ⟨fun | 99 => 247 | 206 => 241 | n => n, fun | 9 => 9 | 4 => 4 | 3 => 3 | n => n, fun | n => n⟩
theorem Tryz.lays99 : Go.Proofs.Lays.n99 Tryz.prog Tryz.lays99_ren := {
 mixed := by kernel_rfl
 f99 := Tryz.func247.trans (congrArg some (by kernel_rfl))
 f206 := Tryz.func241.trans (congrArg some (by kernel_rfl))
 t3 := Tryz.underlying3
 a3 := Tryz.isAgg3
 z3 := Tryz.sizeOf3
 v3 := Tryz.zeroValue3
 t4 := Tryz.underlying4
 a4 := Tryz.isAgg4
 z4 := Tryz.sizeOf4
 v4 := Tryz.zeroValue4
 t9 := Tryz.underlying9
 a9 := Tryz.isAgg9
 z9 := Tryz.sizeOf9
 v9 := Tryz.zeroValue9 }
open Go.RowKit Go.Lib in
theorem Tryz.strings_HasPrefix (s p : ByteArray) (w : World) :
  Calls Tryz.prog 247 #[.string s, .string p] w fun e w' => e = .returned (.bool (Lib.hasPrefix s.data.toList p.data.toList)) ∧ w' = w := Any.strings_HasPrefix Tryz.lays99 s p w
def Tryz.lays110_ren : Go.Shelf.Ren := ⟨fun | 110 => 219 | 109 => 88 | n => n, fun | 31 => 47 | 9 => 9 | 4 => 4 | 3 => 3 | 0 => 0 | n => n, fun | n => n⟩
theorem Tryz.lays110 : Go.Proofs.Lays.n110 Tryz.prog Tryz.lays110_ren := {
 mixed := by kernel_rfl
 f109 := Tryz.func88.trans (congrArg some (by kernel_rfl))
 f110 := Tryz.func219.trans (congrArg some (by kernel_rfl))
 t0 := Tryz.underlying0
 a0 := Tryz.isAgg0
 z0 := Tryz.sizeOf0
 v0 := Tryz.zeroValue0
 t3 := Tryz.underlying3
 a3 := Tryz.isAgg3
 z3 := Tryz.sizeOf3
 v3 := Tryz.zeroValue3
 t4 := Tryz.underlying4
 a4 := Tryz.isAgg4
 z4 := Tryz.sizeOf4
 v4 := Tryz.zeroValue4
 t9 := Tryz.underlying9
 a9 := Tryz.isAgg9
 z9 := Tryz.sizeOf9
 v9 := Tryz.zeroValue9
 t31 := Tryz.underlying47
 a31 := Tryz.isAgg47
 z31 := Tryz.sizeOf47
 v31 := Tryz.zeroValue47 }
open Go.Lib in
theorem Tryz.slices_Contains_string (b off n c : Nat) (zs : List ByteArray) (x : ByteArray) (w : World) (hz : n ≤ zs.length) (hbig : n ≤ 9223372036854775807) (hc : ∀ j, j < zs.length → w.cell? ⟨b, off + j, none⟩ = some (.string (zs.getD j ByteArray.empty))) :
  Calls Tryz.prog 219 #[.slice (some ⟨b, off, none⟩) n c, .string x] w fun e w' => e = .returned (.bool (Lib.containsS (zs.take n) x)) ∧ w' = w := Any.slices_Contains_string Tryz.lays110 b off n c zs x w hz hbig hc
end Go.Proofs
namespace Go.Proofs.YtlmhajfbpplpoaaGreat
open Go.RowKit

theorem below_drew {B : Nat} {W w : World} (h : Below B W w) : Below B W w.drew := h.drew
theorem below_undrew {w w' : World} (h : Below w.drew.heap.size w.drew w') : Below w.heap.size w w' := ⟨h.os, h.tape, h.output, h.size, h.block⟩
theorem below_alloc {W w : World} {o : Obj} (h : Below W.heap.size W w) : Below W.heap.size W (w.alloc o) := h.alloc h.size o
theorem below_set {W w : World} {p : Addr} {u : Value} (h : Below W.heap.size W w) (hp : W.heap.size ≤ p.block) : Below W.heap.size W (w.setCell p u) := h.setCell hp u
theorem below_call {W w w' : World} (h : Below W.heap.size W w) (hb : Below w.heap.size w w') : Below W.heap.size W w' := h.trans (hb.mono h.size)
theorem below_one (w : World) (o : Obj) : Below w.heap.size w (w.alloc o) := (Below.refl _ _).alloc (Nat.le_refl _) o

theorem ret_bool {a b : Bool} (h : a = b) : Ending.returned (.bool a) = .returned (.bool b) := by rw [h]

def Blk (w : World) (g : Nat) (t : TypeId) (cs : Array Value) : Prop := w.heap[g]? = some (.cells cs t (0, 0))

section
variable {w w' : World} {g : Nat} {t : TypeId} {cs : Array Value}
theorem Blk.lt (h : Blk w g t cs) : g < w.heap.size := by
 rcases Nat.lt_or_ge g w.heap.size with hlt | hge
 ·exact hlt
 ·unfold Blk at h; rw [Array.getElem?_eq_none hge] at h; cases h
theorem Blk.cell (h : Blk w g t cs) (i : Nat) : w.cell? ⟨g, i, none⟩ = cs[i]? := cell_of_row w g i cs t (0, 0) h
theorem Blk.frozen (h : Blk w g t cs) (i : Nat) : w.frozen? ⟨g, i, none⟩ = false := by
 unfold Blk at h
 simp [World.frozen?, h]
theorem Blk.new (w : World) (t : TypeId) (cs : Array Value) : Blk (w.alloc (.cells cs t)) w.heap.size t cs := heap_alloc_new w _
theorem Blk.drew (h : Blk w g t cs) : Blk w.drew g t cs := h
theorem Blk.alloc (h : Blk w g t cs) (o : Obj) : Blk (w.alloc o) g t cs := (Below.heap_alloc w o g h.lt).trans h
theorem Blk.set_ (h : Blk w g t cs) (i : Nat) (u : Value) : Blk (w.setCell ⟨g, i, none⟩ u) g t (cs.setIfInBounds i u) := by
 unfold Blk at h ⊢
 simp [World.setCell, Array.getElem?_modify, h]
theorem Blk.far (h : Blk w g t cs) {p : Addr} (hp : g ≠ p.block) (u : Value) : Blk (w.setCell p u) g t cs := (Below.heap_setCell w p u g hp).trans h
theorem Blk.below {B : Nat} (h : Blk w g t cs) (hb : Below B w w') (hg : g < B) : Blk w' g t cs := (hb.block g hg).trans h
theorem Blk.call (h : Blk w g t cs) (hb : Below w.heap.size w w') : Blk w' g t cs := h.below hb h.lt
end

def Own (w : World) (B g : Nat) (t : TypeId) (v : Value) (cs : Array Value) : Prop := B ≤ g ∧ v = .pointer (some ⟨g, 0, none⟩) ∧ Blk w g t cs
section
variable {w w' : World} {B g : Nat} {t : TypeId} {v : Value} {cs : Array Value}
theorem Own.call (h : Own w B g t v cs) (hb : Below w.heap.size w w') : Own w' B g t v cs := ⟨h.1, h.2.1, h.2.2.call hb⟩
theorem Own.far (h : Own w B g t v cs) {p : Addr} (hp : g ≠ p.block) (u : Value) : Own (w.setCell p u) B g t v cs := ⟨h.1, h.2.1, h.2.2.far hp u⟩
theorem Own.new {w : World} {B : Nat} (t : TypeId) (cs : Array Value) (hB : B ≤ w.heap.size) : Own (w.alloc (.cells cs t)) B w.heap.size t (.pointer (some ⟨w.heap.size, 0, none⟩)) cs := ⟨hB, rfl, Blk.new w t cs⟩
end
def pick {α : Type} (d : Bool) (x y : α) : α := match d with | true => x | false => y

section
variable {w w' : World} {base base' e size n : Nat} {v : Value} {xs : List Value}
theorem grown_of_below {row : Option Nat} (hb : Below w.heap.size w w') : w.grownBy w' row := ⟨hb.os, hb.tape, hb.output, hb.size, fun k hk _ => hb.block k hk⟩
theorem own_call (h : w.ownsRow base e size v n xs) (hb : Below w.heap.size w w') : w'.ownsRow base e size v n xs := h.kept (row := none) (grown_of_below hb) (by cases hv : v.ownBlock <;> simp)
theorem own_base (h : w.ownsRow base e size v n xs) (hb : base' ≤ base) : w.ownsRow base' e size v n xs :=
 ⟨h.1, h.2.imp id fun ⟨g, cap, cur, h1, h2, h3⟩ => ⟨g, cap, cur, h1, Nat.le_trans hb h2, h3⟩⟩
theorem below_grown {W : World} {row : Option Nat} (h : Below W.heap.size W w) (hg : w.grownBy w' row) (hr : ∀ k, row = some k → W.heap.size ≤ k) : Below W.heap.size W w' := h.grown hg h.size hr
theorem own_ge {B : Nat} (h : w.ownsRow base e size v n xs) (hB : B ≤ base) : ∀ k, v.ownBlock = some k → B ≤ k := fun k hk => Nat.le_trans hB (h.lt k hk).1
end
end Go.Proofs.YtlmhajfbpplpoaaGreat
namespace Go.Proofs.YtlmhajfbpplpoaaGreat
open Go.RowKit
theorem byte_info : (Tryz.prog.info? 5).map (fun i => (i.zero, i.size, i.bytes)) = some (some (.int .u8 0), 1, 1) := by kernel_rfl
theorem bld_size : (Tryz.prog.info? 119).map (·.size) = some 2 := by kernel_rfl
theorem bld_lies : liesAt Tryz.prog Tryz.prog.depth 119 (2 / Tryz.prog.cellsOf 119) 0 119 1 = true := by kernel_rfl
set_option maxHeartbeats 1000000 in
set_option maxRecDepth 100000 in
theorem copyCheck_used (b : Nat) (w : World) (h0 : w.cell? ⟨b, 0, none⟩ = some (.pointer (some ⟨b, 0, none⟩))) :
  Calls Tryz.prog 106 #[.pointer (some ⟨b, 0, none⟩)] w fun e w' => e = .returned (.tuple #[]) ∧ w' = w := by
 obtain ⟨j, hj, _⟩ := Option.map_eq_some_iff.1 bld_size
 go_enter Tryz.func106, Tryz.ntmps106
 go_wp2
 rw [Lib.run_neq_ptr_same w _ Tryz.underlying116 hj]
 go_wp2
 go_end0
 exact ⟨rfl, rfl⟩
set_option maxHeartbeats 1000000 in
set_option maxRecDepth 100000 in
theorem copyCheck_fresh (b : Nat) (w : World) (h0 : w.cell? ⟨b, 0, none⟩ = some (.pointer none)) (hsh : w.shape? b = some (119, 2)) (hfz : w.frozen? ⟨b, 0, none⟩ = false) :
  Calls Tryz.prog 106 #[.pointer (some ⟨b, 0, none⟩)] w fun e w' => e = .returned (.tuple #[]) ∧ w' = w.setCell ⟨b, 0, none⟩ (.pointer (some ⟨b, 0, none⟩)) := by
 obtain ⟨j, hj, hjs⟩ := Option.map_eq_some_iff.1 bld_size
 go_enter Tryz.func106, Tryz.ntmps106
 go_wp2
 rw [Lib.run_to_unsafe w ⟨b, 0, none⟩ Tryz.underlying116 Tryz.underlying222 hj (by rw [hjs]; decide) hsh (Nat.zero_lt_succ 1)]
 simp only [Result.andThen]
 rw [Oper.upon_value]
 go_wp2
 rw [run_callFunc_extern Tryz.func167 (by kernel_rfl) (by kernel_rfl) (by kernel_rfl) (e := Extern.AbiNoEscape.same) (by kernel_rfl)]
 rw [Lib.run_noEscape]
 simp only [Result.andThen]
 rw [Oper.upon_value]
 go_wp2
 rw [Lib.run_from_unsafe w ⟨b, 0, none⟩ Tryz.underlying222 Tryz.underlying116 hj hsh bld_lies]
 simp only [Result.andThen]
 rw [Oper.upon_value]
 go_wp2
 go_end0
 exact ⟨rfl, rfl⟩
theorem copyCheck_any (B b : Nat) (bs : List Value) (w : World) (h : Lib.IsBuilder 119 5 B b bs w) :
  Calls Tryz.prog 106 #[.pointer (some ⟨b, 0, none⟩)] w fun e w' => e = .returned (.tuple #[]) ∧ (Lib.BuilderAt 119 5 B b (.pointer (some ⟨b, 0, none⟩)) bs w' ∧ Below B w w' ∧ ∀ k, k ≠ b → w'.heap[k]? = w.heap[k]?) := by
 rcases h with h | h
 ·refine (copyCheck_fresh b w h.cell0 h.shape h.frozen0).mono ?_
  rintro e w' ⟨rfl, rfl⟩
  exact ⟨rfl, h.used _, (Below.refl B w).setCell (p := ⟨b, 0, none⟩) h.1 _, fun k hk => Below.heap_setCell _ _ _ _ hk⟩
 ·refine (copyCheck_used b w h.cell0).mono ?_
  rintro e w' ⟨rfl, rfl⟩
  exact ⟨rfl, h, Below.refl B _, fun _ _ => rfl⟩
set_option maxHeartbeats 2000000 in
set_option maxRecDepth 100000 in
theorem writeString_any (B b : Nat) (bs : List Value) (s : ByteArray) (w : World) (h : Lib.IsBuilder 119 5 B b bs w) (hlen : bs.length + s.size ≤ 140737488355328) (hBw : B ≤ w.heap.size) :
  Calls Tryz.prog 56 #[.pointer (some ⟨b, 0, none⟩), .string s] w fun e w' => e = .returned (.tuple #[.int .i64 s.size, .nilIface]) ∧ (Lib.BuilderAt 119 5 B b (.pointer (some ⟨b, 0, none⟩)) (bs ++ Lib.strCells s) w' ∧ Below B w w' ∧ ∀ k cs T fr, w.heap[k]? = some (.cells cs T fr) → k ≠ b → T ≠ 5 → w'.heap[k]? = some (.cells cs T fr)) := by
 obtain ⟨i0, hi, hz0, hz1, hz2⟩ := info_parts byte_info
 go_enter Tryz.func56, Tryz.ntmps56
 go_wp2_with (go_at_call 106; refine (copyCheck_any B b bs _ h).mono ?_)
 rintro e w1 ⟨rfl, h1, hb1, hk1⟩
 obtain ⟨hB, v, hbk, hown, hne⟩ := h1
 have c0 : w1.cell? ⟨b, 0, none⟩ = some (.pointer (some ⟨b, 0, none⟩)) := by rw [Lib.cell_of_heap hbk]; rfl
 have c1 : w1.cell? ⟨b, 1, none⟩ = some v := by rw [Lib.cell_of_heap hbk]; rfl
 go_wp2_with (at_builtin; refine Lib.wpList_append_own_string _ rfl _ _ 117 9 rfl B 5 i0 Tryz.underlying117 Tryz.underlying9 hi hz0 hz1 hz2 _ _ _ rfl hown s rfl ?c3 ?c4 ?c5 ?_)
 case c3 => unfold maxLen; omega
 case c4 => omega
 case c5 => have := hb1.size; omega
 intro v' w2 hown' hgrow _
 have hlt : b < w1.heap.size := by
  rcases Nat.lt_or_ge b w1.heap.size with h' | h'
  ·exact h'
  ·simp [Array.getElem?_eq_none h'] at hbk
 have hb2 : w2.heap[b]? = some (.cells #[.pointer (some ⟨b, 0, none⟩), v] 119 (0, 0)) := by
  rw [hgrow.block b hlt (fun e => hne e.symm)]
  exact hbk
 have d0 : w2.cell? ⟨b, 0, none⟩ = some (.pointer (some ⟨b, 0, none⟩)) := by rw [Lib.cell_of_heap hb2]; rfl
 have d1 : w2.cell? ⟨b, 1, none⟩ = some v := by rw [Lib.cell_of_heap hb2]; rfl
 have f1 : w2.frozen? ⟨b, 1, none⟩ = false := Lib.frozen_of_heap hb2 1
 obtain ⟨ao, n', cap, rfl⟩ : ∃ ao n' cap, v' = .slice ao n' cap := by
  rcases hown'.2 with ⟨hv, _⟩ | ⟨g, cap, cur, hv, _⟩
  ·exact ⟨_, _, _, hv⟩
  ·exact ⟨_, _, _, hv⟩
 go_wp2
 go_ret2
 refine ⟨rfl, ?_, ?_, ?_⟩
 ·exact Lib.BuilderAt.put (T := 119) (e := 5) hB hb2 (bs' := bs ++ Lib.strCells s) (by simpa [Lib.strCells_length] using hown') (by decide)
 ·exact (hb1.grown hgrow (by have := hb1.size; omega) (fun k hk => (hown.lt k hk).1)).setCell (p := ⟨b, 1, none⟩) hB _
 ·intro k cs T fr hk hkb hT
  have h1 := (hk1 k hkb).trans hk
  have hlk : k < w1.heap.size := by
   rcases Nat.lt_or_ge k w1.heap.size with h' | h'
   ·exact h'
   ·simp [Array.getElem?_eq_none h'] at h1
  have h2 := (hgrow.block k hlk fun e => Lib.ownBlock_ne hown h1 hT e.symm).trans h1
  exact (Below.heap_setCell _ _ _ _ hkb).trans h2
end Go.Proofs.YtlmhajfbpplpoaaGreat
namespace Go.Proofs.YtlmhajfbpplpoaaGreat
open Ieee

def enc (n : Nat) : Nat := Ieee.double.nearest false n 0

theorem log2_shift (n k : Nat) (h : n ≠ 0) : (n * 2 ^ k).log2 = n.log2 + k := by
 have h1 := (Nat.log2_eq_iff h).1 rfl
 rw [Nat.log2_eq_iff (by have := Nat.two_pow_pos k; exact Nat.mul_ne_zero h (by omega))]
 refine ⟨?_, ?_⟩
 ·rw [Nat.pow_add]; exact Nat.mul_le_mul_right _ h1.1
 ·rw [show n.log2 + k + 1 = n.log2 + 1 + k by omega, Nat.pow_add]
  exact Nat.mul_lt_mul_of_pos_right h1.2 (Nat.two_pow_pos k)
theorem log2_small {n : Nat} (h : n ≠ 0) (hn : n < 2 ^ 50) : n.log2 < 50 := (Nat.log2_lt h).2 hn
theorem least : Ieee.double.leastPlace = -1074 := by decide
theorem bin : Ieee.double.binade = 2 ^ 52 := rfl
theorem infr : Ieee.double.infRung = 2047 * 2 ^ 52 := by decide +kernel
theorem sgnw : Ieee.double.signWeight = 2 ^ 63 := rfl

theorem cut_exact (way : Toward) (n k d : Nat) (hk : d ≤ k) (h : n ≠ 0) : way.cut false (n * 2 ^ k) d = n * 2 ^ (k - d) := by
 unfold Toward.cut
 rw [log2_shift n k h, Nat.min_eq_left (by omega), Nat.one_shiftLeft]
 have e : n * 2 ^ k = n * 2 ^ (k - d) * 2 ^ d := by rw [Nat.mul_assoc, ← Nat.pow_add, Nat.sub_add_cancel hk]
 rw [e]
 dsimp only
 rw [Nat.mul_div_cancel _ (Nat.two_pow_pos d), Nat.mul_mod_left]
 have hp := Nat.two_pow_pos d
 cases way
 ·have h1 : decide (2 ^ d < 2 * 0) = false := by simp
  have h2 : (2 ^ d == 2 * 0) = false := by simp
  simp only [h1, h2, Bool.false_and, Bool.or_self, Bool.toNat_false, Nat.add_zero]
 all_goals simp
theorem word_le {L m : Nat} (hL : L < 50) (h3 : m < 2 ^ 53) : (L + 1022) * 2 ^ 52 + m ≤ 2047 * 2 ^ 52 := by
 have h1 : (L + 1022) * 2 ^ 52 ≤ 1072 * 2 ^ 52 := Nat.mul_le_mul_right _ (by omega)
 have h2 : m < 2 ^ 52 * 2 := h3
 generalize (2 ^ 52 : Nat) = B at *
 generalize (L + 1022) * B = C at *
 omega
theorem place_eq (L : Nat) : (-1074 : Int) + ((L + 1023 - 1 : Nat) : Int) = (L : Int) - 52 := by omega
theorem nearest_shift (n k : Nat) (h : n ≠ 0) (hn : n < 2 ^ 50) (hk : 52 ≤ k) (hk2 : k ≤ 1074) : Ieee.double.nearest false (n * 2 ^ k) (-k) = (n.log2 + 1022) * 2 ^ 52 + n * 2 ^ (52 - n.log2) := by
 have hL := log2_small h hn
 have h1 := (Nat.log2_eq_iff h).1 rfl
 have h0 : n * 2 ^ k ≠ 0 := Nat.mul_ne_zero h (by have := Nat.two_pow_pos k; omega)
 unfold Format.nearest
 rw [if_neg h0, log2_shift n k h, least, bin, infr]
 have e1 : max (-(k : Int) + ((n.log2 + k : Nat) : Int) - ((Ieee.double.fractionBits : Nat) : Int)) (-1074) = (n.log2 : Int) - 52 := by
  show max (-(k : Int) + ((n.log2 + k : Nat) : Int) - ((52 : Nat) : Int)) (-1074) = _
  omega
 simp only [e1]
 rw [show (-(k : Int) - ((n.log2 : Int) - 52)).toNat = 0 by omega, Nat.shiftLeft_zero]
 rw [show ((n.log2 : Int) - 52 - -(k : Int)).toNat = n.log2 + k - 52 by omega]
 rw [cut_exact .even n k _ (by omega) h, show k - (n.log2 + k - 52) = 52 - n.log2 by omega]
 rw [show ((n.log2 : Int) - 52 - -1074).toNat = n.log2 + 1022 by omega]
 have h3 : n * 2 ^ (52 - n.log2) < 2 ^ 53 := by
  have := Nat.mul_lt_mul_of_pos_right h1.2 (Nat.two_pow_pos (52 - n.log2))
  rwa [← Nat.pow_add, show n.log2 + 1 + (52 - n.log2) = 53 by omega] at this
 rw [Nat.min_eq_left]
 ·unfold Format.word; simp
 ·exact word_le hL h3
theorem enc_eq (n : Nat) (h : n ≠ 0) (hn : n < 2 ^ 50) : enc n = (n.log2 + 1022) * 2 ^ 52 + n * 2 ^ (52 - n.log2) := by
 have hL := log2_small h hn
 have h1 := (Nat.log2_eq_iff h).1 rfl
 unfold enc Format.nearest
 rw [if_neg h, least, bin, infr]
 have e1 : max ((0 : Int) + (n.log2 : Int) - ((Ieee.double.fractionBits : Nat) : Int)) (-1074) = (n.log2 : Int) - 52 := by
  show max ((0 : Int) + (n.log2 : Int) - ((52 : Nat) : Int)) (-1074) = _
  omega
 simp only [e1]
 rw [show ((0 : Int) - ((n.log2 : Int) - 52)).toNat = 52 - n.log2 by omega, show ((n.log2 : Int) - 52 - 0).toNat = 0 by omega, Nat.shiftLeft_eq]
 rw [cut_exact .even n (52 - n.log2) 0 (by omega) h, Nat.sub_zero]
 rw [show ((n.log2 : Int) - 52 - -1074).toNat = n.log2 + 1022 by omega]
 have h3 : n * 2 ^ (52 - n.log2) < 2 ^ 53 := by
  have := Nat.mul_lt_mul_of_pos_right h1.2 (Nat.two_pow_pos (52 - n.log2))
  rwa [← Nat.pow_add, show n.log2 + 1 + (52 - n.log2) = 53 by omega] at this
 rw [Nat.min_eq_left]
 ·unfold Format.word; simp
 ·exact word_le hL h3
theorem enc_shift (n k : Nat) (h : n ≠ 0) (hn : n < 2 ^ 50) (hk : 52 ≤ k) (hk2 : k ≤ 1074) : Ieee.double.nearest false (n * 2 ^ k) (-k) = enc n := (nearest_shift n k h hn hk hk2).trans (enc_eq n h hn).symm
theorem read_enc (n : Nat) (h : n ≠ 0) (hn : n < 2 ^ 50) : Ieee.double.read (enc n) = .number false (n * 2 ^ (52 - n.log2)) ((n.log2 : Int) - 52) := by
 have hL := log2_small h hn
 have h1 := (Nat.log2_eq_iff h).1 rfl
 rw [enc_eq n h hn]
 have h2 : 2 ^ 52 ≤ n * 2 ^ (52 - n.log2) := by
  have := Nat.mul_le_mul_right (2 ^ (52 - n.log2)) h1.1
  rwa [← Nat.pow_add, show n.log2 + (52 - n.log2) = 52 by omega] at this
 have h3 : n * 2 ^ (52 - n.log2) < 2 ^ 53 := by
  have := Nat.mul_lt_mul_of_pos_right h1.2 (Nat.two_pow_pos (52 - n.log2))
  rwa [← Nat.pow_add, show n.log2 + 1 + (52 - n.log2) = 53 by omega] at this
 generalize n * 2 ^ (52 - n.log2) = m at *
 generalize n.log2 = L at *
 unfold Format.read
 rw [sgnw, bin, infr, least]
 have hw : (L + 1022) * 2 ^ 52 + m < 2 ^ 63 := by
  have : (L + 1022) * 2 ^ 52 ≤ 1072 * 2 ^ 52 := Nat.mul_le_mul_right _ (by omega)
  omega
 have hm : ((L + 1022) * 2 ^ 52 + m) % 2 ^ 63 = (L + 1022) * 2 ^ 52 + m := Nat.mod_eq_of_lt hw
 have hd : ((L + 1022) * 2 ^ 52 + m) / 2 ^ 63 = 0 := Nat.div_eq_of_lt hw
 have hlt : (L + 1022) * 2 ^ 52 ≤ 1072 * 2 ^ 52 := Nat.mul_le_mul_right _ (by omega)
 simp only [hm, hd]
 have hq : ((L + 1022) * 2 ^ 52 + m) / 2 ^ 52 = L + 1023 := by omega
 have hr : ((L + 1022) * 2 ^ 52 + m) % 2 ^ 52 = m - 2 ^ 52 := by omega
 rw [hq, hr, if_neg (by omega), if_pos (by omega)]
 have z : ((0 : Nat) % 2 == 1) = false := rfl
 rw [z, show 2 ^ 52 + (m - 2 ^ 52) = m by omega]
 rw [place_eq]
theorem enc_one : enc 1 = 4607182418800017408 := by decide +kernel
theorem read_zero : Ieee.double.read 0 = .number false 0 (-1074) := by decide +kernel

theorem add_one (n : Nat) (h : n ≠ 0) (hn : n < 2 ^ 49) : floatBits .add .f64 (enc n) 4607182418800017408 = some (enc (n + 1)) := by
 have hL := log2_small h (by omega)
 rw [← enc_one]
 show Ieee.double.add (enc n) (enc 1) = _
 unfold Format.add
 rw [read_enc n h (by omega), read_enc 1 (by decide) (by decide)]
 have l1 : Nat.log2 1 = 0 := by decide
 rw [l1]
 unfold Datum.sum
 simp only
 have hb : min ((n.log2 : Int) - 52) (((0 : Nat) : Int) - 52) = -52 := by omega
 rw [hb, show ((n.log2 : Int) - 52 - -52).toNat = n.log2 by omega, show (((0 : Nat) : Int) - 52 - -52).toNat = 0 by omega]
 unfold signed
 simp only [Bool.false_eq_true, if_false]
 rw [Nat.shiftLeft_eq, Nat.shiftLeft_zero, Nat.mul_assoc, ← Nat.pow_add, show 52 - n.log2 + n.log2 = 52 by omega]
 have e : ((n * 2 ^ 52 : Nat) : Int) + ((1 * 2 ^ (52 - 0) : Nat) : Int) = (((n + 1) * 2 ^ 52 : Nat) : Int) := by
  rw [Nat.add_mul]; omega
 rw [e, if_neg (by omega), Int.natAbs_natCast]
 have hd : decide ((((n + 1) * 2 ^ 52 : Nat) : Int) < 0) = false := by rw [decide_eq_false_iff_not]; omega
 rw [hd]
 show some (Ieee.double.nearest false ((n + 1) * 2 ^ 52) (-((52 : Nat) : Int))) = _
 rw [enc_shift (n + 1) 52 (by omega) (by omega) (by decide) (by decide)]
theorem add_zero' (n : Nat) (h : n ≠ 0) (hn : n < 2 ^ 49) : floatBits .add .f64 (enc n) 0 = some (enc n) := by
 have hL := log2_small h (by omega)
 show Ieee.double.add (enc n) 0 = _
 unfold Format.add
 rw [read_enc n h (by omega), read_zero]
 unfold Datum.sum
 simp only
 obtain ⟨K, hK⟩ : ∃ K : Nat, K = 1074 := ⟨_, rfl⟩
 have hb : min ((n.log2 : Int) - 52) (-1074) = -(K : Int) := by omega
 rw [hb, show ((n.log2 : Int) - 52 - -(K : Int)).toNat = n.log2 + K - 52 by omega, show ((-1074 : Int) - -(K : Int)).toNat = 0 by omega]
 unfold signed
 simp only [Bool.false_eq_true, if_false]
 rw [Nat.shiftLeft_eq, Nat.shiftLeft_zero, Nat.mul_assoc, ← Nat.pow_add, show 52 - n.log2 + (n.log2 + K - 52) = K by omega]
 have hp : 0 < n * 2 ^ K := Nat.mul_pos (by omega) (Nat.two_pow_pos _)
 rw [show ((n * 2 ^ K : Nat) : Int) + ((0 : Nat) : Int) = ((n * 2 ^ K : Nat) : Int) by omega, if_neg (by omega), Int.natAbs_natCast]
 have hd : decide (((n * 2 ^ K : Nat) : Int) < 0) = false := by rw [decide_eq_false_iff_not]; omega
 rw [hd]
 show some (Ieee.double.nearest false (n * 2 ^ K) (-(K : Int))) = _
 rw [enc_shift n K h (by omega) (by omega) (by omega)]
theorem enc_int (n : Nat) (h : n ≠ 0) (hn : n < 2 ^ 49) : floatToIntVal .f64 (enc n) .i64 = some (n : Int) := by
 have hL := log2_small h (by omega)
 unfold floatToIntVal
 show (match (Ieee.double.read (enc n)).toInt .zero with | some m => if IntKind.i64.min ≤ m ∧ m ≤ IntKind.i64.max then some m else none | none => none) = _
 rw [read_enc n h (by omega)]
 unfold Datum.toInt Datum.integral
 simp only
 rw [show ((n.log2 : Int) - 52).toNat = 0 by omega, Nat.shiftLeft_zero, show (-((n.log2 : Int) - 52)).toNat = 52 - n.log2 by omega]
 rw [cut_exact .zero n (52 - n.log2) (52 - n.log2) (Nat.le_refl _) h, Nat.sub_self, Nat.pow_zero, Nat.mul_one]
 unfold signed
 simp only [Bool.false_eq_true, if_false, Nat.shiftLeft_zero]
 have h1 : IntKind.i64.min ≤ (n : Int) := by show (-9223372036854775808 : Int) ≤ _; omega
 have h2 : (n : Int) ≤ IntKind.i64.max := by show _ ≤ (9223372036854775807 : Int); omega
 rw [if_pos ⟨h1, h2⟩]
end Go.Proofs.YtlmhajfbpplpoaaGreat
namespace Go.Proofs.YtlmhajfbpplpoaaGreat
open Go.RowKit

def Iv (w w' : World) (k : Nat) : Prop := w.heap.size ≤ k ∧ k < w'.heap.size
structure Jmp (F : Nat → Prop) (w w' : World) : Prop where
 os : w'.os = w.os
 tape : w'.tape = w.tape
 output : w'.output = w.output
 size : w.heap.size ≤ w'.heap.size
 keep : ∀ k, F k → w'.heap[k]? = w.heap[k]?
section
variable {F G : Nat → Prop} {w w1 w2 : World}
theorem Jmp.refl (F : Nat → Prop) (w : World) : Jmp F w w := ⟨rfl, rfl, rfl, Nat.le_refl _, fun _ _ => rfl⟩
theorem Jmp.trans (h : Jmp F w w1) (k : Jmp F w1 w2) : Jmp F w w2 := ⟨k.os.trans h.os, k.tape.trans h.tape, k.output.trans h.output, Nat.le_trans h.size k.size, fun i hi => (k.keep i hi).trans (h.keep i hi)⟩
theorem Jmp.less (h : Jmp F w w1) (hs : ∀ k, G k → F k) : Jmp G w w1 := ⟨h.os, h.tape, h.output, h.size, fun i hi => h.keep i (hs i hi)⟩
theorem Jmp.below (h : Jmp (Lt w.heap.size) w w1) : Below w.heap.size w w1 := ⟨h.os, h.tape, h.output, h.size, fun i hi => h.keep i hi⟩
theorem Jmp.of_below {B : Nat} (h : Below B w w1) (hF : ∀ k, F k → k < B) : Jmp F w w1 := ⟨h.os, h.tape, h.output, h.size, fun i hi => h.block i (hF i hi)⟩
end

section
variable {P : Program} {md : Region.Mode} {ops : Array Oper} {QX : Exit → Act → World → Prop} {Q : Array Bool → (Nat → Prop) → Act → World → Prop}

def wpJ (P : Program) (md : Region.Mode) (ops : Array Oper) (QX : Exit → Act → World → Prop) (Q : Array Bool → (Nat → Prop) → Act → World → Prop) : Nat → Array Bool → (Nat → Prop) → Act → World → Prop
 | 0, listed, F, a, w => Region.ready md ops listed = [] ∧ ∀ w', Jmp F w w' → Q listed F a w'
 | n + 1, listed, F, a, w => (Region.ready md ops listed = [] → ∀ w', Jmp F w w' → Q listed F a w') ∧
  ∀ i ∈ Region.ready md ops listed, ∀ w', Jmp F w w' → wpOp P ops QX i (fun a2 w2 => Below w'.heap.size w' w2 ∧ wpJ P md ops QX Q n (listed.setIfInBounds i true) (fun k => F k ∨ Iv w' w2 k) a2 w2) a w'

theorem wpJ.jump {n : Nat} {listed : Array Bool} {F : Nat → Prop} {a : Act} {w w' : World} (h : wpJ P md ops QX Q n listed F a w) (hj : Jmp F w w') : wpJ P md ops QX Q n listed F a w' := by
 cases n with
 | zero => exact ⟨h.1, fun w2 h2 => h.2 w2 (hj.trans h2)⟩
 | succ n => exact ⟨fun h0 w2 h2 => h.1 h0 w2 (hj.trans h2), fun i hi w2 h2 => h.2 i hi w2 (hj.trans h2)⟩

theorem Iv_none (w : World) (F : Nat → Prop) : (fun k => F k ∨ Iv w w k) = F := by
 funext k
 unfold Iv
 exact propext ⟨fun h => h.elim id fun h => absurd h.2 (by omega), .inl⟩

theorem yieldsIf_less {S S' : World → Prop} {o : Oper} {v : Value} {a : Act} (h : YieldsIf P ops S o v a) (hs : ∀ w, S' w → S w) : YieldsIf P ops S' o v a :=
 h.imp (fun ⟨h1, h2⟩ => ⟨h1, fun w hw => h2 w (hs w hw)⟩) id

theorem grow_F {F : Nat → Prop} {w w2 : World} (hF : ∀ k, F k → k < w.heap.size) (h : w.heap.size ≤ w2.heap.size) : ∀ k, F k ∨ Iv w w2 k → k < w2.heap.size :=
 fun k hk => hk.elim (fun h1 => Nat.lt_of_lt_of_le (hF k h1) h) fun h1 => h1.2
theorem Jmp.grow {F : Nat → Prop} {w w' : World} (hF : ∀ k, F k → k < w.heap.size) (h : Jmp F w w') : ∀ k, F k → k < w'.heap.size := fun k hk => Nat.lt_of_lt_of_le (hF k hk) h.size

theorem wpJ_first {i : Nat} {oi : Oper} {v : Value} (hi : ops[i]? = some oi) (hsel : ∀ (j : Nat) (o : Oper) cs b, ops[j]? = some o → o.op ≠ .select cs b)
  (hQ : ∀ c a w, QX (.panic c) (a.put oi.dst v) w → QX (.panic c) a w) :
  ∀ (fuel : Nat) (listed : Array Bool) (F : Nat → Prop) (a : Act) (w : World), (∀ k, F k → k < w.heap.size) →
   (∀ j oj, ops[j]? = some oj → j ≠ i → listed.getD j true = false → (∀ e ∈ oj.after, Region.binds md e = true → e.on ≠ i) → oi.apart ops oj = true) →
   i ∈ Region.ready md ops listed → YieldsIf P ops (Jmp F w) oi v a →
   wpJ P md ops QX Q fuel (listed.setIfInBounds i true) F (a.put oi.dst v) w → wpJ P md ops QX Q (fuel + 1) listed F a w := by
 intro fuel
 induction fuel with
 | zero =>
  intro listed F a w hF _ hr hy H
  refine ⟨fun h => (by rw [h] at hr; cases hr), fun j hj w' hw' => ?_⟩
  by_cases hji : j = i
  ·subst hji; exact hy.wpOp hi hw' ⟨Below.refl _ _, by rw [Iv_none]; exact H.jump hw'⟩
  ·have := ready_mono hj hji
   rw [H.1] at this
   cases this
 | succ fuel ih =>
  intro listed F a w hF hfree hr hy H
  refine ⟨fun h => (by rw [h] at hr; cases hr), fun j hj w' hw' => ?_⟩
  by_cases hji : j = i
  ·subst hji; exact hy.wpOp hi hw' ⟨Below.refl _ _, by rw [Iv_none]; exact H.jump hw'⟩
  ·have h1 := H.2 j (ready_mono hj hji) w' hw'
   obtain ⟨hjun, oj, hoj, hall⟩ := mem_ready.1 hj
   have hnot : ∀ e ∈ oj.after, Region.binds md e = true → e.on ≠ i := fun e he hb heq => by
    have h1 := hall e he hb
    have h0 := (mem_ready.1 hr).1
    rw [heq] at h1
    rcases Nat.lt_or_ge i listed.size with h' | h'
    ·simp [h'] at h0 h1; rw [h0] at h1; cases h1
    ·simp [Array.getElem?_eq_none h'] at h1
   have h2 := wpOp_putIf hoj (hfree j oj hoj hji hjun hnot) (fun cs b => hsel i oi cs b hi) (fun cs b => hsel j oj cs b hoj) hQ hy h1
   have hfree' : ∀ k ok, ops[k]? = some ok → k ≠ i → (listed.setIfInBounds j true).getD k true = false →
     (∀ e ∈ ok.after, Region.binds md e = true → e.on ≠ i) → oi.apart ops ok = true := fun k ok hk hki hun hno => by
    refine hfree k ok hk hki ?_ hno
    by_cases hjk : j = k
    ·subst hjk; exact hjun
    ·rw [getD_set_ne true hjk] at hun; exact hun
   have hF' := hw'.grow hF
   refine wpOp_mono (fun a' w2 h3 => ⟨h3.2.1, ih (listed.setIfInBounds j true) _ a' w2 (grow_F hF' h3.2.1.size) hfree' (ready_mono hr (Ne.symm hji)) (yieldsIf_less h3.1 fun w3 h4 => ?_) ?_⟩) h2
   ·exact hw'.trans ((Jmp.of_below h3.2.1 hF').trans (h4.less fun k hk => .inl hk))
   ·rw [Array.setIfInBounds_comm _ _ hji]
    exact h3.2.2

theorem wpJ_take {i : Nat} {oi : Oper} {v : Value} {fuel : Nat} {listed : Array Bool} {F : Nat → Prop} {a : Act} {w : World} (hi : ops[i]? = some oi)
  (hs : Region.noSelect ops = true) (hf : Region.free md ops listed i = true) (hr : (Region.ready md ops listed).contains i = true)
  (hQ : ∀ c a w, QX (.panic c) (a.put oi.dst v) w → QX (.panic c) a w) (hF : ∀ k, F k → k < w.heap.size) (hy : YieldsIf P ops (Jmp F w) oi v a)
  (h : wpJ P md ops QX Q fuel (listed.setIfInBounds i true) F (a.put oi.dst v) w) : wpJ P md ops QX Q (fuel + 1) listed F a w :=
 wpJ_first hi (Region.noSelect_spec hs) hQ fuel listed F a w hF (Region.free_spec hi hf) (by simpa using hr) hy h

theorem wpJ_one {i : Nat} {fuel : Nat} {listed : Array Bool} {F : Nat → Prop} {a : Act} {w : World} (hr : Region.ready md ops listed = [i])
  (h : ∀ w', Jmp F w w' → wpOp P ops QX i (fun a2 w2 => Below w'.heap.size w' w2 ∧ wpJ P md ops QX Q fuel (listed.setIfInBounds i true) (fun k => F k ∨ Iv w' w2 k) a2 w2) a w') : wpJ P md ops QX Q (fuel + 1) listed F a w :=
 ⟨fun h0 => (by rw [hr] at h0; cases h0), fun j hj => by rw [hr] at hj; obtain rfl := List.mem_singleton.1 hj; exact h⟩
theorem wpJ_end {listed : Array Bool} {F : Nat → Prop} {a : Act} {w : World} (hr : Region.ready md ops listed = []) (h : ∀ w', Jmp F w w' → Q listed F a w') : ∀ fuel, wpJ P md ops QX Q fuel listed F a w
 | 0 => ⟨hr, h⟩
 | _ + 1 => ⟨fun _ => h, by rw [hr]; simp⟩

def QBox (base : Nat) (s : Tmp) (T : TypeId) (Z : Array Value) (Q : Array Bool → (Nat → Prop) → Act → World → Prop) : Array Bool → (Nat → Prop) → Act → World → Prop :=
 fun listed F a w => ∀ g, base ≤ g → ¬ F g → Blk w g T Z → Q listed (fun k => F k ∨ k = g) (a.put (some s) (.pointer (some ⟨g, 0, none⟩))) w

theorem wpOp_puts {j : Nat} {oi oj : Oper} {v : Value} (hj : ops[j]? = some oj) (hap : oi.apart ops oj = true) (hsj : ∀ cs b, oj.op ≠ .select cs b)
  (hQ : ∀ c a w, QX (.panic c) a w → QX (.panic c) (a.put oi.dst v) w) {K : Act → World → Prop} {a : Act} {w : World} (h : wpOp P ops QX j K a w) :
  wpOp P ops QX j (fun a' w' => ∃ a0, a' = a0.put oi.dst v ∧ K a0 w') (a.put oi.dst v) w := by
 obtain ⟨h1, h2, h3⟩ := Oper.apart_spec hap
 unfold wpOp at *
 simp only [hj] at *
 rw [wanted_put oj a oi.dst v h1]
 split
 ·rename_i hw
  simp only [hw, if_true] at h
  rcases h with h | ⟨hasks, hlets⟩
  case inr => exact .inr ⟨by unfold Oper.asks at *; rw [execOp_put oj hsj a oi.dst v h1]; exact hasks, hlets⟩
  refine .inl ?_
  unfold Oper.wp at *
  rw [execOp_put oj hsj a oi.dst v h1]
  generalize (execOp a.eval oj).run P w = r at *
  cases r with
  | ok n w' =>
   cases n <;> simp only [Oper.upon] at h ⊢
   case value u => exact ⟨_, Act.put_comm a v u h2, h⟩
   case skip => exact ⟨_, Act.put_comm a v undef h2, h⟩
   case defer d => exact ⟨_, by rw [Act.put_defers]; exact Act.put_comm _ v undef h2, h⟩
   case enter f args =>
    refine Calls.mono h fun e w'' he => ?_
    cases e with
    | returned u => exact ⟨_, Act.put_comm a v u h2, he⟩
    | panicked c => exact hQ _ _ _ he
    | outgrown => exact he
   case row row args => exact Rows.mono h fun u w'' he => ⟨_, Act.put_comm a v u h2, he⟩
  | halt x w' =>
   cases x <;> simp only [Oper.upon] at h ⊢
   case panic u => exact hQ _ _ _ h
 ·rename_i hw
  simp only [hw] at h
  exact ⟨_, Act.put_comm a v undef h2, h⟩

theorem setD {listed : Array Bool} {j k : Nat} (h : (listed.setIfInBounds j true).getD k true = false) : listed.getD k true = false := by
 by_cases hjk : j = k
 ·subst hjk
  rcases Nat.lt_or_ge j listed.size with h' | h'
  ·simp [h'] at h
  ·simp [h'] at h
 ·rwa [getD_set_ne true hjk] at h

section
variable {base i : Nat} {s : Tmp} {T : TypeId} {Z : Array Value} {oi : Oper}

theorem wpJ_laid (hsel : ∀ (j : Nat) (o : Oper) cs b, ops[j]? = some o → o.op ≠ .select cs b) (hdst : oi.dst = some s) (hQ : ∀ c a v w, QX (.panic c) a w → QX (.panic c) (a.put oi.dst v) w) :
  ∀ (n : Nat) (listed : Array Bool) (F : Nat → Prop) (a : Act) (w : World), wpJ P md ops QX (QBox base s T Z Q) n listed F a w → (∀ k, F k → k < w.heap.size) →
   (∀ j oj, ops[j]? = some oj → listed.getD j true = false → oi.apart ops oj = true) →
   ∀ (g : Nat) (w' : World), base ≤ g → ¬ F g → Jmp F w w' → Blk w' g T Z → wpJ P md ops QX Q n listed (fun k => F k ∨ k = g) (a.put oi.dst (.pointer (some ⟨g, 0, none⟩))) w' := by
 intro n
 induction n with
 | zero =>
  intro listed F a w h hF _ g w' hg hn hj hb
  refine ⟨h.1, fun w2 h2 => ?_⟩
  rw [hdst]
  exact h.2 w2 (hj.trans (h2.less fun k hk => .inl hk)) g hg hn ((h2.keep g (.inr rfl)).trans hb)
 | succ n ih =>
  intro listed F a w h hF hap g w' hg hn hj hb
  refine ⟨fun h0 w2 h2 => ?_, fun j hjr w2 h2 => ?_⟩
  ·rw [hdst]
   exact h.1 h0 w2 (hj.trans (h2.less fun k hk => .inl hk)) g hg hn ((h2.keep g (.inr rfl)).trans hb)
  ·obtain ⟨hjun, oj, hoj, _⟩ := mem_ready.1 hjr
   have hj2 := hj.trans (h2.less fun k hk => .inl hk)
   have h1 := wpOp_puts (v := .pointer (some ⟨g, 0, none⟩)) hoj (hap j oj hoj hjun) (fun cs b => hsel j oj cs b hoj) (fun c a w => hQ c a _ w) (h.2 j hjr w2 hj2)
   have hb2 : Blk w2 g T Z := (h2.keep g (.inr rfl)).trans hb
   refine wpOp_mono (fun a' w3 ⟨a0, ha, h3, h4⟩ => ⟨h3, ?_⟩) h1
   subst ha
   have := ih (listed.setIfInBounds j true) _ a0 w3 h4 (grow_F (hj2.grow hF) h3.size) (fun k ok hk hun => hap k ok hk (setD hun)) g w3 hg (fun hh => hh.elim hn fun hh => by have := hb2.lt; have := hh.1; omega) (Jmp.refl _ _) (hb2.call h3)
   have e : (fun k => (F k ∨ k = g) ∨ Iv w2 w3 k) = (fun k => (F k ∨ Iv w2 w3 k) ∨ k = g) := by
    funext k
    exact propext or_right_comm
   rw [e]
   exact this

theorem wpJ_box (hoi : ops[i]? = some oi) (hsel : ∀ (j : Nat) (o : Oper) cs b, ops[j]? = some o → o.op ≠ .select cs b) (hdst : oi.dst = some s) (hQ : ∀ c a v w, QX (.panic c) a w → QX (.panic c) (a.put oi.dst v) w)
  (hgd : oi.guard = none) (haf : oi.after = #[]) (hrun : ∀ (a : Act) (w : World), (execOp a.eval oi).run P w = .ok (.value (.pointer (some ⟨w.heap.size, 0, none⟩))) (w.alloc (.cells Z T))) :
  ∀ (n : Nat) (listed : Array Bool) (F : Nat → Prop) (a : Act) (w : World), wpJ P md ops QX (QBox base s T Z Q) n (listed.setIfInBounds i true) F a w → (∀ k, F k → k < w.heap.size) → base ≤ w.heap.size → listed.getD i true = false →
   (∀ j oj, ops[j]? = some oj → j ≠ i → listed.getD j true = false → oi.apart ops oj = true) → wpJ P md ops QX Q (n + 1) listed F a w := by
 intro n
 have hw : ∀ a : Act, Region.wanted oi (yielded ops a.tmps) = true := fun a => by unfold Region.wanted; rw [hgd]
 have lay : ∀ (n : Nat) (listed : Array Bool) (F : Nat → Prop) (a : Act) (w : World), wpJ P md ops QX (QBox base s T Z Q) n (listed.setIfInBounds i true) F a w → (∀ k, F k → k < w.heap.size) → base ≤ w.heap.size →
   (∀ j oj, ops[j]? = some oj → j ≠ i → listed.getD j true = false → oi.apart ops oj = true) → ∀ w', Jmp F w w' →
   wpOp P ops QX i (fun a2 w2 => Below w'.heap.size w' w2 ∧ wpJ P md ops QX Q n (listed.setIfInBounds i true) (fun k => F k ∨ Iv w' w2 k) a2 w2) a w' := by
  intro n listed F a w h hF hB hap w' hw'
  unfold wpOp
  simp only [hoi]
  rw [if_pos (hw a)]
  refine .inl ?_
  unfold Oper.wp
  rw [hrun a w']
  simp only [Oper.upon]
  refine ⟨below_one _ _, ?_⟩
  have e : (fun k => F k ∨ Iv w' (w'.alloc (.cells Z T)) k) = (fun k => F k ∨ k = w'.heap.size) := by
   funext k
   unfold Iv
   rw [World.size_alloc]
   exact propext ⟨fun h => h.imp id fun h => by omega, fun h => h.imp id fun h => by omega⟩
  rw [e]
  refine wpJ_laid hsel hdst hQ n _ F a w h hF (fun j oj hj hun => ?_) w'.heap.size _ (Nat.le_trans hB hw'.size) (fun hf => by have := hF _ hf; have := hw'.size; omega) (hw'.trans (Jmp.of_below (below_one _ _) (hw'.grow hF))) (Blk.new _ _ _)
  by_cases hji : j = i
  ·subst hji
   rcases Nat.lt_or_ge j listed.size with h' | h'
   ·simp [h'] at hun
   ·simp [h'] at hun
  ·exact hap j oj hj hji (setD hun)
 have rdy : ∀ listed : Array Bool, listed.getD i true = false → i ∈ Region.ready md ops listed := fun listed hl => mem_ready.2 ⟨hl, oi, hoi, fun e he => by rw [haf] at he; simp at he⟩
 induction n with
 | zero =>
  intro listed F a w h hF hB hl hap
  refine ⟨fun h0 => (by have := rdy listed hl; rw [h0] at this; cases this), fun j hj w' hw' => ?_⟩
  by_cases hji : j = i
  ·subst hji; exact lay 0 listed F a w h hF hB hap w' hw'
  ·have := ready_mono hj hji
   rw [h.1] at this
   cases this
 | succ n ih =>
  intro listed F a w h hF hB hl hap
  refine ⟨fun h0 => (by have := rdy listed hl; rw [h0] at this; cases this), fun j hj w' hw' => ?_⟩
  by_cases hji : j = i
  ·subst hji; exact lay (n + 1) listed F a w h hF hB hap w' hw'
  ·have h1 := h.2 j (ready_mono hj hji) w' hw'
   refine wpOp_mono (fun a' w2 ⟨h2, h3⟩ => ⟨h2, ih (listed.setIfInBounds j true) _ a' w2 ?_ (grow_F (hw'.grow hF) h2.size) (Nat.le_trans hB (Nat.le_trans hw'.size h2.size)) ?_ fun k ok hk hki hun => hap k ok hk hki (setD hun)⟩) h1
   ·rw [Array.setIfInBounds_comm _ _ hji]; exact h3
   ·rw [getD_set_ne true hji]; exact hl
end

def untail (n : Nat) (listed : Array Bool) : Array Bool := listed.mapIdx fun i b => b && decide (i < n)
theorem untail_size (n : Nat) (listed : Array Bool) : (untail n listed).size = listed.size := by simp [untail]
theorem untail_getD {n : Nat} {listed : Array Bool} {j : Nat} (d : Bool) (hj : j < listed.size) : (untail n listed).getD j d = (listed.getD j d && decide (j < n)) := by
 simp [untail, hj]
theorem untail_set {n : Nat} {listed : Array Bool} {i : Nat} (hi : i < n) : untail n (listed.setIfInBounds i true) = (untail n listed).setIfInBounds i true := by
 apply Array.ext
 ·simp [untail]
 ·intro k h1 h2
  by_cases h : i = k
  ·subst h; simp [untail, hi]
  ·simp [untail, hi]
theorem wpAny_more {Q' : Exit → Act → World → Prop} : ∀ (n : Nat) (listed : Array Bool) (a : Act) (w : World), wpAny P md ops Q' n listed a w → wpAny P md ops Q' (n + 1) listed a w
 | 0, _, _, _, h => ⟨fun _ => h.2, by rw [h.1]; simp⟩
 | n + 1, _, _, _, h => ⟨h.1, fun i hi => wpOp_mono (fun a' w' h' => wpAny_more n _ a' w' h') (h.2 i hi)⟩
theorem wpAny_much {Q' : Exit → Act → World → Prop} {n : Nat} {listed : Array Bool} {a : Act} {w : World} (h : wpAny P md ops Q' n listed a w) : ∀ k, wpAny P md ops Q' (n + k) listed a w
 | 0 => h
 | k + 1 => wpAny_more _ _ _ _ (wpAny_much h k)

def headB (md : Region.Mode) (ops : Array Oper) (n : Nat) : Bool := (List.range n).all fun i => match ops[i]? with | some o => o.after.all (fun e => !Region.binds md e || decide (e.on < n)) | none => true
theorem wpAny_of_wpJ {n g : Nat} (hh : headB md ops n = true) (hn : n < ops.size) (hs : Region.sinkB md ops n = true) (hc : Region.chainB md ops n = true) (hQ : ∀ listed F a w, Q listed F a w → Region.seqB md ops g n (untail n listed) = true ∧ wpAny P md ops QX g (untail n listed) a w) :
  ∀ (k : Nat) (listed : Array Bool) (F : Nat → Prop) (a : Act) (w : World), listed.size = ops.size → (∀ t, n ≤ t → t < ops.size → listed.getD t true = true) → HeadInv md ops n (untail n listed) → wpJ P md ops QX Q k listed F a w →
   wpAny P md ops QX (g + k) (untail n listed) a w := by
 intro k
 induction k with
 | zero =>
  intro listed F a w _ _ _ h
  exact (hQ _ _ _ _ (h.2 w (Jmp.refl _ _))).2
 | succ k ih =>
  intro listed F a w hsz ht inv h
  by_cases h0 : Region.ready md ops listed = []
  ·exact wpAny_much (hQ _ _ _ _ (h.1 h0 w (Jmp.refl _ _))).2 (k + 1)
  ·obtain ⟨i0, hi0⟩ := List.exists_mem_of_ne_nil _ h0
   obtain ⟨hun0, o0, ho0, _⟩ := mem_ready.1 hi0
   have hlt0 : i0 < ops.size := (Array.getElem?_eq_some_iff.1 ho0).1
   have hi0n : i0 < n := by
    rcases Nat.lt_or_ge i0 n with h' | h'
    ·exact h'
    ·rw [ht i0 h' hlt0] at hun0; cases hun0
   have hun0' : (untail n listed).getD i0 true = false := by rw [untail_getD true (by omega), hun0]; rfl
   have hnt := tail_waits hs hc hn inv (n - i0) i0 rfl hi0n hun0'
   have step : ∀ i ∈ Region.ready md ops (untail n listed), wpOp P ops QX i (wpAny P md ops QX (g + k) ((untail n listed).setIfInBounds i true)) a w := by
    intro i hi
    have hin : i < n := by
     rcases Nat.lt_or_ge i n with h' | h'
     ·exact h'
     ·exact absurd hi (hnt i h')
    obtain ⟨hun, oi, hoi, hall⟩ := mem_ready.1 hi
    have hil : i < listed.size := by have := (Array.getElem?_eq_some_iff.1 hoi).1; omega
    have hir : i ∈ Region.ready md ops listed := by
     refine mem_ready.2 ⟨?_, oi, hoi, fun e he hb => ?_⟩
     ·rw [untail_getD true hil] at hun; simpa [hin] using hun
     ·have := hall e he hb
      have hel : e.on < listed.size := by
       rcases Nat.lt_or_ge e.on listed.size with h' | h'
       ·exact h'
       ·simp [Array.getD_eq_getD_getElem?, Array.getElem?_eq_none (show (untail n listed).size ≤ e.on by rw [untail_size]; exact h')] at this
      rw [untail_getD false hel] at this
      simp only [Bool.and_eq_true] at this
      exact this.1
    refine wpOp_mono (fun a' w' h' => ?_) (h.2 i hir w (Jmp.refl _ _))
    rw [← untail_set hin]
    refine ih _ _ a' w' (by simpa using hsz) (fun t h1 h2 => ?_) ?_ h'.2
    ·rw [getD_set_ne true (by omega)]; exact ht t h1 h2
    ·rw [untail_set hin]; exact inv.set hi hin
   refine ⟨fun hr => ?_, step⟩
   exfalso
   obtain ⟨_, o1, ho1, hall1⟩ := mem_ready.1 hi0
   have hin : i0 ∈ Region.ready md ops (untail n listed) := by
    refine mem_ready.2 ⟨hun0', o1, ho1, fun e he hb => ?_⟩
    have h1 := List.all_eq_true.1 hh i0 (List.mem_range.2 hi0n)
    rw [ho1] at h1
    have h2 := Array.all_eq_true_iff_forall_mem.1 h1 e he
    rw [hb] at h2
    simp only [Bool.not_true, Bool.false_or, decide_eq_true_eq] at h2
    rw [untail_getD false (by omega), hall1 e he hb]
    simpa using h2
   rw [hr] at hin
   cases hin


theorem wp_region_jump {id : Nat} {Q : Exit → Act → World → Prop} {a : Act} {w : World} {l : List Oper} {L : Array Bool} (n : Nat) (hm : P.follows .mixedOrders = true) (hL : ((untail n (Array.replicate l.length true)).map fun b => !b) = L)
  (hB : (Region.noSelect l.toArray && decide (n < l.length) && Region.sinkB .any l.toArray n && Region.chainB .any l.toArray n && headB .any l.toArray n) = true)
  (h : wpJ P .any l.toArray Q (fun listed _ a w => Region.seqB .any l.toArray (l.length - n) n (untail n listed) = true ∧ wpList P l.toArray Q (l.drop n) a w) n L (Lt w.drew.heap.size) a w.drew) : (Code.region id l.toArray true).wp P Q a w := by
 simp only [Bool.and_eq_true, decide_eq_true_eq] at hB
 subst hL
 obtain ⟨⟨⟨⟨hsel, hn⟩, hs⟩, hc⟩, hh⟩ := hB
 refine wp_region_any hm ?_
 have e : untail n (untail n (Array.replicate l.length true) |>.map fun b => !b) = Array.replicate l.toArray.size false := by
  apply Array.ext
  ·simp [untail]
  ·intro i h1 h2
   simp [untail]
 have inv : HeadInv .any l.toArray n (untail n (untail n (Array.replicate l.length true) |>.map fun b => !b)) := by
  rw [e]
  exact ⟨by simp, fun j oj _ hl => (by rw [getD_replicate_false] at hl; cases hl), fun t _ ht => getD_in (by simpa using ht) (getD_replicate_false _ _)⟩
 have := wpAny_of_wpJ (QX := Q) (g := l.length - n) hh (by simpa using hn) hs hc (fun listed F a w ⟨h1, h2⟩ => ⟨h1, ?_⟩) n _ _ a w.drew (by simp [untail]) (fun t h1 h2 => ?_) inv h
 ·have h3 := wpAny_of_seq (md := .any) (Q' := Q) (l.drop n) n (untail n listed) a w (fun j => by simp [List.getElem?_drop]) (by simpa using h1) h2
  simpa using h3
 ·have ht : t < l.length := by simpa using h2
  simp [untail, ht]
  omega
 ·rw [e, show l.length - n + n = l.toArray.size by simp; omega] at this
  exact this

theorem wpOp_of_list {i : Nat} {o : Oper} (ho : ops[i]? = some o) {K : Act → World → Prop} {a : Act} {w : World} (h : wpList P ops (Exit.then K QX) [o] a w) : wpOp P ops QX i K a w := by
 unfold wpOp
 simp only [ho]
 exact h
theorem wpJ_call {i : Nat} {o : Oper} {fuel : Nat} {listed : Array Bool} {F : Nat → Prop} {a : Act} {w : World} (hr : Region.ready md ops listed = [i]) (ho : ops[i]? = some o)
  (h : ∀ w', Jmp F w w' → ∀ K : Act → World → Prop, Hid (∀ a2 w2, Below w'.heap.size w' w2 → wpJ P md ops QX Q fuel (listed.setIfInBounds i true) (fun k => F k ∨ Iv w' w2 k) a2 w2 → K a2 w2) → wpList P ops (Exit.then K QX) [o] a w') : wpJ P md ops QX Q (fuel + 1) listed F a w :=
 wpJ_one hr fun w' hj => wpOp_of_list ho (h w' hj _ (Lib.hid fun _ _ h1 h2 => ⟨h1, h2⟩))
theorem Jmp.cell {F : Nat → Prop} {w w' : World} (h : Jmp F w w') {b : Nat} (o : Nat) (hb : F b) : w'.cell? ⟨b, o, none⟩ = w.cell? ⟨b, o, none⟩ := World.cell?_of_block (a := ⟨b, o, none⟩) (h.keep b hb)
theorem Jmp.blk {F : Nat → Prop} {w w' : World} (h : Jmp F w w') {b : Nat} {t : TypeId} {cs : Array Value} (hb : F b) (hk : Blk w b t cs) : Blk w' b t cs := (h.keep b hb).trans hk
theorem Jmp.fst {F G : Nat → Prop} {w w1 : World} (h : Jmp (fun k => F k ∨ G k) w w1) : Jmp F w w1 := h.less fun _ => .inl
theorem Jmp.from {F : Nat → Prop} {w w1 w2 : World} (h : Jmp F w w1) (hb : Below w1.heap.size w1 w2) (hF : ∀ k, F k → k < w1.heap.size) : Jmp F w w2 := h.trans (Jmp.of_below hb hF)
theorem Jmp.back {F : Nat → Prop} {w v w1 w2 : World} (h : Jmp F w v) (hF : ∀ k, F k → k < w.heap.size) (hb : Below v.heap.size v w1) (k : Jmp (fun k => F k ∨ Iv v w1 k) w1 w2) : Jmp F w w2 :=
 h.trans ((Jmp.of_below hb (h.grow hF)).trans k.fst)
theorem Jmp.laid {F : Nat → Prop} {v w1 w2 : World} (k : Jmp (fun k => F k ∨ Iv v w1 k) w1 w2) {b : Nat} (h1 : v.heap.size ≤ b) (h2 : b < w1.heap.size) : w2.heap[b]? = w1.heap[b]? := k.keep b (.inr ⟨h1, h2⟩)
theorem Jmp.low {w w1 : World} (h : Jmp (Lt w.drew.heap.size) w.drew w1) : Below w.heap.size w w1 := below_undrew h.below
def nthL {α : Type} : List α → Nat → Option α
 | [], _ => none
 | x :: _, 0 => some x
 | _ :: r, i + 1 => nthL r i
theorem nthL_eq {α : Type} : ∀ (l : List α) (i : Nat), nthL l i = l[i]?
 | [], _ => rfl
 | _ :: _, 0 => rfl
 | _ :: r, i + 1 => by simpa [nthL] using nthL_eq r i
theorem nthL_arr {α : Type} {l : List α} {i : Nat} {o : α} (h : nthL l i = some o) : l.toArray[i]? = some o := by rw [List.getElem?_toArray, ← nthL_eq]; exact h
theorem wpJ_takeL {l : List Oper} {i : Nat} {oi : Oper} {v : Value} {fuel : Nat} {listed : Array Bool} {F : Nat → Prop} {a : Act} {w : World} (hi : nthL l i = some oi)
  (hs : Region.noSelect l.toArray = true) (hf : Region.free md l.toArray listed i = true) (hr : (Region.ready md l.toArray listed).contains i = true)
  (hQ : ∀ c a w, QX (.panic c) (a.put oi.dst v) w → QX (.panic c) a w) (hF : ∀ k, F k → k < w.heap.size) (hy : YieldsIf P l.toArray (Jmp F w) oi v a)
  (h : wpJ P md l.toArray QX Q fuel (listed.setIfInBounds i true) F (a.put oi.dst v) w) : wpJ P md l.toArray QX Q (fuel + 1) listed F a w :=
 wpJ_take (nthL_arr hi) hs hf hr hQ hF hy h
theorem wpJ_callL {l : List Oper} {i : Nat} {o : Oper} {fuel : Nat} {listed : Array Bool} {F : Nat → Prop} {a : Act} {w : World} (hr : Region.ready md l.toArray listed = [i]) (ho : nthL l i = some o)
  (h : ∀ w', Jmp F w w' → ∀ K : Act → World → Prop, Hid (∀ a2 w2, Below w'.heap.size w' w2 → wpJ P md l.toArray QX Q fuel (listed.setIfInBounds i true) (fun k => F k ∨ Iv w' w2 k) a2 w2 → K a2 w2) → wpList P l.toArray (Exit.then K QX) [o] a w') : wpJ P md l.toArray QX Q (fuel + 1) listed F a w :=
 wpJ_call hr (nthL_arr ho) h
end
end Go.Proofs.YtlmhajfbpplpoaaGreat
namespace Go.Proofs.YtlmhajfbpplpoaaGreat
open Go.RowKit

def later (W x : World) : World := { heap := W.heap ++ x.heap.extract W.heap.size x.heap.size, tape := W.tape, drawn := x.drawn, os := W.os, output := W.output }

theorem below_later (W x : World) : Below W.heap.size W (later W x) := by
 refine ⟨rfl, rfl, rfl, by simp [later], fun k hk => ?_⟩
 show (W.heap ++ _)[k]? = _
 rw [Array.getElem?_append_left hk]

theorem later_of {W w : World} (hb : Below W.heap.size W w) : w = later W w := by
 have hh : w.heap = W.heap ++ w.heap.extract W.heap.size w.heap.size := by
  apply Array.ext_getElem?
  intro i
  rcases Nat.lt_or_ge i W.heap.size with h | h
  ·rw [Array.getElem?_append_left h, hb.block i h]
  ·rw [Array.getElem?_append_right h, Array.getElem?_extract]
   by_cases hi : i < w.heap.size
   ·rw [if_pos (by have := hb.size; omega)]
    congr 1
    omega
   ·rw [if_neg (by omega), Array.getElem?_eq_none (by omega)]
 obtain ⟨h1, h2, h3, _, _⟩ := hb
 cases w
 simp only at h1 h2 h3 hh
 subst h1 h2 h3
 simp only [later, World.mk.injEq, and_true]
 exact hh

@[go_sem] theorem cell?_later (W x : World) (b o : Nat) (h : b < W.heap.size) : (later W x).cell? ⟨b, o, none⟩ = W.cell? ⟨b, o, none⟩ := (below_later W x).cell (p := ⟨b, o, none⟩) h
@[go_sem] theorem frozen?_later (W x : World) (b o : Nat) (h : b < W.heap.size) : (later W x).frozen? ⟨b, o, none⟩ = W.frozen? ⟨b, o, none⟩ := (below_later W x).frozen (p := ⟨b, o, none⟩) h

theorem wp_region_later {P : Program} {id : Nat} {Q : Exit → Act → World → Prop} {a : Act} {w : World} {l : List Oper} (hm : P.follows .mixedOrders = true) (hB : Region.lexB .any l.toArray = true)
  (h : wpQuiet P l.toArray (fun w' => ∃ x, w' = later w x) (fun a' => ∀ w', (∃ x, w' = later w x) → Q .normal a' w') l a) : (Code.region id l.toArray true).wp P Q a w :=
 wp_region_quiet (C := fun w' => ∃ x, w' = later w x) hm hB ⟨w.drew, later_of (Below.refl _ _).drew⟩ (by simpa using h)

theorem later_same {P : Program} {f : FuncId} {args : Array Value} {W x : World} {v : Value} (h : Calls P f args (later W x) fun e w' => e = .returned v ∧ later W x = w') :
  Calls P f args (later W x) fun e w' => e = .returned v ∧ ∃ y, w' = later W y :=
 h.mono fun _ _ ⟨he, hw⟩ => ⟨he, x, hw.symm⟩
end Go.Proofs.YtlmhajfbpplpoaaGreat
