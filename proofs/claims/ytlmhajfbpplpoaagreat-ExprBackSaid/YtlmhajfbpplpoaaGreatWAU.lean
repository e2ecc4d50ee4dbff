/-
  How far a cursor comes. No program in sight.
  Functions of the program as trees: what a call comes to.
  What the cursor's small functions come to.
  Functions of the program as trees: what a call comes to.
  What the reference's small functions over a tape come to.
  What the cursor's sums come to.
  Functions of the program as trees: what a call comes to.
  What the cursor's conditions come to.
  What the cursor's jobs come to.
  What the reference's sums come to.
  What the reference's comparisons come to.
  What the reference's conditions come to.
  Sums and conditions from any place on, behind the end too: the cursor's and the reference's.
-/
import Derived.Test.YtlmhajfbpplpoaaGreatWAQ
import Derived.Test.YtlmhajfbpplpoaaGreatWAS
set_option linter.unusedSectionVars false
set_option linter.unusedSimpArgs false
set_option linter.unusedVariables false
namespace Go.Proofs.YtlmhajfbpplpoaaGreat
open Go.RowKit

structure Toks (ts : List Tk) : Prop where
 len : ts.length + 300 < 4611686018427387904
 short : ∀ i, (nx ts i).text.length < 4611686018427387904
 fin : (ts.getLastD ⟨5, [], 0, 0⟩).kind = 5
theorem Toks.past {ts : List Tk} (H : Toks ts) {i : Nat} (h : ts.length ≤ i) : (nx ts i).kind = 5 := by
 unfold nx
 rw [List.getElem?_eq_none h]
 exact H.fin
theorem Toks.isT {ts : List Tk} (H : Toks ts) {i : Nat} {s : List UInt8} (h : isT ts i s = true) : i < ts.length := by
 by_cases hi : i < ts.length
 ·exact hi
 ·unfold Go.Proofs.YtlmhajfbpplpoaaGreat.isT at h
  rw [H.past (by omega)] at h
  simp at h
theorem Toks.isN {ts : List Tk} (H : Toks ts) {i : Nat} (h : isN ts i = true) : i < ts.length := by
 by_cases hi : i < ts.length
 ·exact hi
 ·unfold Go.Proofs.YtlmhajfbpplpoaaGreat.isN at h
  rw [H.past (by omega)] at h
  simp at h
theorem Toks.num {ts : List Tk} (H : Toks ts) {i : Nat} (h : (nx ts i).kind = 3) : i < ts.length := by
 by_cases hi : i < ts.length
 ·exact hi
 ·rw [H.past (by omega)] at h
  simp at h
structure Far (ts : List Tk) (i j e : Nat) : Prop where
 ge : i ≤ j
 le : j ≤ ts.length
 gt : e = 0 → i < j
theorem Far.trans {ts : List Tk} {i j e k e2 : Nat} (h : Far ts i j e) (h2 : Far ts j k e2) : Far ts i k e2 := ⟨by have := h.ge; have := h2.ge; omega, h2.le, fun he => by have := h.ge; have := h2.gt he; omega⟩
section
variable {ts : List Tk} (H : Toks ts) (vars : List ByteArray) (kn : Bool)
include H
theorem varP_far {i : Nat} (hi : i ≤ ts.length) : Far ts i (varP ts vars kn i).1 (varP ts vars kn i).2.1 := by
 unfold varP
 cases h : isN ts i with
 | false => rw [if_pos rfl]; exact ⟨Nat.le_refl _, hi, fun h => absurd h (by simp)⟩
 | true =>
  have := H.isN h
  rw [if_neg (by simp)]
  split
  ·exact ⟨Nat.le_refl _, hi, fun h => absurd h (by simp)⟩
  ·exact ⟨Nat.le_succ _, this, fun _ => Nat.lt_succ_self _⟩
theorem monoP_far {i : Nat} (hi : i ≤ ts.length) (neg : Bool) : Far ts i (monoP ts vars kn i neg).1 (monoP ts vars kn i neg).2.1 := by
 unfold monoP
 split
 ·rename_i h3
  have := H.num h3
  cases h : isT ts (i + 1) [42] with
  | true =>
   have h1 := H.isT h
   have h2 := varP_far H vars kn (show i + 2 ≤ ts.length by omega)
   rw [if_pos rfl]
   exact ⟨by have := h2.ge; simp only; omega, h2.le, fun _ => by have := h2.ge; simp only; omega⟩
  | false =>
   rw [if_neg (by simp)]
   exact ⟨Nat.le_succ _, this, fun _ => Nat.lt_succ_self _⟩
 ·exact varP_far H vars kn hi
theorem sumL_far : ∀ (k : Nat) (out : List Mo) (neg : Bool) (i : Nat), i ≤ ts.length → Far ts i (sumL ts vars kn k out neg i).1 (sumL ts vars kn k out neg i).2.1 := by
 intro k
 induction k with
 | zero =>
  intro out neg i hi
  unfold sumL
  split
  ·exact ⟨Nat.le_refl _, hi, fun h => absurd h (by simp)⟩
  ·exact ⟨Nat.le_refl _, hi, fun h => absurd h (by simp)⟩
 | succ k ih =>
  intro out neg i hi
  unfold sumL
  dsimp only
  have m := monoP_far H vars kn hi neg
  split
  ·exact ⟨Nat.le_refl _, hi, fun h => absurd h (by simp)⟩
  ·split
   ·exact m
   ·split
    ·rename_i h
     have h1 := H.isT h
     have m2 := ih (out ++ [(monoP ts vars kn i neg).2.2]) true ((monoP ts vars kn i neg).1 + 1) (by omega)
     exact ⟨by have := m.ge; have := m2.ge; omega, m2.le, fun he => by have := m.ge; have := m2.gt he; omega⟩
    ·split
     ·rename_i h
      have h1 := H.isT h
      have m2 := ih (out ++ [(monoP ts vars kn i neg).2.2]) false ((monoP ts vars kn i neg).1 + 1) (by omega)
      exact ⟨by have := m.ge; have := m2.ge; omega, m2.le, fun he => by have := m.ge; have := m2.gt he; omega⟩
     ·rename_i h _ _
      exact ⟨m.ge, m.le, fun _ => m.gt (by simpa using h)⟩
theorem sumP_far {i : Nat} (hi : i ≤ ts.length) : Far ts i (sumP ts vars kn i).1 (sumP ts vars kn i).2.1 := by
 unfold sumP
 split
 ·rename_i h
  have h1 := H.isT h
  have m2 := sumL_far H vars kn 64 [] true (i + 1) (by omega)
  exact ⟨by have := m2.ge; omega, m2.le, fun he => by have := m2.gt he; omega⟩
 ·exact sumL_far H vars kn 64 [] false i hi
theorem opP_far {i op : Nat} (h : opP ts i = some op) : i < ts.length := by
 unfold opP at h
 obtain ⟨h1, h2, _⟩ := List.findIdx?_eq_some_iff_getElem.1 h
 exact H.isT h2
theorem cmpP_far {i : Nat} (hi : i ≤ ts.length) : Far ts i (cmpP ts vars kn i).1 (cmpP ts vars kn i).2.1 := by
 unfold cmpP
 have m := sumP_far H vars kn hi
 split
 ·exact m
 ·rename_i h0
  have h0 : (sumP ts vars kn i).2.1 = 0 := by simpa using h0
  rw [h0] at m
  split
  ·exact ⟨m.ge, m.le, fun h => absurd h (by simp)⟩
  ·rename_i op h
   have h1 := opP_far H h
   have m2 := sumP_far H vars kn (show (sumP ts vars kn i).1 + 1 ≤ ts.length by omega)
   have h2 := m.gt rfl
   have h3 := m2.ge
   split
   ·exact ⟨by simp only; omega, m2.le, fun _ => by simp only; omega⟩
   ·exact ⟨by simp only; omega, m2.le, fun _ => by simp only; omega⟩
def farJ (ts : List Tk) : Jb → Nat → Nat → Nat → Prop
 | .one, i, j, e => Far ts i j e
 | .both, i, j, e => Far ts i j e
 | .cond, i, j, e => Far ts i j e
 | _, i, j, _ => i ≤ j ∧ j ≤ ts.length
theorem jbP_far : ∀ (n : Nat) (j : Jb) (i d : Nat), i ≤ ts.length → farJ ts j i (jbP ts vars kn n j i d).1 (jbP ts vars kn n j i d).2.1 := by
 intro n
 induction n with
 | zero => intro j i d hi; cases j <;> first | exact ⟨Nat.le_refl _, hi, fun h => absurd h (by simp [jbP])⟩ | exact ⟨Nat.le_refl _, hi⟩
 | succ n ih =>
  intro j i d hi
  have stay : ∀ e : Nat, e ≠ 0 → Far ts i i e := fun e he => ⟨Nat.le_refl _, hi, fun h => absurd h he⟩
  cases j with
  | one =>
   unfold jbP farJ
   dsimp only
   split
   ·exact stay _ (by simp)
   ·split
    ·rename_i h; exact ⟨Nat.le_succ _, H.isT h, fun _ => Nat.lt_succ_self _⟩
    ·split
     ·rename_i h; exact ⟨Nat.le_succ _, H.isT h, fun _ => Nat.lt_succ_self _⟩
     ·split
      ·rename_i h
       have m : Far ts (i + 1) _ _ := ih .one (i + 1) (d + 1) (H.isT h)
       have := m.ge
       unfold thenT failT
       split
       ·exact ⟨by simp only; omega, m.le, fun _ => by simp only; omega⟩
       ·exact ⟨by simp only; omega, m.le, fun _ => by simp only; omega⟩
      ·split
       ·rename_i h
        have m : Far ts (i + 1) _ _ := ih .cond (i + 1) (d + 1) (H.isT h)
        have := m.ge
        unfold thenT failT
        split
        ·dsimp only
         split
         ·rename_i h2
          have := H.isT h2
          exact ⟨by simp only; omega, by simp only; omega, fun _ => by simp only; omega⟩
         ·exact ⟨by simp only; omega, m.le, fun _ => by simp only; omega⟩
        ·exact ⟨by simp only; omega, m.le, fun _ => by simp only; omega⟩
       ·exact cmpP_far H vars kn hi
  | both =>
   unfold jbP farJ thenT
   dsimp only
   have m : Far ts i _ _ := ih .one i d hi
   split
   ·rename_i h
    have m2 : _ ∧ _ := ih (.bothL (jbP ts vars kn n .one i d).2.2) _ d m.le
    have := m.gt h
    exact ⟨by omega, m2.2, fun _ => by omega⟩
   ·exact m
  | cond =>
   unfold jbP farJ thenT
   dsimp only
   have m : Far ts i _ _ := ih .both i d hi
   split
   ·rename_i h
    have m2 : _ ∧ _ := ih (.condL (jbP ts vars kn n .both i d).2.2) _ d m.le
    have := m.gt h
    exact ⟨by omega, m2.2, fun _ => by omega⟩
   ·exact m
  | bothL x =>
   unfold jbP farJ thenT
   dsimp only
   split
   ·rename_i h
    have m : Far ts (i + 1) _ _ := ih .one (i + 1) d (H.isT h)
    have := m.ge
    split
    ·have m2 : _ ∧ _ := ih (.bothL (.mk 4 [] [] 0 (bstr []) (bstr []) [x, (jbP ts vars kn n .one (i + 1) d).2.2])) _ d m.le
     exact ⟨by omega, m2.2⟩
    ·exact ⟨by unfold failT; simp only; omega, m.le⟩
   ·exact ⟨Nat.le_refl _, hi⟩
  | condL x =>
   unfold jbP farJ thenT
   dsimp only
   split
   ·rename_i h
    have m : Far ts (i + 1) _ _ := ih .both (i + 1) d (H.isT h)
    have := m.ge
    split
    ·have m2 : _ ∧ _ := ih (.condL (.mk 5 [] [] 0 (bstr []) (bstr []) [x, (jbP ts vars kn n .both (i + 1) d).2.2])) _ d m.le
     exact ⟨by omega, m2.2⟩
    ·exact ⟨by unfold failT; simp only; omega, m.le⟩
   ·exact ⟨Nat.le_refl _, hi⟩
def needJ (ts : List Tk) : Jb → Nat → Nat
 | .one, i => 4 * (ts.length - i) + 1
 | .both, i => 4 * (ts.length - i) + 2
 | .bothL _, i => 4 * (ts.length - i) + 2
 | .cond, i => 4 * (ts.length - i) + 3
 | .condL _, i => 4 * (ts.length - i) + 3
end
end Go.Proofs.YtlmhajfbpplpoaaGreat
namespace Go.Proofs.YtlmhajfbpplpoaaGreat
open Go.RowKit
def hs92 : Hints := []
noncomputable def mf92 : MFn := mfD Tryz.prog entsC hs92 false true 92
def hn92 : Hnt := ⟨[], [], [(7, [.ls]), (15, [.ls]), (19, [.int .i64]), (24, [.int .i64, .str, .int .i64, .int .i64]), (25, [.int .i64, .str, .int .i64, .int .i64])]⟩
def hs96 : Hints := []
noncomputable def mf96 : MFn := mfD Tryz.prog entsC hs96 false true 96
def hn96 : Hnt := ⟨[(92, (.agg [.int .i64, .str, .int .i64, .int .i64], [.box [.ls, .int .i64, .ls, .bool]]))], [], [(9, [.str]), (14, [.int .i64]), (18, [.int .i64]), (23, [.int .i64])]⟩
def hs93 : Hints := []
noncomputable def mf93 : MFn := mfD Tryz.prog entsC hs93 false true 93
def hn93 : Hnt := ⟨[(96, (.bool, [.box [.ls, .int .i64, .ls, .bool]]))], [], [(13, [.int .i64])]⟩
def hs248 : Hints := []
noncomputable def mf248 : MFn := mfD Tryz.prog entsC hs248 false true 248
def hn248 : Hnt := ⟨[(93, (.bool, [.box [.ls, .int .i64, .ls, .bool]]))], [], []⟩
def hs162 : Hints := []
noncomputable def mf162 : MFn := mfD Tryz.prog entsC hs162 false true 162
def hn162 : Hnt := ⟨[(92, (.agg [.int .i64, .str, .int .i64, .int .i64], [.box [.ls, .int .i64, .ls, .bool]])), (109, (.bool, []))], [], [(7, [.int .i64]), (11, [.str])]⟩
def hs163 : Hints := []
noncomputable def mf163 : MFn := mfD Tryz.prog entsC hs163 false true 163
def hn163 : Hnt := ⟨[(92, (.agg [.int .i64, .str, .int .i64, .int .i64], [.box [.ls, .int .i64, .ls, .bool]])), (162, (.bool, [.box [.ls, .int .i64, .ls, .bool]])), (219, (.bool, []))], [], [(15, [.bool]), (20, [.ls]), (22, [.str]), (29, [.int .i64]), (34, [.str])]⟩
def hs95 : Hints := []
noncomputable def mf95 : MFn := mfD Tryz.prog entsC hs95 false true 95
def hn95 : Hnt := ⟨[(92, (.agg [.int .i64, .str, .int .i64, .int .i64], [.box [.ls, .int .i64, .ls, .bool]])), (93, (.bool, [.box [.ls, .int .i64, .ls, .bool]])), (163, (.tup [.str, .int .i64], [.box [.ls, .int .i64, .ls, .bool]]))], [], [(14, [.int .i64]), (17, [.str]), (22, [.int .i64]), (29, [.bool, .str, .str]), (36, [.bool, .str, .str])]⟩
def hs94 : Hints := []
noncomputable def mf94 : MFn := mfD Tryz.prog entsC hs94 false true 94
def hn94 : Hnt := ⟨[(92, (.agg [.int .i64, .str, .int .i64, .int .i64], [.box [.ls, .int .i64, .ls, .bool]])), (162, (.bool, [.box [.ls, .int .i64, .ls, .bool]]))], [], []⟩
def hs49 : Hints := [⟨41, [true, false, false, false, true, true], [(4, 3)], [], [(0, ([true, false, true, true], ([2], [4])))]⟩]
noncomputable def mf49 : MFn := mfD Tryz.prog entsC hs49 false true 49
def hn49 : Hnt := ⟨[(93, (.bool, [.box [.ls, .int .i64, .ls, .bool]])), (94, (.bool, [.box [.ls, .int .i64, .ls, .bool]])), (95, (.tup [.agg [.bool, .str, .str], .int .i64], [.box [.ls, .int .i64, .ls, .bool]])), (96, (.bool, [.box [.ls, .int .i64, .ls, .bool]]))], [(0, [(0, ([.ptr 0 0, .ls, .int .i64], [.box [.ls, .int .i64, .ls, .bool], .del]))])], [(27, [.bool, .str, .str])]⟩
def hs90 : Hints := []
noncomputable def mf90 : MFn := mfD Tryz.prog entsC hs90 false false 90
def hn90 : Hnt := ⟨[], [], []⟩
def hs88 : Hints := [⟨19, [true, true, false, false, false, false, false, true, true], [], [], [(0, ([false, false, false, false, true], ([], []))), (1, ([], ([], [])))]⟩]
noncomputable def mf88 : MFn := mfD Tryz.prog entsC hs88 false false 88
def hn88 : Hnt := ⟨[], [(0, [(0, ([.int .i64], [])), (1, ([], []))])], [(14, [.str]), (15, [.str])]⟩
def hs219 : Hints := []
noncomputable def mf219 : MFn := mfD Tryz.prog entsC hs219 false false 219
def hn219 : Hnt := ⟨[(88, (.int .i64, []))], [], []⟩
noncomputable def tabEa : List (Nat × MFn) := [(92, mf92), (96, mf96), (93, mf93), (248, mf248), (162, mf162), (163, mf163), (95, mf95), (94, mf94), (49, mf49), (90, mf90), (88, mf88), (219, mf219)]
theorem e92 (A : Ar) (D : Orc) (p0_0 : List (List AV)) (p0_1 : Int) (p0_2 : List (List AV)) (p0_3 : Bool) : fnK A D ownC hn92 .n 92 mf92 [AV.ptr 0 0] [{ cells := [AV.ls p0_0, iv p0_1, AV.ls p0_2, bv p0_3], st := true, ex := false }] =
 br (A.eq (↑(lenR p0_0)) 0)
 (some ((AV.agg [iv 5, sv (bstr []), iv 0, iv 0], [BO.set (ABlk.mk [AV.ls p0_0, iv p0_1, AV.ls p0_2, bv p0_3] true false)])))
 (unI (A.min (A.max p0_1 0) (A.sub IntKind.i64 (↑(lenR p0_0)) 1)) fun i =>
 nthK p0_0 i fun cs =>
 cInt IntKind.i64 cs fun n l =>
 cStr l fun s l1 =>
 cInt IntKind.i64 l1 fun n1 l2 =>
 cInt IntKind.i64 l2 fun n2 l3 =>
 unNil l3 <|
 some ((AV.agg [iv n, sv s, iv n1, iv n2], [BO.set (ABlk.mk [AV.ls p0_0, iv p0_1, AV.ls p0_2, bv p0_3] true false)]))) := by kernel_rfl

theorem e96 (A : Ar) (D : Orc) (p0_0 : List (List AV)) (p0_1 : Int) (p0_2 : List (List AV)) (p0_3 : Bool) (x1 : ByteArray) : fnK A D ownC hn96 .n 96 mf96 [AV.ptr 0 0, sv x1] [{ cells := [AV.ls p0_0, iv p0_1, AV.ls p0_2, bv p0_3], st := true, ex := false }] =
 askK D (Key.fn 92) [AV.ptr 0 0] [ABlk.mk [AV.ls p0_0, iv p0_1, AV.ls p0_2, bv p0_3] true false] fun r o =>
 unAgg r fun cs =>
 cInt IntKind.i64 cs fun n l =>
 cStr l fun s l1 =>
 cInt IntKind.i64 l1 fun _ l2 =>
 cInt IntKind.i64 l2 fun _ l3 =>
 unNil l3 <|
 unOut o fun c l4 =>
 unSet true false c fun cs1 =>
 cLs cs1 fun xs l5 =>
 cInt IntKind.i64 l5 fun n3 l6 =>
 cLs l6 fun xs1 l7 =>
 cBool l7 fun b l8 =>
 unNil l8 <|
 unEnd l4 <|
 br (A.seq s x1)
 (br (A.eq n 2)
 (some ((bv true, [BO.set (ABlk.mk [AV.ls xs, iv n3, AV.ls xs1, bv b] true false)])))
 (br (A.eq n 1)
 (some ((bv true, [BO.set (ABlk.mk [AV.ls xs, iv n3, AV.ls xs1, bv b] true false)])))
 (br (A.eq n 4)
 (some ((bv true, [BO.set (ABlk.mk [AV.ls xs, iv n3, AV.ls xs1, bv b] true false)])))
 (some ((bv false, [BO.set (ABlk.mk [AV.ls xs, iv n3, AV.ls xs1, bv b] true false)]))))))
 (some ((bv false, [BO.set (ABlk.mk [AV.ls xs, iv n3, AV.ls xs1, bv b] true false)]))) := by kernel_rfl

theorem e93 (A : Ar) (D : Orc) (p0_0 : List (List AV)) (p0_1 : Int) (p0_2 : List (List AV)) (p0_3 : Bool) (x1 : ByteArray) : fnK A D ownC hn93 .n 93 mf93 [AV.ptr 0 0, sv x1] [{ cells := [AV.ls p0_0, iv p0_1, AV.ls p0_2, bv p0_3], st := true, ex := false }] =
 askK D (Key.fn 96) [AV.ptr 0 0, sv x1] [ABlk.mk [AV.ls p0_0, iv p0_1, AV.ls p0_2, bv p0_3] true false] fun r o =>
 unBool r fun b =>
 unOut o fun c l =>
 unSet true false c fun cs =>
 cLs cs fun xs l1 =>
 cInt IntKind.i64 l1 fun n l2 =>
 cLs l2 fun xs1 l3 =>
 cBool l3 fun b1 l4 =>
 unNil l4 <|
 unEnd l <|
 br b
 (some ((bv true, [BO.set (ABlk.mk [AV.ls xs, iv (A.add IntKind.i64 n 1), AV.ls xs1, bv b1] true false)])))
 (some ((bv false, [BO.set (ABlk.mk [AV.ls xs, iv n, AV.ls xs1, bv b1] true false)]))) := by kernel_rfl

theorem e248 (A : Ar) (D : Orc) (p0_0 : List (List AV)) (p0_1 : Int) (p0_2 : List (List AV)) (p0_3 : Bool) (x1 : ByteArray) : fnK A D ownC hn248 .n 248 mf248 [AV.ptr 0 0, sv x1] [{ cells := [AV.ls p0_0, iv p0_1, AV.ls p0_2, bv p0_3], st := true, ex := false }] =
 askK D (Key.fn 93) [AV.ptr 0 0, sv x1] [ABlk.mk [AV.ls p0_0, iv p0_1, AV.ls p0_2, bv p0_3] true false] fun r o =>
 unBool r fun b =>
 unOut o fun c l =>
 unSet true false c fun cs =>
 cLs cs fun xs l1 =>
 cInt IntKind.i64 l1 fun n l2 =>
 cLs l2 fun xs1 l3 =>
 cBool l3 fun b1 l4 =>
 unNil l4 <|
 unEnd l <|
 br b
 (some ((iv 0, [BO.set (ABlk.mk [AV.ls xs, iv n, AV.ls xs1, bv b1] true false)])))
 (some ((iv 101, [BO.set (ABlk.mk [AV.ls xs, iv n, AV.ls xs1, bv b1] true false)]))) := by kernel_rfl

theorem e162 (A : Ar) (D : Orc) (p0_0 : List (List AV)) (p0_1 : Int) (p0_2 : List (List AV)) (p0_3 : Bool) : fnK A D ownC hn162 .n 162 mf162 [AV.ptr 0 0] [{ cells := [AV.ls p0_0, iv p0_1, AV.ls p0_2, bv p0_3], st := true, ex := false }] =
 askK D (Key.fn 92) [AV.ptr 0 0] [ABlk.mk [AV.ls p0_0, iv p0_1, AV.ls p0_2, bv p0_3] true false] fun r o =>
 unAgg r fun cs =>
 cInt IntKind.i64 cs fun n l =>
 cStr l fun s l1 =>
 cInt IntKind.i64 l1 fun _ l2 =>
 cInt IntKind.i64 l2 fun _ l3 =>
 unNil l3 <|
 unOut o fun c l4 =>
 unSet true false c fun cs1 =>
 cLs cs1 fun xs l5 =>
 cInt IntKind.i64 l5 fun n3 l6 =>
 cLs l6 fun xs1 l7 =>
 cBool l7 fun b l8 =>
 unNil l8 <|
 unEnd l4 <|
 br (A.eq n 1)
 (askK D (Key.fn 109) [sv s] [] fun r1 o1 =>
 unBool r1 fun b1 =>
 unEnd o1 <|
 br b1
 (some ((bv true, [BO.set (ABlk.mk [AV.ls xs, iv n3, AV.ls xs1, bv b] true false)])))
 (some ((bv false, [BO.set (ABlk.mk [AV.ls xs, iv n3, AV.ls xs1, bv b] true false)]))))
 (some ((bv false, [BO.set (ABlk.mk [AV.ls xs, iv n3, AV.ls xs1, bv b] true false)]))) := by kernel_rfl

theorem e163 (A : Ar) (D : Orc) (p0_0 : List (List AV)) (p0_1 : Int) (p0_2 : List (List AV)) (p0_3 : Bool) : fnK A D ownC hn163 (.b (.b .n (.b .n (.b (.t (.t (.t (.t (.t (.t (.b (.t (.b .n (.t .n))) (.t (.b (.t .n) .n))))))))) (.f (.f (.f (.f (.f (.f (.f (.f .n))))))))))) .n) 163 mf163 [AV.ptr 0 0] [{ cells := [AV.ls p0_0, iv p0_1, AV.ls p0_2, bv p0_3], st := true, ex := false }] =
 askK D (Key.fn 92) [AV.ptr 0 0] [ABlk.mk [AV.ls p0_0, iv p0_1, AV.ls p0_2, bv p0_3] true false] fun r o =>
 unAgg r fun cs =>
 cInt IntKind.i64 cs fun _ l =>
 cStr l fun s l1 =>
 cInt IntKind.i64 l1 fun _ l2 =>
 cInt IntKind.i64 l2 fun _ l3 =>
 unNil l3 <|
 unOut o fun c l4 =>
 unSet true false c fun cs1 =>
 cLs cs1 fun xs l5 =>
 cInt IntKind.i64 l5 fun n3 l6 =>
 cLs l6 fun xs1 l7 =>
 cBool l7 fun b l8 =>
 unNil l8 <|
 unEnd l4 <|
 askK D (Key.fn 162) [AV.ptr 0 0] [ABlk.mk [AV.ls xs, iv n3, AV.ls xs1, bv b] true false] fun r1 o1 =>
 unBool r1 fun b1 =>
 unOut o1 fun c1 l9 =>
 unSet true false c1 fun cs2 =>
 cLs cs2 fun xs2 l10 =>
 cInt IntKind.i64 l10 fun n4 l11 =>
 cLs l11 fun xs3 l12 =>
 cBool l12 fun b2 l13 =>
 unNil l13 <|
 unEnd l9 <|
 br b1
 (br b2
 (br b2 (br b2 (br b2 (br b2 (br b2 (br b2 (askK D (Key.fn 219) [AV.ls xs3, sv s] [] fun r2 o2 =>
 unBool r2 fun b3 =>
 unEnd o2 <|
 br b3
 (br b2 (br b2 (some ((AV.tup [sv s, iv 0], [BO.set (ABlk.mk [AV.ls xs2, iv (A.add IntKind.i64 n4 1), AV.ls xs3, bv b2] true false)]))) none) none)
 (br b2 (br b2 (some ((AV.tup [sv (bstr []), iv 110], [BO.set (ABlk.mk [AV.ls xs2, iv n4, AV.ls xs3, bv b2] true false)]))) none) none)) none) none) none) none) none) none)
 (br b2 none (br b2 none (br b2 none (br b2 none (br b2 none (br b2 none (br b2 none (br b2 none (some ((AV.tup [sv s, iv 0], [BO.set (ABlk.mk [AV.ls xs2, iv (A.add IntKind.i64 n4 1), AV.ls xs3, bv b2] true false)]))))))))))))
 (some ((AV.tup [sv (bstr []), iv 101], [BO.set (ABlk.mk [AV.ls xs2, iv n4, AV.ls xs3, bv b2] true false)]))) := by kernel_rfl

theorem e95 (A : Ar) (D : Orc) (p0_0 : List (List AV)) (p0_1 : Int) (p0_2 : List (List AV)) (p0_3 : Bool) (x1 : Bool) : fnK A D ownC hn95 .n 95 mf95 [AV.ptr 0 0, bv x1] [{ cells := [AV.ls p0_0, iv p0_1, AV.ls p0_2, bv p0_3], st := true, ex := false }] =
 askK D (Key.fn 92) [AV.ptr 0 0] [ABlk.mk [AV.ls p0_0, iv p0_1, AV.ls p0_2, bv p0_3] true false] fun r o =>
 unAgg r fun cs =>
 cInt IntKind.i64 cs fun n l =>
 cStr l fun s l1 =>
 cInt IntKind.i64 l1 fun _ l2 =>
 cInt IntKind.i64 l2 fun _ l3 =>
 unNil l3 <|
 unOut o fun c l4 =>
 unSet true false c fun cs1 =>
 cLs cs1 fun xs l5 =>
 cInt IntKind.i64 l5 fun n3 l6 =>
 cLs l6 fun xs1 l7 =>
 cBool l7 fun b l8 =>
 unNil l8 <|
 unEnd l4 <|
 br (A.eq n 3)
 (askK D (Key.fn 93) [AV.ptr 0 0, sv (bstr [42])] [ABlk.mk [AV.ls xs, iv (A.add IntKind.i64 n3 1), AV.ls xs1, bv b] true false] fun r1 o1 =>
 unBool r1 fun b1 =>
 unOut o1 fun c1 l9 =>
 unSet true false c1 fun cs2 =>
 cLs cs2 fun xs2 l10 =>
 cInt IntKind.i64 l10 fun n4 l11 =>
 cLs l11 fun xs3 l12 =>
 cBool l12 fun b2 l13 =>
 unNil l13 <|
 unEnd l9 <|
 br b1
 (askK D (Key.fn 163) [AV.ptr 0 0] [ABlk.mk [AV.ls xs2, iv n4, AV.ls xs3, bv b2] true false] fun r2 o2 =>
 unTup r2 fun cs3 =>
 cStr cs3 fun s1 l14 =>
 cInt IntKind.i64 l14 fun n5 l15 =>
 unNil l15 <|
 unOut o2 fun c2 l16 =>
 unSet true false c2 fun cs4 =>
 cLs cs4 fun xs4 l17 =>
 cInt IntKind.i64 l17 fun n6 l18 =>
 cLs l18 fun xs5 l19 =>
 cBool l19 fun b3 l20 =>
 unNil l20 <|
 unEnd l16 <|
 some ((AV.tup [AV.agg [bv x1, sv s, sv s1], iv n5], [BO.set (ABlk.mk [AV.ls xs4, iv n6, AV.ls xs5, bv b3] true false)])))
 (some ((AV.tup [AV.agg [bv x1, sv s, sv (bstr [])], iv 0], [BO.set (ABlk.mk [AV.ls xs2, iv n4, AV.ls xs3, bv b2] true false)]))))
 (askK D (Key.fn 163) [AV.ptr 0 0] [ABlk.mk [AV.ls xs, iv n3, AV.ls xs1, bv b] true false] fun r1 o1 =>
 unTup r1 fun cs2 =>
 cStr cs2 fun s1 l9 =>
 cInt IntKind.i64 l9 fun n4 l10 =>
 unNil l10 <|
 unOut o1 fun c1 l11 =>
 unSet true false c1 fun cs3 =>
 cLs cs3 fun xs2 l12 =>
 cInt IntKind.i64 l12 fun n5 l13 =>
 cLs l13 fun xs3 l14 =>
 cBool l14 fun b1 l15 =>
 unNil l15 <|
 unEnd l11 <|
 some ((AV.tup [AV.agg [bv x1, sv (bstr []), sv s1], iv n4], [BO.set (ABlk.mk [AV.ls xs2, iv n5, AV.ls xs3, bv b1] true false)]))) := by kernel_rfl

theorem e94 (A : Ar) (D : Orc) (p0_0 : List (List AV)) (p0_1 : Int) (p0_2 : List (List AV)) (p0_3 : Bool) : fnK A D ownC hn94 .n 94 mf94 [AV.ptr 0 0] [{ cells := [AV.ls p0_0, iv p0_1, AV.ls p0_2, bv p0_3], st := true, ex := false }] =
 askK D (Key.fn 92) [AV.ptr 0 0] [ABlk.mk [AV.ls p0_0, iv p0_1, AV.ls p0_2, bv p0_3] true false] fun r o =>
 unAgg r fun cs =>
 cInt IntKind.i64 cs fun n l =>
 cStr l fun _ l1 =>
 cInt IntKind.i64 l1 fun _ l2 =>
 cInt IntKind.i64 l2 fun _ l3 =>
 unNil l3 <|
 unOut o fun c l4 =>
 unSet true false c fun cs1 =>
 cLs cs1 fun xs l5 =>
 cInt IntKind.i64 l5 fun n3 l6 =>
 cLs l6 fun xs1 l7 =>
 cBool l7 fun b l8 =>
 unNil l8 <|
 unEnd l4 <|
 br (A.eq n 3)
 (some ((bv true, [BO.set (ABlk.mk [AV.ls xs, iv n3, AV.ls xs1, bv b] true false)])))
 (askK D (Key.fn 162) [AV.ptr 0 0] [ABlk.mk [AV.ls xs, iv n3, AV.ls xs1, bv b] true false] fun r1 o1 =>
 unBool r1 fun b1 =>
 unOut o1 fun c1 l9 =>
 unSet true false c1 fun cs2 =>
 cLs cs2 fun xs2 l10 =>
 cInt IntKind.i64 l10 fun n4 l11 =>
 cLs l11 fun xs3 l12 =>
 cBool l12 fun b2 l13 =>
 unNil l13 <|
 unEnd l9 <|
 br b1
 (some ((bv true, [BO.set (ABlk.mk [AV.ls xs2, iv n4, AV.ls xs3, bv b2] true false)])))
 (some ((bv false, [BO.set (ABlk.mk [AV.ls xs2, iv n4, AV.ls xs3, bv b2] true false)])))) := by kernel_rfl

theorem e49 (A : Ar) (D : Orc) (p0_0 : List (List AV)) (p0_1 : Int) (p0_2 : List (List AV)) (p0_3 : Bool) : fnK A D ownC hn49 .n 49 mf49 [AV.ptr 0 0] [{ cells := [AV.ls p0_0, iv p0_1, AV.ls p0_2, bv p0_3], st := true, ex := false }] =
 askK D (Key.fn 93) [AV.ptr 0 0, sv (bstr [45])] [ABlk.mk [AV.ls p0_0, iv p0_1, AV.ls p0_2, bv p0_3] true false] fun r o =>
 unBool r fun b =>
 unOut o fun c l =>
 unSet true false c fun cs =>
 cLs cs fun xs l1 =>
 cInt IntKind.i64 l1 fun n l2 =>
 cLs l2 fun xs1 l3 =>
 cBool l3 fun b1 l4 =>
 unNil l4 <|
 unEnd l <|
 br b
 (askK D (Key.lp 49 0) [AV.ptr 0 0, AV.sl 1 0 0 3, bv true] [ABlk.mk [AV.ls xs, iv n, AV.ls xs1, bv b1] true false, ABlk.mk [] true true] fun r1 o1 =>
 unTup r1 fun cs1 =>
 unCons cs1 fun c1 l5 =>
 br (axIs 0 c1)
 (unCons l5 fun c2 l6 =>
 unPtr 0 0 c2 <|
 cLs l6 fun xs2 l7 =>
 cInt IntKind.i64 l7 fun n1 l8 =>
 unNil l8 <|
 unOut o1 fun c3 l9 =>
 unSet true false c3 fun cs2 =>
 cLs cs2 fun xs3 l10 =>
 cInt IntKind.i64 l10 fun n2 l11 =>
 cLs l11 fun xs4 l12 =>
 cBool l12 fun b2 l13 =>
 unNil l13 <|
 unOut l9 fun c4 l14 =>
 unDel c4 <|
 unEnd l14 <|
 some ((AV.tup [AV.ls xs2, iv n1], [BO.set (ABlk.mk [AV.ls xs3, iv n2, AV.ls xs4, bv b2] true false)])))
 (none))
 (askK D (Key.lp 49 0) [AV.ptr 0 0, AV.sl 1 0 0 3, bv false] [ABlk.mk [AV.ls xs, iv n, AV.ls xs1, bv b1] true false, ABlk.mk [] true true] fun r1 o1 =>
 unTup r1 fun cs1 =>
 unCons cs1 fun c1 l5 =>
 br (axIs 0 c1)
 (unCons l5 fun c2 l6 =>
 unPtr 0 0 c2 <|
 cLs l6 fun xs2 l7 =>
 cInt IntKind.i64 l7 fun n1 l8 =>
 unNil l8 <|
 unOut o1 fun c3 l9 =>
 unSet true false c3 fun cs2 =>
 cLs cs2 fun xs3 l10 =>
 cInt IntKind.i64 l10 fun n2 l11 =>
 cLs l11 fun xs4 l12 =>
 cBool l12 fun b2 l13 =>
 unNil l13 <|
 unOut l9 fun c4 l14 =>
 unDel c4 <|
 unEnd l14 <|
 some ((AV.tup [AV.ls xs2, iv n1], [BO.set (ABlk.mk [AV.ls xs3, iv n2, AV.ls xs4, bv b2] true false)])))
 (none)) := by kernel_rfl

theorem e49_0 (A : Ar) (D : Orc) (b0_0 : List (List AV)) (b0_1 : Int) (b0_2 : List (List AV)) (b0_3 : Bool) (n4 : Nat) (c4 : List AV) (t5 : Bool) : lpK A D ownC hn49 .n 49 0 (lpAt mf49 0).fst (lpAt mf49 0).snd [AV.ptr 0 0, AV.sl 1 0 n4 3, bv t5] [{ cells := [AV.ls b0_0, iv b0_1, AV.ls b0_2, bv b0_3], st := true, ex := false }, { cells := c4, st := true, ex := true }] =
 br (A.eq (↑n4) 64)
 (askK D (Key.fn 94) [AV.ptr 0 0] [ABlk.mk [AV.ls b0_0, iv b0_1, AV.ls b0_2, bv b0_3] true false] fun r o =>
 unBool r fun b =>
 unOut o fun c l =>
 unSet true false c fun cs =>
 cLs cs fun xs l1 =>
 cInt IntKind.i64 l1 fun n l2 =>
 cLs l2 fun xs1 l3 =>
 cBool l3 fun b1 l4 =>
 unNil l4 <|
 unEnd l <|
 br b
 (some ((AV.tup [bv true, AV.ptr 0 0, AV.ls [], iv 3], [BO.set (ABlk.mk [AV.ls xs, iv n, AV.ls xs1, bv b1] true false), BO.del])))
 (askK D (Key.fn 95) [AV.ptr 0 0, bv t5] [ABlk.mk [AV.ls xs, iv n, AV.ls xs1, bv b1] true false] fun r1 o1 =>
 unTup r1 fun cs1 =>
 unCons cs1 fun c1 l5 =>
 unAgg c1 fun cs2 =>
 cBool cs2 fun b2 l6 =>
 cStr l6 fun s l7 =>
 cStr l7 fun s1 l8 =>
 unNil l8 <|
 cInt IntKind.i64 l5 fun n1 l9 =>
 unNil l9 <|
 unOut o1 fun c2 l10 =>
 unSet true false c2 fun cs3 =>
 cLs cs3 fun xs2 l11 =>
 cInt IntKind.i64 l11 fun n2 l12 =>
 cLs l12 fun xs3 l13 =>
 cBool l13 fun b3 l14 =>
 unNil l14 <|
 unEnd l10 <|
 br (A.eq n1 0)
 (br (fitsB (n4 + 1) 40) (br ((0 + n4 * 3).ble c4.length) (askK D (Key.fn 96) [AV.ptr 0 0, sv (bstr [45])] [ABlk.mk [AV.ls xs2, iv n2, AV.ls xs3, bv b3] true false] fun r2 o2 =>
 unBool r2 fun b4 =>
 unOut o2 fun c3 l15 =>
 unSet true false c3 fun cs4 =>
 cLs cs4 fun xs4 l16 =>
 cInt IntKind.i64 l16 fun n3 l17 =>
 cLs l17 fun xs5 l18 =>
 cBool l18 fun b5 l19 =>
 unNil l19 <|
 unEnd l15 <|
 br b4
 (askK D (Key.fn 93) [AV.ptr 0 0, sv (bstr [45])] [ABlk.mk [AV.ls xs4, iv n3, AV.ls xs5, bv b5] true false] fun r3 o3 =>
 unBool r3 fun b6 =>
 unOut o3 fun c5 l20 =>
 unSet true false c5 fun cs5 =>
 cLs cs5 fun xs6 l21 =>
 cInt IntKind.i64 l21 fun n5 l22 =>
 cLs l22 fun xs7 l23 =>
 cBool l23 fun b7 l24 =>
 unNil l24 <|
 unEnd l20 <|
 br b6
 (askK D (Key.lp 49 0) [AV.ptr 0 0, AV.sl 1 0 (n4 + 1) 3, bv true] [ABlk.mk [AV.ls xs6, iv n5, AV.ls xs7, bv b7] true false, ABlk.mk (List.drop 0 (List.take (0 + n4 * 3) c4) ++ [bv b2, sv s, sv s1]) true true] fun r4 o4 =>
 tailK 2 [0, 4] (AH.mk [(0, ABlk.mk [AV.ls xs6, iv n5, AV.ls xs7, bv b7] true false), (4, ABlk.mk (List.drop 0 (List.take (0 + n4 * 3) c4) ++ [bv b2, sv s, sv s1]) true true), (3, ABlk.mk [bv b2, sv s, sv s1] true true), (2, ABlk.mk [bv b2, sv s, sv s1] true false)] 5 none) [1, 0] r4 o4)
 (askK D (Key.fn 93) [AV.ptr 0 0, sv (bstr [43])] [ABlk.mk [AV.ls xs6, iv n5, AV.ls xs7, bv b7] true false] fun r4 o4 =>
 unBool r4 fun b8 =>
 unOut o4 fun c6 l25 =>
 unSet true false c6 fun cs6 =>
 cLs cs6 fun xs8 l26 =>
 cInt IntKind.i64 l26 fun n6 l27 =>
 cLs l27 fun xs9 l28 =>
 cBool l28 fun b9 l29 =>
 unNil l29 <|
 unEnd l25 <|
 br b8
 (askK D (Key.lp 49 0) [AV.ptr 0 0, AV.sl 1 0 (n4 + 1) 3, bv true] [ABlk.mk [AV.ls xs8, iv n6, AV.ls xs9, bv b9] true false, ABlk.mk (List.drop 0 (List.take (0 + n4 * 3) c4) ++ [bv b2, sv s, sv s1]) true true] fun r5 o5 =>
 tailK 2 [0, 4] (AH.mk [(0, ABlk.mk [AV.ls xs8, iv n6, AV.ls xs9, bv b9] true false), (4, ABlk.mk (List.drop 0 (List.take (0 + n4 * 3) c4) ++ [bv b2, sv s, sv s1]) true true), (3, ABlk.mk [bv b2, sv s, sv s1] true true), (2, ABlk.mk [bv b2, sv s, sv s1] true false)] 5 none) [1, 0] r5 o5)
 (br ((0 + (n4 + 1) * 3).ble (List.drop 0 (List.take (0 + n4 * 3) c4) ++ [bv b2, sv s, sv s1]).length) (some ((AV.tup [bv true, AV.ptr 0 0, AV.ls (chunk (n4 + 1) 3 (List.take ((n4 + 1) * 3) (List.drop 0 (List.drop 0 (List.take (0 + n4 * 3) c4) ++ [bv b2, sv s, sv s1])))), iv 0], [BO.set (ABlk.mk [AV.ls xs8, iv n6, AV.ls xs9, bv b9] true false), BO.del]))) none)))
 (askK D (Key.fn 93) [AV.ptr 0 0, sv (bstr [45])] [ABlk.mk [AV.ls xs4, iv n3, AV.ls xs5, bv b5] true false] fun r3 o3 =>
 unBool r3 fun b6 =>
 unOut o3 fun c5 l20 =>
 unSet true false c5 fun cs5 =>
 cLs cs5 fun xs6 l21 =>
 cInt IntKind.i64 l21 fun n5 l22 =>
 cLs l22 fun xs7 l23 =>
 cBool l23 fun b7 l24 =>
 unNil l24 <|
 unEnd l20 <|
 br b6
 (askK D (Key.lp 49 0) [AV.ptr 0 0, AV.sl 1 0 (n4 + 1) 3, bv false] [ABlk.mk [AV.ls xs6, iv n5, AV.ls xs7, bv b7] true false, ABlk.mk (List.drop 0 (List.take (0 + n4 * 3) c4) ++ [bv b2, sv s, sv s1]) true true] fun r4 o4 =>
 tailK 2 [0, 4] (AH.mk [(0, ABlk.mk [AV.ls xs6, iv n5, AV.ls xs7, bv b7] true false), (4, ABlk.mk (List.drop 0 (List.take (0 + n4 * 3) c4) ++ [bv b2, sv s, sv s1]) true true), (3, ABlk.mk [bv b2, sv s, sv s1] true true), (2, ABlk.mk [bv b2, sv s, sv s1] true false)] 5 none) [1, 0] r4 o4)
 (askK D (Key.fn 93) [AV.ptr 0 0, sv (bstr [43])] [ABlk.mk [AV.ls xs6, iv n5, AV.ls xs7, bv b7] true false] fun r4 o4 =>
 unBool r4 fun b8 =>
 unOut o4 fun c6 l25 =>
 unSet true false c6 fun cs6 =>
 cLs cs6 fun xs8 l26 =>
 cInt IntKind.i64 l26 fun n6 l27 =>
 cLs l27 fun xs9 l28 =>
 cBool l28 fun b9 l29 =>
 unNil l29 <|
 unEnd l25 <|
 br b8
 (askK D (Key.lp 49 0) [AV.ptr 0 0, AV.sl 1 0 (n4 + 1) 3, bv false] [ABlk.mk [AV.ls xs8, iv n6, AV.ls xs9, bv b9] true false, ABlk.mk (List.drop 0 (List.take (0 + n4 * 3) c4) ++ [bv b2, sv s, sv s1]) true true] fun r5 o5 =>
 tailK 2 [0, 4] (AH.mk [(0, ABlk.mk [AV.ls xs8, iv n6, AV.ls xs9, bv b9] true false), (4, ABlk.mk (List.drop 0 (List.take (0 + n4 * 3) c4) ++ [bv b2, sv s, sv s1]) true true), (3, ABlk.mk [bv b2, sv s, sv s1] true true), (2, ABlk.mk [bv b2, sv s, sv s1] true false)] 5 none) [1, 0] r5 o5)
 (br ((0 + (n4 + 1) * 3).ble (List.drop 0 (List.take (0 + n4 * 3) c4) ++ [bv b2, sv s, sv s1]).length) (some ((AV.tup [bv true, AV.ptr 0 0, AV.ls (chunk (n4 + 1) 3 (List.take ((n4 + 1) * 3) (List.drop 0 (List.drop 0 (List.take (0 + n4 * 3) c4) ++ [bv b2, sv s, sv s1])))), iv 0], [BO.set (ABlk.mk [AV.ls xs8, iv n6, AV.ls xs9, bv b9] true false), BO.del]))) none)))) none) none)
 (some ((AV.tup [bv true, AV.ptr 0 0, AV.ls [], iv n1], [BO.set (ABlk.mk [AV.ls xs2, iv n2, AV.ls xs3, bv b3] true false), BO.del])))))
 (askK D (Key.fn 95) [AV.ptr 0 0, bv t5] [ABlk.mk [AV.ls b0_0, iv b0_1, AV.ls b0_2, bv b0_3] true false] fun r o =>
 unTup r fun cs =>
 unCons cs fun c l =>
 unAgg c fun cs1 =>
 cBool cs1 fun b l1 =>
 cStr l1 fun s l2 =>
 cStr l2 fun s1 l3 =>
 unNil l3 <|
 cInt IntKind.i64 l fun n l4 =>
 unNil l4 <|
 unOut o fun c1 l5 =>
 unSet true false c1 fun cs2 =>
 cLs cs2 fun xs l6 =>
 cInt IntKind.i64 l6 fun n1 l7 =>
 cLs l7 fun xs1 l8 =>
 cBool l8 fun b1 l9 =>
 unNil l9 <|
 unEnd l5 <|
 br (A.eq n 0)
 (br (fitsB (n4 + 1) 40) (br ((0 + n4 * 3).ble c4.length) (askK D (Key.fn 96) [AV.ptr 0 0, sv (bstr [45])] [ABlk.mk [AV.ls xs, iv n1, AV.ls xs1, bv b1] true false] fun r1 o1 =>
 unBool r1 fun b2 =>
 unOut o1 fun c2 l10 =>
 unSet true false c2 fun cs3 =>
 cLs cs3 fun xs2 l11 =>
 cInt IntKind.i64 l11 fun n2 l12 =>
 cLs l12 fun xs3 l13 =>
 cBool l13 fun b3 l14 =>
 unNil l14 <|
 unEnd l10 <|
 br b2
 (askK D (Key.fn 93) [AV.ptr 0 0, sv (bstr [45])] [ABlk.mk [AV.ls xs2, iv n2, AV.ls xs3, bv b3] true false] fun r2 o2 =>
 unBool r2 fun b4 =>
 unOut o2 fun c3 l15 =>
 unSet true false c3 fun cs4 =>
 cLs cs4 fun xs4 l16 =>
 cInt IntKind.i64 l16 fun n3 l17 =>
 cLs l17 fun xs5 l18 =>
 cBool l18 fun b5 l19 =>
 unNil l19 <|
 unEnd l15 <|
 br b4
 (askK D (Key.lp 49 0) [AV.ptr 0 0, AV.sl 1 0 (n4 + 1) 3, bv true] [ABlk.mk [AV.ls xs4, iv n3, AV.ls xs5, bv b5] true false, ABlk.mk (List.drop 0 (List.take (0 + n4 * 3) c4) ++ [bv b, sv s, sv s1]) true true] fun r3 o3 =>
 tailK 2 [0, 4] (AH.mk [(0, ABlk.mk [AV.ls xs4, iv n3, AV.ls xs5, bv b5] true false), (4, ABlk.mk (List.drop 0 (List.take (0 + n4 * 3) c4) ++ [bv b, sv s, sv s1]) true true), (3, ABlk.mk [bv b, sv s, sv s1] true true), (2, ABlk.mk [bv b, sv s, sv s1] true false)] 5 none) [1, 0] r3 o3)
 (askK D (Key.fn 93) [AV.ptr 0 0, sv (bstr [43])] [ABlk.mk [AV.ls xs4, iv n3, AV.ls xs5, bv b5] true false] fun r3 o3 =>
 unBool r3 fun b6 =>
 unOut o3 fun c5 l20 =>
 unSet true false c5 fun cs5 =>
 cLs cs5 fun xs6 l21 =>
 cInt IntKind.i64 l21 fun n5 l22 =>
 cLs l22 fun xs7 l23 =>
 cBool l23 fun b7 l24 =>
 unNil l24 <|
 unEnd l20 <|
 br b6
 (askK D (Key.lp 49 0) [AV.ptr 0 0, AV.sl 1 0 (n4 + 1) 3, bv true] [ABlk.mk [AV.ls xs6, iv n5, AV.ls xs7, bv b7] true false, ABlk.mk (List.drop 0 (List.take (0 + n4 * 3) c4) ++ [bv b, sv s, sv s1]) true true] fun r4 o4 =>
 tailK 2 [0, 4] (AH.mk [(0, ABlk.mk [AV.ls xs6, iv n5, AV.ls xs7, bv b7] true false), (4, ABlk.mk (List.drop 0 (List.take (0 + n4 * 3) c4) ++ [bv b, sv s, sv s1]) true true), (3, ABlk.mk [bv b, sv s, sv s1] true true), (2, ABlk.mk [bv b, sv s, sv s1] true false)] 5 none) [1, 0] r4 o4)
 (br ((0 + (n4 + 1) * 3).ble (List.drop 0 (List.take (0 + n4 * 3) c4) ++ [bv b, sv s, sv s1]).length) (some ((AV.tup [bv true, AV.ptr 0 0, AV.ls (chunk (n4 + 1) 3 (List.take ((n4 + 1) * 3) (List.drop 0 (List.drop 0 (List.take (0 + n4 * 3) c4) ++ [bv b, sv s, sv s1])))), iv 0], [BO.set (ABlk.mk [AV.ls xs6, iv n5, AV.ls xs7, bv b7] true false), BO.del]))) none)))
 (askK D (Key.fn 93) [AV.ptr 0 0, sv (bstr [45])] [ABlk.mk [AV.ls xs2, iv n2, AV.ls xs3, bv b3] true false] fun r2 o2 =>
 unBool r2 fun b4 =>
 unOut o2 fun c3 l15 =>
 unSet true false c3 fun cs4 =>
 cLs cs4 fun xs4 l16 =>
 cInt IntKind.i64 l16 fun n3 l17 =>
 cLs l17 fun xs5 l18 =>
 cBool l18 fun b5 l19 =>
 unNil l19 <|
 unEnd l15 <|
 br b4
 (askK D (Key.lp 49 0) [AV.ptr 0 0, AV.sl 1 0 (n4 + 1) 3, bv false] [ABlk.mk [AV.ls xs4, iv n3, AV.ls xs5, bv b5] true false, ABlk.mk (List.drop 0 (List.take (0 + n4 * 3) c4) ++ [bv b, sv s, sv s1]) true true] fun r3 o3 =>
 tailK 2 [0, 4] (AH.mk [(0, ABlk.mk [AV.ls xs4, iv n3, AV.ls xs5, bv b5] true false), (4, ABlk.mk (List.drop 0 (List.take (0 + n4 * 3) c4) ++ [bv b, sv s, sv s1]) true true), (3, ABlk.mk [bv b, sv s, sv s1] true true), (2, ABlk.mk [bv b, sv s, sv s1] true false)] 5 none) [1, 0] r3 o3)
 (askK D (Key.fn 93) [AV.ptr 0 0, sv (bstr [43])] [ABlk.mk [AV.ls xs4, iv n3, AV.ls xs5, bv b5] true false] fun r3 o3 =>
 unBool r3 fun b6 =>
 unOut o3 fun c5 l20 =>
 unSet true false c5 fun cs5 =>
 cLs cs5 fun xs6 l21 =>
 cInt IntKind.i64 l21 fun n5 l22 =>
 cLs l22 fun xs7 l23 =>
 cBool l23 fun b7 l24 =>
 unNil l24 <|
 unEnd l20 <|
 br b6
 (askK D (Key.lp 49 0) [AV.ptr 0 0, AV.sl 1 0 (n4 + 1) 3, bv false] [ABlk.mk [AV.ls xs6, iv n5, AV.ls xs7, bv b7] true false, ABlk.mk (List.drop 0 (List.take (0 + n4 * 3) c4) ++ [bv b, sv s, sv s1]) true true] fun r4 o4 =>
 tailK 2 [0, 4] (AH.mk [(0, ABlk.mk [AV.ls xs6, iv n5, AV.ls xs7, bv b7] true false), (4, ABlk.mk (List.drop 0 (List.take (0 + n4 * 3) c4) ++ [bv b, sv s, sv s1]) true true), (3, ABlk.mk [bv b, sv s, sv s1] true true), (2, ABlk.mk [bv b, sv s, sv s1] true false)] 5 none) [1, 0] r4 o4)
 (br ((0 + (n4 + 1) * 3).ble (List.drop 0 (List.take (0 + n4 * 3) c4) ++ [bv b, sv s, sv s1]).length) (some ((AV.tup [bv true, AV.ptr 0 0, AV.ls (chunk (n4 + 1) 3 (List.take ((n4 + 1) * 3) (List.drop 0 (List.drop 0 (List.take (0 + n4 * 3) c4) ++ [bv b, sv s, sv s1])))), iv 0], [BO.set (ABlk.mk [AV.ls xs6, iv n5, AV.ls xs7, bv b7] true false), BO.del]))) none)))) none) none)
 (some ((AV.tup [bv true, AV.ptr 0 0, AV.ls [], iv n], [BO.set (ABlk.mk [AV.ls xs, iv n1, AV.ls xs1, bv b1] true false), BO.del])))) := by kernel_rfl

theorem e90 (A : Ar) (D : Orc) : fnK A D ownC hn90 .n 90 mf90 [] [] =
 some ((AV.ls [[sv (bstr [61])], [sv (bstr [33, 61])], [sv (bstr [60])], [sv (bstr [60, 61])], [sv (bstr [62])], [sv (bstr [62, 61])]], [])) := by kernel_rfl

theorem e88 (A : Ar) (D : Orc) (x0 : List (List AV)) (x1 : ByteArray) : fnK A D ownC hn88 .n 88 mf88 [AV.ls x0, sv x1] [] =
 askK D (Key.lp 88 0) [AV.ls x0, sv x1, iv ↑(lenR x0), iv 0] [] fun r o =>
 unTup r fun cs =>
 unCons cs fun c l =>
 br (axIs 0 c)
 (cInt IntKind.i64 l fun n l1 =>
 unNil l1 <|
 unEnd o <|
 some ((iv n, [])))
 (br (axIs 1 c)
 (unNil l <|
 unEnd o <|
 some ((iv (-1), [])))
 (none)) := by kernel_rfl

theorem e88_0 (A : Ar) (D : Orc) (t0 : List (List AV)) (t1 : ByteArray) (t7 : Int) (t8 : Int) : lpK A D ownC hn88 .n 88 0 (lpAt mf88 0).fst (lpAt mf88 0).snd [AV.ls t0, sv t1, iv t7, iv t8] [] =
 br (A.lt t8 t7)
 (unI t8 fun i =>
 nthK t0 i fun cs =>
 cStr cs fun s l =>
 unNil l <|
 br (A.seq t1 s)
 (some ((AV.tup [bv true, iv t8], [])))
 (askK D (Key.lp 88 0) [AV.ls t0, sv t1, iv t7, iv (A.add IntKind.i64 t8 1)] [] fun r o =>
 tailK 0 [] (AH.mk [] 0 none) [] r o))
 (some ((AV.tup [iv 0], []))) := by kernel_rfl

theorem e219 (A : Ar) (D : Orc) (x0 : List (List AV)) (x1 : ByteArray) : fnK A D ownC hn219 .n 219 mf219 [AV.ls x0, sv x1] [] =
 askK D (Key.fn 88) [AV.ls x0, sv x1] [] fun r o =>
 unInt IntKind.i64 r fun n =>
 unEnd o <|
 br (A.le 0 n)
 (some ((bv true, [])))
 (some ((bv false, []))) := by kernel_rfl
end Go.Proofs.YtlmhajfbpplpoaaGreat
namespace Go.Proofs.YtlmhajfbpplpoaaGreat
open Go.RowKit

section
variable {D : Orc}
theorem nth_last {α : Type} (l : List α) (h : l ≠ []) (d : α) : l[l.length - 1]? = some (l.getLastD d) := by
 rw [← List.getLast?_eq_getElem?, List.getLast?_eq_some_getLast h, List.getLastD_eq_getLast?, List.getLast?_eq_some_getLast h]
 rfl
theorem at_ok (K : Knows ownC tabEa D) (ts : List Tk) (vars : List ByteArray) (kn : Bool) (i : Nat) (hts : ts.length < 4611686018427387904) (hi : i < 4611686018427387904) : D.ask (.fn 92) [.ptr 0 0] [cuB ts vars kn i] = some (.agg (eTk (nx ts i)), [.set (cuB ts vars kn i)]) := by
 refine K.fn' hn92 _ rfl ((e92 ..).trans ?_)
 simp only [r_eq, lenR_map, br_if]
 by_cases h0 : ts = []
 ·subst h0
  rw [if_pos (by simp)]
  rfl
 ·have hl : 0 < ts.length := List.length_pos_iff.2 h0
  rw [if_neg (by simp [h0])]
  have e1 : realA.sub .i64 (ts.length : Int) 1 = ((ts.length - 1 : Nat) : Int) := by rw [r_sub (by omega) (by omega)]; omega
  obtain ⟨k, e2, e3⟩ : ∃ k : Nat, realA.min (realA.max (i : Int) 0) (realA.sub .i64 (ts.length : Int) 1) = (k : Int) ∧ ts[k]? = some (nx ts i) := by
   rw [e1, r_max, r_min]
   unfold nx
   by_cases h : i < ts.length
   ·exact ⟨i, by omega, by rw [List.getElem?_eq_getElem h]⟩
   ·exact ⟨ts.length - 1, by omega, by rw [List.getElem?_eq_none (show ts.length ≤ i by omega), nth_last ts h0 ⟨5, [], 0, 0⟩]⟩
  rw [e2, unI_n]
  rw [nthK_some e3]
  simp only [eTk, ND]
  rfl
theorem is_ok (K : Knows ownC tabEa D) (ts : List Tk) (vars : List ByteArray) (kn : Bool) (i : Nat) (hts : ts.length < 4611686018427387904) (hi : i < 4611686018427387904) (s : List UInt8) : D.ask (.fn 96) [.ptr 0 0, sv (bstr s)] [cuB ts vars kn i] = some (bv (isT ts i s), [.set (cuB ts vars kn i)]) := by
 refine K.fn' hn96 _ rfl ((e96 ..).trans ?_)
 refine (askK_of (at_ok K ts vars kn i hts hi) _).trans ?_
 unfold isT
 simp only [eTk, cuB, ND, ci0, ci1, ci2, ci3, ci4, ci5, ci6, r_lt, r_le, r_eq, r_seq, r_slen, r_cat, r_beq, br_if, bstr_inj]
 by_cases h1 : (nx ts i).text = s <;> by_cases h2 : (nx ts i).kind = 1 <;> by_cases h3 : (nx ts i).kind = 2 <;> by_cases h4 : (nx ts i).kind = 4 <;> simp [h1, h2, h3, h4]
theorem take_ok (K : Knows ownC tabEa D) (ts : List Tk) (vars : List ByteArray) (kn : Bool) (i : Nat) (hts : ts.length < 4611686018427387904) (hi : i < 4611686018427387904) (s : List UInt8) : D.ask (.fn 93) [.ptr 0 0, sv (bstr s)] [cuB ts vars kn i] = some (bv (isT ts i s), [.set (cuB ts vars kn (if isT ts i s then i + 1 else i))]) := by
 refine K.fn' hn93 _ rfl ((e93 ..).trans ?_)
 refine (askK_of (is_ok K ts vars kn i hts hi s) _).trans ?_
 simp only [cuB, ND, add1 hi]
 cases isT ts i s <;> rfl
theorem want_ok (K : Knows ownC tabEa D) (ts : List Tk) (vars : List ByteArray) (kn : Bool) (i : Nat) (hts : ts.length < 4611686018427387904) (hi : i < 4611686018427387904) (s : List UInt8) : D.ask (.fn 248) [.ptr 0 0, sv (bstr s)] [cuB ts vars kn i] = some (iv (if isT ts i s then 0 else 101), [.set (cuB ts vars kn (if isT ts i s then i + 1 else i))]) := by
 refine K.fn' hn248 _ rfl ((e248 ..).trans ?_)
 refine (askK_of (take_ok K ts vars kn i hts hi s) _).trans ?_
 simp only [cuB, ND]
 cases isT ts i s <;> rfl
structure NameF (D : Orc) : Prop where
 name : ∀ s : List UInt8, s.length < 4611686018427387904 → D.ask (.fn 109) [sv (bstr s)] [] = some (bv (nameB s), [])
def ShortT (ts : List Tk) : Prop := ∀ i, (nx ts i).text.length < 4611686018427387904
theorem name_ok (K : Knows ownC tabEa D) (L : NameF D) (ts : List Tk) (vars : List ByteArray) (kn : Bool) (i : Nat) (hts : ts.length < 4611686018427387904) (hs : ShortT ts) (hi : i < 4611686018427387904) : D.ask (.fn 162) [.ptr 0 0] [cuB ts vars kn i] = some (bv (isN ts i), [.set (cuB ts vars kn i)]) := by
 refine K.fn' hn162 _ rfl ((e162 ..).trans ?_)
 refine (askK_of (at_ok K ts vars kn i hts hi) _).trans ?_
 unfold isN
 simp only [eTk, cuB, ND, ci0, ci1, ci2, ci3, ci4, ci5, ci6, r_lt, r_le, r_eq, r_seq, r_slen, r_cat, r_beq]
 by_cases h : (nx ts i).kind = 1
 ·simp only [h, decide_true, ND]
  refine (askK_of (L.name _ (hs i)) _).trans ?_
  simp only [ND]
  cases nameB (nx ts i).text <;> rfl
 ·simp only [h, decide_false, ND]
  rfl
theorem begins_ok (K : Knows ownC tabEa D) (L : NameF D) (ts : List Tk) (vars : List ByteArray) (kn : Bool) (i : Nat) (hts : ts.length < 4611686018427387904) (hs : ShortT ts) (hi : i < 4611686018427387904) : D.ask (.fn 94) [.ptr 0 0] [cuB ts vars kn i] = some (bv (begP ts i), [.set (cuB ts vars kn i)]) := by
 refine K.fn' hn94 _ rfl ((e94 ..).trans ?_)
 refine (askK_of (at_ok K ts vars kn i hts hi) _).trans ?_
 unfold begP
 simp only [eTk, cuB, ND, ci0, ci1, ci2, ci3, ci4, ci5, ci6, r_lt, r_le, r_eq, r_seq, r_slen, r_cat, r_beq]
 by_cases h : (nx ts i).kind = 3
 ·simp only [h, decide_true, ND]
  rfl
 ·simp only [h, decide_false, ND]
  refine (askK_of (name_ok K L ts vars kn i hts hs hi) _).trans ?_
  simp only [cuB, ND]
  cases isN ts i <;> rfl
def placeI : Option Nat → Int
 | some j => j
 | none => -1
def placeR (i : Nat) : Option Nat → AV
 | some j => .tup [bv true, iv ((i + j : Nat) : Int)]
 | none => .tup [iv 0]
theorem index_lp (K : Knows ownC tabEa D) (xs : List ByteArray) (hx : xs.length < 4611686018427387904) (s : ByteArray) : ∀ (k i : Nat), xs.length - i = k → D.ask (.lp 88 0) [.ls (xs.map eS), sv s, iv (xs.length : Int), iv (i : Int)] [] = some (placeR i ((xs.drop i).findIdx? (s = ·)), []) := by
 intro k
 induction k with
 | zero =>
  intro i hi
  refine K.lp' hn88 _ rfl (by kernel_rfl) ((e88_0 ..).trans ?_)
  have : xs.drop i = [] := List.drop_eq_nil_of_le (by omega)
  simp only [r_lt, this, br_if]
  rw [if_neg (by simp; omega)]
  rfl
 | succ k ih =>
  intro i hi
  have hlt : i < xs.length := by omega
  refine K.lp' hn88 _ rfl (by kernel_rfl) ((e88_0 ..).trans ?_)
  have e1 : xs.drop i = xs[i] :: xs.drop (i + 1) := List.drop_eq_getElem_cons hlt
  have ih' := ih (i + 1) (by omega)
  have e2 : realA.add .i64 (i : Int) 1 = ((i + 1 : Nat) : Int) := add1 (by omega)
  simp only [r_lt, unI_n, nthK_map, List.getElem?_eq_getElem hlt, eS, cStr_sv, unNil_nil, r_seq, e2, br_if]
  rw [if_pos (by simpa using hlt), e1, List.findIdx?_cons]
  by_cases h : s = xs[i]
  ·simp [← h, placeR]
  ·rw [if_neg (by simpa using h), if_neg (by simpa using h)]
   refine (askK_of ih' _).trans ?_
   cases (xs.drop (i + 1)).findIdx? (s = ·) with
   | none => rfl
   | some j =>
    simp only [placeR, Option.map_some, show i + (j + 1) = i + 1 + j by omega]
    rfl
theorem index_ok (K : Knows ownC tabEa D) (xs : List ByteArray) (hx : xs.length < 4611686018427387904) (s : ByteArray) : D.ask (.fn 88) [.ls (xs.map eS), sv s] [] = some (iv (placeI (xs.findIdx? (s = ·))), []) := by
 refine K.fn' hn88 _ rfl ((e88 ..).trans ?_)
 rw [lenR_map]
 refine (askK_of (index_lp K xs hx s _ 0 rfl) _).trans ?_
 rw [List.drop_zero]
 cases xs.findIdx? (s = ·) with
 | none => rfl
 | some j => simp only [placeR, ND, Nat.zero_add]; rfl
theorem placeI_mem (xs : List ByteArray) (s : ByteArray) : decide (0 ≤ placeI (xs.findIdx? (s = ·))) = decide (s ∈ xs) := by
 cases e : xs.findIdx? (s = ·) with
 | none =>
  have := List.findIdx?_eq_none_iff.1 e
  have h : s ∉ xs := fun h => by simpa using this s h
  simp [placeI, h]
 | some j =>
  obtain ⟨h, h2, _⟩ := List.findIdx?_eq_some_iff_getElem.1 e
  have : s ∈ xs := by
   have h2 : s = xs[j] := by simpa using h2
   rw [h2]; exact List.getElem_mem h
  simp [placeI, this]
theorem contains_ok (K : Knows ownC tabEa D) (xs : List ByteArray) (hx : xs.length < 4611686018427387904) (s : ByteArray) : D.ask (.fn 219) [.ls (xs.map eS), sv s] [] = some (bv (decide (s ∈ xs)), []) := by
 refine K.fn' hn219 _ rfl ((e219 ..).trans ?_)
 refine (askK_of (index_ok K xs hx s) _).trans ?_
 simp only [ND, r_le, placeI_mem]
 cases decide (s ∈ xs) <;> rfl
theorem variable_ok (K : Knows ownC tabEa D) (L : NameF D) (ts : List Tk) (vars : List ByteArray) (kn : Bool) (i : Nat) (hts : ts.length < 4611686018427387904) (hv : vars.length < 4611686018427387904) (hs : ShortT ts) (hi : i < 4611686018427387904) : D.ask (.fn 163) [.ptr 0 0] [cuB ts vars kn i] = some (.tup [sv (varP ts vars kn i).2.2, iv ((varP ts vars kn i).2.1 : Int)], [.set (cuB ts vars kn (varP ts vars kn i).1)]) := by
 refine K.fn' hn163 _ rfl ((e163 ..).trans ?_)
 refine (askK_of (at_ok K ts vars kn i hts hi) _).trans ?_
 simp only [eTk, cuB, ND]
 refine (askK_of (name_ok K L ts vars kn i hts hs hi) _).trans ?_
 unfold varP
 simp only [cuB, ND, add1 hi]
 cases isN ts i with
 | false => rfl
 | true =>
  cases kn with
  | false => rfl
  | true =>
   simp only [ND, Bool.true_eq_false, if_false, true_and]
   refine (askK_of (contains_ok K vars hv _) _).trans ?_
   simp only [ND]
   by_cases h : bstr (nx ts i).text ∈ vars <;> simp only [h, decide_true, decide_false, ND, not_true, not_false_eq_true, if_true, if_false] <;> rfl
theorem varP_le (ts : List Tk) (vars : List ByteArray) (kn : Bool) (i : Nat) : i ≤ (varP ts vars kn i).1 ∧ (varP ts vars kn i).1 ≤ i + 1 := by
 unfold varP
 split
 ·simp
 ·split <;> simp
theorem monoP_le (ts : List Tk) (vars : List ByteArray) (kn : Bool) (i : Nat) (neg : Bool) : i ≤ (monoP ts vars kn i neg).1 ∧ (monoP ts vars kn i neg).1 ≤ i + 3 := by
 unfold monoP
 have h1 := varP_le ts vars kn i
 have h2 := varP_le ts vars kn (i + 2)
 split
 ·split
  ·simp only; omega
  ·simp
 ·simp only; omega
theorem mono_ok (K : Knows ownC tabEa D) (L : NameF D) (ts : List Tk) (vars : List ByteArray) (kn : Bool) (i : Nat) (hts : ts.length < 4611686018427387904) (hv : vars.length < 4611686018427387904) (hs : ShortT ts) (hi : i + 3 < 4611686018427387904) (neg : Bool) : D.ask (.fn 95) [.ptr 0 0, bv neg] [cuB ts vars kn i] = some (.tup [.agg (eMo (monoP ts vars kn i neg).2.2), iv ((monoP ts vars kn i neg).2.1 : Int)], [.set (cuB ts vars kn (monoP ts vars kn i neg).1)]) := by
 refine K.fn' hn95 _ rfl ((e95 ..).trans ?_)
 refine (askK_of (at_ok K ts vars kn i hts (by omega)) _).trans ?_
 unfold monoP eMo
 simp only [eTk, cuB, ND, ci0, ci1, ci2, ci3, ci4, ci5, ci6, r_lt, r_le, r_eq, r_seq, r_slen, r_cat, r_beq]
 by_cases h : (nx ts i).kind = 3
 ·simp only [h, decide_true, ND, add1 (show i < 4611686018427387904 by omega), if_true]
  refine (askK_of (take_ok K ts vars kn (i + 1) hts (by omega) _) _).trans ?_
  simp only [cuB, ND]
  cases isT ts (i + 1) [42] with
  | false => rfl
  | true =>
   simp only [if_true, ND]
   refine (askK_of (variable_ok K L ts vars kn (i + 2) hts hv hs (by omega)) _).trans ?_
   simp only [cuB, ND]
 ·simp only [h, decide_false, ND, if_false]
  refine (askK_of (variable_ok K L ts vars kn i hts hv hs (by omega)) _).trans ?_
  simp only [cuB, ND]
end
end Go.Proofs.YtlmhajfbpplpoaaGreat
namespace Go.Proofs.YtlmhajfbpplpoaaGreat
open Go.RowKit
def hs121 : Hints := [⟨19, [true, true, false, false, false, true], [], [], [(0, ([false, false, false, false, true], ([], []))), (1, ([], ([], [])))]⟩]
noncomputable def mf121 : MFn := mfD Tryz.prog entsC hs121 false false 121
def hs103 : Hints := []
noncomputable def mf103 : MFn := mfD Tryz.prog entsC hs103 false false 103
def hs101 : Hints := []
noncomputable def mf101 : MFn := mfD Tryz.prog entsC hs101 false false 101
def hn101 : Hnt := ⟨[], [], [(4, [.ls]), (9, [.int .i64]), (12, [.ls]), (13, [.int .i64, .str, .int .i64, .int .i64]), (14, [.int .i64, .str, .int .i64, .int .i64]), (16, [.int .i64]), (18, [.ls]), (22, [.ls]), (24, [.ls]), (27, [.int .i64, .str, .int .i64, .int .i64]), (28, [.int .i64, .str, .int .i64, .int .i64]), (30, [.ls]), (32, [.int .i64]), (33, [.int .i64, .str, .int .i64, .int .i64]), (34, [.int .i64, .str, .int .i64, .int .i64])]⟩
def hs99 : Hints := []
noncomputable def mf99 : MFn := mfD Tryz.prog entsC hs99 false false 99
def hs100 : Hints := []
noncomputable def mf100 : MFn := mfD Tryz.prog entsC hs100 false false 100
def hs102 : Hints := []
noncomputable def mf102 : MFn := mfD Tryz.prog entsC hs102 false false 102
def hs237 : Hints := []
noncomputable def mf237 : MFn := mfD Tryz.prog entsC hs237 false false 237
def hs51 : Hints := [⟨90, [false, true, true, false, false, true, true], [(5, 3)], [1, 2], [(0, ([false, false, true, true, true], ([2, 3], [1, 5])))]⟩]
noncomputable def mf51 : MFn := mfD Tryz.prog entsC hs51 false false 51
def hs221 : Hints := [⟨52, [false, true, true, true, false, true, false, true, true], [], [1, 2, 3], [(1, ([false, true, true, true, false, true, false, true], ([], [])))]⟩]
noncomputable def mf221 : MFn := mfD Tryz.prog entsC hs221 false false 221
def hs166 : Hints := []
noncomputable def mf166 : MFn := mfD Tryz.prog entsC hs166 false false 166
def hs105 : Hints := [⟨46, [false, true, true, false, true, true, false, true, true], [], [2, 4, 5, 7], [(1, ([false, false, true, false, true, true, false, true, true], ([], [])))]⟩]
noncomputable def mf105 : MFn := mfD Tryz.prog entsC hs105 false false 105
def hs55 : Hints := [⟨46, [false, true, true, false, true, true, false, true, true], [], [2, 4, 5, 7], [(1, ([false, false, true, false, true, true, false, true, true], ([], [])))]⟩]
noncomputable def mf55 : MFn := mfD Tryz.prog entsC hs55 false false 55
def hs52 : Hints := []
noncomputable def mf52 : MFn := mfD Tryz.prog entsC hs52 false false 52
def hn52 : Hnt := ⟨[(101, (.agg [.int .i64, .str, .int .i64, .int .i64], []))], [], [(9, [.ls, .int .i64, .ls, .bool]), (16, [.ls, .int .i64, .ls, .bool])]⟩
noncomputable def tabRa : List (Nat × MFn) := [(121, mf121), (103, mf103), (101, mf101), (99, mf99), (100, mf100), (102, mf102), (237, mf237), (51, mf51), (221, mf221), (166, mf166), (105, mf105), (55, mf55), (52, mf52)]
theorem e101 (A : Ar) (D : Orc) (x0_0 : List (List AV)) (x0_1 : Int) (x0_2 : List (List AV)) (x0_3 : Bool) : fnK A D ownC hn101 .n 101 mf101 [AV.agg [AV.ls x0_0, iv x0_1, AV.ls x0_2, bv x0_3]] [] =
 br (A.eq (↑(lenR x0_0)) 0)
 (some ((AV.agg [iv 5, sv (bstr []), iv 0, iv 0], [])))
 (br (A.lt x0_1 0)
 (nthK x0_0 0 fun cs =>
 cInt IntKind.i64 cs fun n l =>
 cStr l fun s l1 =>
 cInt IntKind.i64 l1 fun n1 l2 =>
 cInt IntKind.i64 l2 fun n2 l3 =>
 unNil l3 <|
 some ((AV.agg [iv n, sv s, iv n1, iv n2], [])))
 (br (A.le (↑(lenR x0_0)) x0_1)
 (unI (A.sub IntKind.i64 (↑(lenR x0_0)) 1) fun i =>
 nthK x0_0 i fun cs =>
 cInt IntKind.i64 cs fun n l =>
 cStr l fun s l1 =>
 cInt IntKind.i64 l1 fun n1 l2 =>
 cInt IntKind.i64 l2 fun n2 l3 =>
 unNil l3 <|
 some ((AV.agg [iv n, sv s, iv n1, iv n2], [])))
 (unI x0_1 fun i =>
 nthK x0_0 i fun cs =>
 cInt IntKind.i64 cs fun n l =>
 cStr l fun s l1 =>
 cInt IntKind.i64 l1 fun n1 l2 =>
 cInt IntKind.i64 l2 fun n2 l3 =>
 unNil l3 <|
 some ((AV.agg [iv n, sv s, iv n1, iv n2], []))))) := by kernel_rfl

theorem e52 (A : Ar) (D : Orc) (x0_0 : List (List AV)) (x0_1 : Int) (x0_2 : List (List AV)) (x0_3 : Bool) (x1 : Int) : fnK A D ownC hn52 (.b (.b (.b (.b (.b (.b (.b .n (.b (.b .n (.b .n (.t .n))) .n)) .n) .n) .n) .n) .n) (.b .n (.b .n (.b .n (.b .n (.b .n (.b .n (.b .n (.f .n))))))))) 52 mf52 [AV.agg [AV.ls x0_0, iv x0_1, AV.ls x0_2, bv x0_3], iv x1] [] =
 br (A.eq x1 0)
 (askK D (Key.fn 101) [AV.agg [AV.ls x0_0, iv x0_1, AV.ls x0_2, bv x0_3]] [] fun r o =>
 unAgg r fun cs =>
 cInt IntKind.i64 cs fun n l =>
 cStr l fun _ l1 =>
 cInt IntKind.i64 l1 fun _ l2 =>
 cInt IntKind.i64 l2 fun _ l3 =>
 unNil l3 <|
 unEnd o <|
 br (A.eq n 5)
 (br (A.eq x1 0) (some ((AV.tup [AV.agg [iv 0, iv 0], iv 0], []))) none)
 (br (A.eq 101 0)
 (some ((AV.tup [AV.agg [iv 0, iv 0], iv 0], [])))
 (askK D (Key.fn 101) [AV.agg [AV.ls x0_0, iv x0_1, AV.ls x0_2, bv x0_3]] [] fun r1 o1 =>
 unAgg r1 fun cs1 =>
 cInt IntKind.i64 cs1 fun _ l4 =>
 cStr l4 fun _ l5 =>
 cInt IntKind.i64 l5 fun n4 l6 =>
 cInt IntKind.i64 l6 fun n5 l7 =>
 unNil l7 <|
 unEnd o1 <|
 some ((AV.tup [AV.agg [iv n4, iv n5], iv 101], [])))))
 (br (A.eq x1 0) none (askK D (Key.fn 101) [AV.agg [AV.ls x0_0, iv x0_1, AV.ls x0_2, bv x0_3]] [] fun r o =>
 unAgg r fun cs =>
 cInt IntKind.i64 cs fun _ l =>
 cStr l fun _ l1 =>
 cInt IntKind.i64 l1 fun n1 l2 =>
 cInt IntKind.i64 l2 fun n2 l3 =>
 unNil l3 <|
 unEnd o <|
 some ((AV.tup [AV.agg [iv n1, iv n2], iv x1], [])))) := by kernel_rfl
end Go.Proofs.YtlmhajfbpplpoaaGreat
namespace Go.Proofs.YtlmhajfbpplpoaaGreat
open Go.RowKit

section
variable {D : Orc}
structure RNameF (D : Orc) : Prop where
 name : ∀ s : List UInt8, s.length < 4611686018427387904 → D.ask (.fn 77) [sv (bstr s)] [] = some (bv (nameB s), [])
theorem next_ok (K : Knows ownC tabRa D) (ts : List Tk) (vars : List ByteArray) (kn : Bool) (i : Nat) (hts : ts.length < 4611686018427387904) : D.ask (.fn 101) [cuA ts vars kn i] [] = some (.agg (eTk (nx ts i)), []) := by
 refine K.fn' hn101 _ rfl ((e101 ..).trans ?_)
 simp only [r_eq, r_lt, r_le, lenR_map, br_if]
 by_cases h0 : ts = []
 ·subst h0
  rw [if_pos (by simp)]
  rfl
 ·have hl : 0 < ts.length := List.length_pos_iff.2 h0
  rw [if_neg (by simp [h0]), if_neg (by simp)]
  unfold nx
  by_cases h : i < ts.length
  ·rw [if_neg (by simp; omega), unI_n, nthK_some (List.getElem?_eq_getElem h), List.getElem?_eq_getElem h]
   simp only [eTk, ND]
  ·have e1 : realA.sub .i64 (ts.length : Int) 1 = ((ts.length - 1 : Nat) : Int) := by rw [r_sub (by omega) (by omega)]; omega
   rw [if_pos (by simp; omega), e1, unI_n, nthK_some (nth_last ts h0 ⟨5, [], 0, 0⟩), List.getElem?_eq_none (show ts.length ≤ i by omega)]
   simp only [eTk, ND]
end
end Go.Proofs.YtlmhajfbpplpoaaGreat
namespace Go.Proofs.YtlmhajfbpplpoaaGreat
open Go.RowKit

section
variable {D : Orc}
theorem eMo_len (m : Mo) : (eMo m).length = 3 := rfl
theorem begP_mono {ts : List Tk} {vars : List ByteArray} {kn : Bool} {i : Nat} {neg : Bool} (h : begP ts i = false) : (monoP ts vars kn i neg).1 = i ∧ (monoP ts vars kn i neg).2.1 = 101 := by
 unfold begP at h
 simp only [Bool.or_eq_false_iff, decide_eq_false_iff_not] at h
 unfold monoP varP
 rw [if_neg h.1, if_pos h.2]
 exact ⟨rfl, rfl⟩
theorem sum_lp (K : Knows ownC tabEa D) (L : NameF D) (ts : List Tk) (vars : List ByteArray) (kn : Bool) (hts : ts.length < 4611686018427387904) (hv : vars.length < 4611686018427387904) (hs : ShortT ts) : ∀ (k : Nat) (out : List Mo) (neg : Bool) (i : Nat), out.length + k = 64 → i + 4 * (k + 1) < 4611686018427387904 →
  D.ask (.lp 49 0) [.ptr 0 0, .sl 1 0 out.length 3, bv neg] [cuB ts vars kn i, ABlk.mk (rowC eMo out) true true] = some (.tup [bv true, .ptr 0 0, .ls ((sumL ts vars kn k out neg i).2.2.map eMo), iv ((sumL ts vars kn k out neg i).2.1 : Int)], [.set (cuB ts vars kn (sumL ts vars kn k out neg i).1), .del]) := by
 intro k
 induction k with
 | zero =>
  intro out neg i hk hi
  refine K.lp' hn49 _ rfl (by kernel_rfl) ((e49_0 ..).trans ?_)
  have h64 : decide ((out.length : Int) = 64) = true := by simp; omega
  simp only [r_eq, h64, br_t]
  refine (askK_of (begins_ok K L ts vars kn i hts hs (by omega)) _).trans ?_
  simp only [cuB, ND]
  unfold sumL
  cases hb : begP ts i with
  | true => rfl
  | false =>
   simp only [ND]
   refine (askK_of (mono_ok K L ts vars kn i hts hv hs (by omega) neg) _).trans ?_
   obtain ⟨h1, h2⟩ := begP_mono (vars := vars) (kn := kn) (neg := neg) hb
   simp only [cuB, eMo, ND, h1, h2]
   rfl
 | succ k ih =>
  intro out neg i hk hi
  refine K.lp' hn49 _ rfl (by kernel_rfl) ((e49_0 ..).trans ?_)
  have h64 : decide ((out.length : Int) = 64) = false := by simp; omega
  simp only [r_eq, h64, br_f]
  refine (askK_of (mono_ok K L ts vars kn i hts hv hs (by omega) neg) _).trans ?_
  have hle := monoP_le ts vars kn i neg
  cases hb : begP ts i with
  | false =>
   obtain ⟨h1, h2⟩ := begP_mono (vars := vars) (kn := kn) (neg := neg) hb
   have e : sumL ts vars kn (k + 1) out neg i = (i, 101, []) := by unfold sumL; rw [if_pos hb]
   rw [e]
   simp only [cuB, eMo, ND, h1, h2]
   rfl
  | true =>
   by_cases he : (monoP ts vars kn i neg).2.1 = 0
   ·have e3 : List.drop 0 (List.take (0 + out.length * 3) (rowC eMo out)) ++ [bv (monoP ts vars kn i neg).2.2.neg, sv (monoP ts vars kn i neg).2.2.num, sv (monoP ts vars kn i neg).2.2.var] = rowC eMo (out ++ [(monoP ts vars kn i neg).2.2]) := by
     rw [List.drop_zero, rowC_all eMo_len out (by omega)]
     exact rowC_snoc eMo out _
    have hf : fitsB (out.length + 1) 40 = true := fits_small (by omega) (by omega)
    have hb1 : Nat.ble (0 + out.length * 3) (rowC eMo out).length = true := ble_row eMo_len out (by omega)
    have hd : decide (((monoP ts vars kn i neg).2.1 : Int) = 0) = true := by rw [he]; rfl
    have hb2 : Nat.ble (0 + (out.length + 1) * 3) (rowC eMo (out ++ [(monoP ts vars kn i neg).2.2])).length = true := ble_row eMo_len _ (by simp)
    have hc : chunk (out.length + 1) 3 (List.take ((out.length + 1) * 3) (List.drop 0 (rowC eMo (out ++ [(monoP ts vars kn i neg).2.2])))) = (out ++ [(monoP ts vars kn i neg).2.2]).map eMo := by
     rw [List.drop_zero]
     exact chunk_of eMo_len _ (by simp)
    simp only [cuB, eMo, ND, r_eq, hd, hf, hb1, e3, hb2, hc]
    refine (askK_of (is_ok K ts vars kn _ hts (by omega) _) _).trans ?_
    have ih1 := ih (out ++ [(monoP ts vars kn i neg).2.2]) true ((monoP ts vars kn i neg).1 + 1) (by simp; omega) (by omega)
    have ih2 := ih (out ++ [(monoP ts vars kn i neg).2.2]) false ((monoP ts vars kn i neg).1 + 1) (by simp; omega) (by omega)
    rw [List.length_append, List.length_singleton] at ih1 ih2
    have e : sumL ts vars kn (k + 1) out neg i = if isT ts (monoP ts vars kn i neg).1 [45] then sumL ts vars kn k (out ++ [(monoP ts vars kn i neg).2.2]) true ((monoP ts vars kn i neg).1 + 1)
      else if isT ts (monoP ts vars kn i neg).1 [43] then sumL ts vars kn k (out ++ [(monoP ts vars kn i neg).2.2]) false ((monoP ts vars kn i neg).1 + 1)
      else ((monoP ts vars kn i neg).1, 0, out ++ [(monoP ts vars kn i neg).2.2]) := by
     rw [sumL, hb, if_neg (by simp)]
     rw [if_neg (by simp [he])]
    rw [e]
    simp only [cuB, ND]
    have tk := take_ok K ts vars kn (monoP ts vars kn i neg).1 hts (by omega) [45]
    have tp := take_ok K ts vars kn (monoP ts vars kn i neg).1 hts (by omega) [43]
    cases h45 : isT ts (monoP ts vars kn i neg).1 [45] with
    | true =>
     rw [h45] at tk
     simp only [ND, if_true]
     refine (askK_of tk _).trans ?_
     simp only [cuB, ND, if_true]
     refine (askK_of ih1 _).trans ?_
     rfl
    | false =>
     rw [h45] at tk
     simp only [ND]
     refine (askK_of tk _).trans ?_
     simp only [cuB, ND, Bool.false_eq_true, if_false]
     refine (askK_of tp _).trans ?_
     simp only [cuB, ND]
     cases h43 : isT ts (monoP ts vars kn i neg).1 [43] with
     | true =>
      simp only [ND, if_true]
      refine (askK_of ih2 _).trans ?_
      rfl
     | false => rfl
   ·have e : sumL ts vars kn (k + 1) out neg i = ((monoP ts vars kn i neg).1, (monoP ts vars kn i neg).2.1, []) := by
     rw [sumL, hb, if_neg (by simp)]
     rw [if_pos he]
    rw [e]
    have hd : decide (((monoP ts vars kn i neg).2.1 : Int) = 0) = false := by simp; exact he
    simp only [cuB, eMo, ND, r_eq, hd]
    rfl
theorem sum_ok (K : Knows ownC tabEa D) (L : NameF D) (ts : List Tk) (vars : List ByteArray) (kn : Bool) (hts : ts.length < 4611686018427387904) (hv : vars.length < 4611686018427387904) (hs : ShortT ts) (i : Nat) (hi : i + 300 < 4611686018427387904) : D.ask (.fn 49) [.ptr 0 0] [cuB ts vars kn i] = some (.tup [.ls ((sumP ts vars kn i).2.2.map eMo), iv ((sumP ts vars kn i).2.1 : Int)], [.set (cuB ts vars kn (sumP ts vars kn i).1)]) := by
 refine K.fn' hn49 _ rfl ((e49 ..).trans ?_)
 refine (askK_of (take_ok K ts vars kn i hts (by omega) _) _).trans ?_
 unfold sumP
 simp only [cuB, ND]
 cases isT ts i [45] with
 | true =>
  simp only [ND, if_true]
  refine (askK_of (sum_lp K L ts vars kn hts hv hs 64 [] true (i + 1) rfl (by omega)) _).trans ?_
  rfl
 | false =>
  simp only [ND, Bool.false_eq_true, if_false]
  refine (askK_of (sum_lp K L ts vars kn hts hv hs 64 [] false i rfl (by omega)) _).trans ?_
  rfl
end
end Go.Proofs.YtlmhajfbpplpoaaGreat
namespace Go.Proofs.YtlmhajfbpplpoaaGreat
open Go.RowKit
def hs262 : Hints := [⟨19, [true, true, false, false, false, false, false, true, true], [], [], [(0, ([false, false, false, false, true], ([], []))), (1, ([], ([], [])))]⟩]
noncomputable def mf262 : MFn := mfD Tryz.prog entsC hs262 false true 262
def hn262 : Hnt := ⟨[(93, (.bool, [.box [.ls, .int .i64, .ls, .bool]]))], [(0, [(0, ([.int .i64], [.box [.ls, .int .i64, .ls, .bool]])), (1, ([], [.box [.ls, .int .i64, .ls, .bool]]))])], [(14, [.str]), (15, [.str])]⟩
def hs164 : Hints := [⟨46, [true, true, true, true, true, false, false, false, false, false, true, false, true, true], [], [10, 12], [(1, ([true, false, false, false, false, false, false, false, false, false, true, false, true, true], ([], [])))]⟩]
noncomputable def mf164 : MFn := mfD Tryz.prog entsC hs164 false true 164
def hn164 : Hnt := ⟨[(93, (.bool, [.box [.ls, .int .i64, .ls, .bool]])), (165, (.tup [.agg [.int .i64, .ls, .ls, .int .i64, .str, .str, .ls], .int .i64], [.box [.ls, .int .i64, .ls, .bool]])), (220, (.tup [.agg [.int .i64, .ls, .ls, .int .i64, .str, .str, .ls], .int .i64], [.box [.ls, .int .i64, .ls, .bool]]))], [(0, [(1, ([.ptr 0 0, .ptr 1 0, .ptr 2 0, .int .i64], [.box [.ls, .int .i64, .ls, .bool], .box [.int .i64, .ls, .ls, .int .i64, .str, .str, .ls], .box [.int .i64, .ls, .ls, .int .i64, .str, .str, .ls]]))])], [(37, [.int .i64, .ls, .ls, .int .i64, .str, .str, .ls]), (38, [.int .i64, .ls, .ls, .int .i64, .str, .str, .ls]), (45, [.int .i64, .ls, .ls, .int .i64, .str, .str, .ls])]⟩
def hs249 : Hints := []
noncomputable def mf249 : MFn := mfD Tryz.prog entsC hs249 false true 249
def hn249 : Hnt := ⟨[(49, (.tup [.ls, .int .i64], [.box [.ls, .int .i64, .ls, .bool]])), (90, (.ls, [])), (262, (.int .i64, [.box [.ls, .int .i64, .ls, .bool]]))], [], []⟩
def hs220 : Hints := []
noncomputable def mf220 : MFn := mfD Tryz.prog entsC hs220 false true 220
def hn220 : Hnt := ⟨[(93, (.bool, [.box [.ls, .int .i64, .ls, .bool]])), (96, (.bool, [.box [.ls, .int .i64, .ls, .bool]])), (104, (.tup [.agg [.int .i64, .ls, .ls, .int .i64, .str, .str, .ls], .int .i64], [.box [.ls, .int .i64, .ls, .bool]])), (220, (.tup [.agg [.int .i64, .ls, .ls, .int .i64, .str, .str, .ls], .int .i64], [.box [.ls, .int .i64, .ls, .bool]])), (248, (.int .i64, [.box [.ls, .int .i64, .ls, .bool]])), (249, (.tup [.agg [.int .i64, .ls, .ls, .int .i64, .str, .str, .ls], .int .i64], [.box [.ls, .int .i64, .ls, .bool]]))], [], [(46, [.int .i64, .ls, .ls, .int .i64, .str, .str, .ls]), (67, [.int .i64, .ls, .ls, .int .i64, .str, .str, .ls])]⟩
def hs165 : Hints := []
noncomputable def mf165 : MFn := mfD Tryz.prog entsC hs165 false true 165
def hn165 : Hnt := ⟨[(164, (.tup [.agg [.int .i64, .ls, .ls, .int .i64, .str, .str, .ls], .int .i64], [.box [.ls, .int .i64, .ls, .bool]]))], [], []⟩
def hs104 : Hints := []
noncomputable def mf104 : MFn := mfD Tryz.prog entsC hs104 false true 104
def hn104 : Hnt := ⟨[(164, (.tup [.agg [.int .i64, .ls, .ls, .int .i64, .str, .str, .ls], .int .i64], [.box [.ls, .int .i64, .ls, .bool]]))], [], []⟩
def hs54 : Hints := []
noncomputable def mf54 : MFn := mfD Tryz.prog entsC hs54 false true 54
def hn54 : Hnt := ⟨[(104, (.tup [.agg [.int .i64, .ls, .ls, .int .i64, .str, .str, .ls], .int .i64], [.box [.ls, .int .i64, .ls, .bool]]))], [], []⟩
noncomputable def tabEb : List (Nat × MFn) := [(262, mf262), (164, mf164), (249, mf249), (220, mf220), (165, mf165), (104, mf104), (54, mf54)]
theorem e262 (A : Ar) (D : Orc) (x0 : List (List AV)) (p_0 : List (List AV)) (p_1 : Int) (p_2 : List (List AV)) (p_3 : Bool) : fnK A D ownC hn262 .n 262 mf262 [AV.ls x0, AV.fn (Fn.func 93) [AV.ptr 0 0] []] [{ cells := [AV.ls p_0, iv p_1, AV.ls p_2, bv p_3], st := true, ex := false }] =
 askK D (Key.lp 262 0) [AV.ls x0, AV.fn (Fn.func 93) [AV.ptr 0 0] [], iv ↑(lenR x0), iv 0] [ABlk.mk [AV.ls p_0, iv p_1, AV.ls p_2, bv p_3] true false] fun r o =>
 unTup r fun cs =>
 unCons cs fun c l =>
 br (axIs 0 c)
 (cInt IntKind.i64 l fun n l1 =>
 unNil l1 <|
 unOut o fun c1 l2 =>
 unSet true false c1 fun cs1 =>
 cLs cs1 fun xs l3 =>
 cInt IntKind.i64 l3 fun n1 l4 =>
 cLs l4 fun xs1 l5 =>
 cBool l5 fun b l6 =>
 unNil l6 <|
 unEnd l2 <|
 some ((iv n, [BO.set (ABlk.mk [AV.ls xs, iv n1, AV.ls xs1, bv b] true false)])))
 (br (axIs 1 c)
 (unNil l <|
 unOut o fun c1 l1 =>
 unSet true false c1 fun cs1 =>
 cLs cs1 fun xs l2 =>
 cInt IntKind.i64 l2 fun n l3 =>
 cLs l3 fun xs1 l4 =>
 cBool l4 fun b l5 =>
 unNil l5 <|
 unEnd l1 <|
 some ((iv (-1), [BO.set (ABlk.mk [AV.ls xs, iv n, AV.ls xs1, bv b] true false)])))
 (none)) := by kernel_rfl

theorem e262_0 (A : Ar) (D : Orc) (x0 : List (List AV)) (p_0 : List (List AV)) (p_1 : Int) (p_2 : List (List AV)) (p_3 : Bool) (t7 : Int) (t8 : Int) : lpK A D ownC hn262 .n 262 0 (lpAt mf262 0).fst (lpAt mf262 0).snd [AV.ls x0, AV.fn (Fn.func 93) [AV.ptr 0 0] [], iv t7, iv t8] [{ cells := [AV.ls p_0, iv p_1, AV.ls p_2, bv p_3], st := true, ex := false }] =
 br (A.lt t8 t7)
 (unI t8 fun i =>
 nthK x0 i fun cs =>
 cStr cs fun s l =>
 unNil l <|
 askK D (Key.fn 93) [AV.ptr 0 0, sv s] [ABlk.mk [AV.ls p_0, iv p_1, AV.ls p_2, bv p_3] true false] fun r o =>
 unBool r fun b =>
 unOut o fun c l1 =>
 unSet true false c fun cs1 =>
 cLs cs1 fun xs l2 =>
 cInt IntKind.i64 l2 fun n l3 =>
 cLs l3 fun xs1 l4 =>
 cBool l4 fun b1 l5 =>
 unNil l5 <|
 unEnd l1 <|
 br b
 (some ((AV.tup [bv true, iv t8], [BO.set (ABlk.mk [AV.ls xs, iv n, AV.ls xs1, bv b1] true false)])))
 (askK D (Key.lp 262 0) [AV.ls x0, AV.fn (Fn.func 93) [AV.ptr 0 0] [], iv t7, iv (A.add IntKind.i64 t8 1)] [ABlk.mk [AV.ls xs, iv n, AV.ls xs1, bv b1] true false] fun r1 o1 =>
 tailK 1 [0] (AH.mk [(0, ABlk.mk [AV.ls xs, iv n, AV.ls xs1, bv b1] true false)] 1 none) [0] r1 o1))
 (some ((AV.tup [iv 0], [BO.keep]))) := by kernel_rfl

theorem e164a (A : Ar) (D : Orc) (p0_0 : List (List AV)) (p0_1 : Int) (p0_2 : List (List AV)) (p0_3 : Bool) (x1 : ByteArray) (x2 : Int) (x3 : Int) : fnK A D ownC hn164 .n 164 mf164 [AV.ptr 0 0, sv x1, iv x2, iv x3, AV.fn (Fn.func 220) [AV.ptr 0 0] []] [{ cells := [AV.ls p0_0, iv p0_1, AV.ls p0_2, bv p0_3], st := true, ex := false }] =
 askK D (Key.fn 220) [AV.ptr 0 0, iv x3] [ABlk.mk [AV.ls p0_0, iv p0_1, AV.ls p0_2, bv p0_3] true false] fun r o =>
 unTup r fun cs =>
 unCons cs fun c l =>
 unAgg c fun cs1 =>
 cInt IntKind.i64 cs1 fun n l1 =>
 cLs l1 fun xs l2 =>
 cLs l2 fun xs1 l3 =>
 cInt IntKind.i64 l3 fun n1 l4 =>
 cStr l4 fun s l5 =>
 cStr l5 fun s1 l6 =>
 cLs l6 fun xs2 l7 =>
 unNil l7 <|
 cInt IntKind.i64 l fun n2 l8 =>
 unNil l8 <|
 unOut o fun c1 l9 =>
 unSet true false c1 fun cs2 =>
 cLs cs2 fun xs3 l10 =>
 cInt IntKind.i64 l10 fun n3 l11 =>
 cLs l11 fun xs4 l12 =>
 cBool l12 fun b l13 =>
 unNil l13 <|
 unEnd l9 <|
 askK D (Key.lp 164 0) [AV.ptr 0 0, sv x1, iv x2, iv x3, AV.fn (Fn.func 220) [AV.ptr 0 0] [], AV.ptr 1 0, AV.ptr 2 0, iv n2] [ABlk.mk [AV.ls xs3, iv n3, AV.ls xs4, bv b] true false, ABlk.mk [iv 0, AV.ls [], AV.ls [], iv 0, sv (bstr []), sv (bstr []), AV.ls []] true false, ABlk.mk [iv n, AV.ls xs, AV.ls xs1, iv n1, sv s, sv s1, AV.ls xs2] true false] fun r1 o1 =>
 unTup r1 fun cs3 =>
 unCons cs3 fun c2 l14 =>
 br (axIs 1 c2)
 (unCons l14 fun c3 l15 =>
 unPtr 0 0 c3 <|
 unCons l15 fun c4 l16 =>
 unPtr 1 0 c4 <|
 unCons l16 fun c5 l17 =>
 unPtr 2 0 c5 <|
 cInt IntKind.i64 l17 fun n4 l18 =>
 unNil l18 <|
 unOut o1 fun c6 l19 =>
 unSet true false c6 fun cs4 =>
 cLs cs4 fun xs5 l20 =>
 cInt IntKind.i64 l20 fun n5 l21 =>
 cLs l21 fun xs6 l22 =>
 cBool l22 fun b1 l23 =>
 unNil l23 <|
 unOut l19 fun c7 l24 =>
 unSet true false c7 fun cs5 =>
 cInt IntKind.i64 cs5 fun _ l25 =>
 cLs l25 fun _ l26 =>
 cLs l26 fun _ l27 =>
 cInt IntKind.i64 l27 fun _ l28 =>
 cStr l28 fun _ l29 =>
 cStr l29 fun _ l30 =>
 cLs l30 fun _ l31 =>
 unNil l31 <|
 unOut l24 fun c8 l32 =>
 unSet true false c8 fun cs6 =>
 cInt IntKind.i64 cs6 fun n8 l33 =>
 cLs l33 fun xs10 l34 =>
 cLs l34 fun xs11 l35 =>
 cInt IntKind.i64 l35 fun n9 l36 =>
 cStr l36 fun s4 l37 =>
 cStr l37 fun s5 l38 =>
 cLs l38 fun xs12 l39 =>
 unNil l39 <|
 unEnd l32 <|
 br (A.eq n4 0)
 (some ((AV.tup [AV.agg [iv n8, AV.ls xs10, AV.ls xs11, iv n9, sv s4, sv s5, AV.ls xs12], iv 0], [BO.set (ABlk.mk [AV.ls xs5, iv n5, AV.ls xs6, bv b1] true false)])))
 (some ((AV.tup [AV.agg [iv 0, AV.ls [], AV.ls [], iv 0, sv (bstr []), sv (bstr []), AV.ls []], iv n4], [BO.set (ABlk.mk [AV.ls xs5, iv n5, AV.ls xs6, bv b1] true false)]))))
 (none) := by kernel_rfl

theorem e164a_0 (A : Ar) (D : Orc) (b0_0 : List (List AV)) (b0_1 : Int) (b0_2 : List (List AV)) (b0_3 : Bool) (t1 : ByteArray) (t2 : Int) (t3 : Int) (b10_0 : Int) (b10_1 : List (List AV)) (b10_2 : List (List AV)) (b10_3 : Int) (b10_4 : ByteArray) (b10_5 : ByteArray) (b10_6 : List (List AV)) (b12_0 : Int) (b12_1 : List (List AV)) (b12_2 : List (List AV)) (b12_3 : Int) (b12_4 : ByteArray) (b12_5 : ByteArray) (b12_6 : List (List AV)) (t13 : Int) : lpK A D ownC hn164 .n 164 0 (lpAt mf164 0).fst (lpAt mf164 0).snd [AV.ptr 0 0, sv t1, iv t2, iv t3, AV.fn (Fn.func 220) [AV.ptr 0 0] [], AV.ptr 1 0, AV.ptr 2 0, iv t13] [{ cells := [AV.ls b0_0, iv b0_1, AV.ls b0_2, bv b0_3], st := true, ex := false }, { cells := [iv b10_0, AV.ls b10_1, AV.ls b10_2, iv b10_3, sv b10_4, sv b10_5, AV.ls b10_6], st := true, ex := false }, { cells := [iv b12_0, AV.ls b12_1, AV.ls b12_2, iv b12_3, sv b12_4, sv b12_5, AV.ls b12_6], st := true, ex := false }] =
 br (A.eq t13 0)
 (askK D (Key.fn 93) [AV.ptr 0 0, sv t1] [ABlk.mk [AV.ls b0_0, iv b0_1, AV.ls b0_2, bv b0_3] true false] fun r o =>
 unBool r fun b =>
 unOut o fun c l =>
 unSet true false c fun cs =>
 cLs cs fun xs l1 =>
 cInt IntKind.i64 l1 fun n l2 =>
 cLs l2 fun xs1 l3 =>
 cBool l3 fun b1 l4 =>
 unNil l4 <|
 unEnd l <|
 br b
 (askK D (Key.fn 220) [AV.ptr 0 0, iv t3] [ABlk.mk [AV.ls xs, iv n, AV.ls xs1, bv b1] true false] fun r1 o1 =>
 unTup r1 fun cs1 =>
 unCons cs1 fun c1 l5 =>
 unAgg c1 fun cs2 =>
 cInt IntKind.i64 cs2 fun n1 l6 =>
 cLs l6 fun xs2 l7 =>
 cLs l7 fun xs3 l8 =>
 cInt IntKind.i64 l8 fun n2 l9 =>
 cStr l9 fun s l10 =>
 cStr l10 fun s1 l11 =>
 cLs l11 fun xs4 l12 =>
 unNil l12 <|
 cInt IntKind.i64 l5 fun n3 l13 =>
 unNil l13 <|
 unOut o1 fun c2 l14 =>
 unSet true false c2 fun cs3 =>
 cLs cs3 fun xs5 l15 =>
 cInt IntKind.i64 l15 fun n4 l16 =>
 cLs l16 fun xs6 l17 =>
 cBool l17 fun b2 l18 =>
 unNil l18 <|
 unEnd l14 <|
 br (A.eq n3 0)
 (askK D (Key.lp 164 0) [AV.ptr 0 0, sv t1, iv t2, iv t3, AV.fn (Fn.func 220) [AV.ptr 0 0] [], AV.ptr 1 0, AV.ptr 2 0, iv n3] [ABlk.mk [AV.ls xs5, iv n4, AV.ls xs6, bv b2] true false, ABlk.mk [iv b10_0, AV.ls b10_1, AV.ls b10_2, iv b10_3, sv b10_4, sv b10_5, AV.ls b10_6] true false, ABlk.mk [iv t2, AV.ls [], AV.ls [], iv 0, sv (bstr []), sv (bstr []), AV.ls [[iv b12_0, AV.ls b12_1, AV.ls b12_2, iv b12_3, sv b12_4, sv b12_5, AV.ls b12_6], [iv n1, AV.ls xs2, AV.ls xs3, iv n2, sv s, sv s1, AV.ls xs4]]] true false] fun r2 o2 =>
 tailK 3 [0, 1, 2] (AH.mk [(2, ABlk.mk [iv t2, AV.ls [], AV.ls [], iv 0, sv (bstr []), sv (bstr []), AV.ls [[iv b12_0, AV.ls b12_1, AV.ls b12_2, iv b12_3, sv b12_4, sv b12_5, AV.ls b12_6], [iv n1, AV.ls xs2, AV.ls xs3, iv n2, sv s, sv s1, AV.ls xs4]]] true false), (4, ABlk.mk [iv b12_0, AV.ls b12_1, AV.ls b12_2, iv b12_3, sv b12_4, sv b12_5, AV.ls b12_6, iv n1, AV.ls xs2, AV.ls xs3, iv n2, sv s, sv s1, AV.ls xs4] false true), (1, ABlk.mk [iv b10_0, AV.ls b10_1, AV.ls b10_2, iv b10_3, sv b10_4, sv b10_5, AV.ls b10_6] true false), (3, ABlk.mk [iv n1, AV.ls xs2, AV.ls xs3, iv n2, sv s, sv s1, AV.ls xs4] true false), (0, ABlk.mk [AV.ls xs5, iv n4, AV.ls xs6, bv b2] true false)] 5 none) [0, 1, 2] r2 o2)
 (askK D (Key.lp 164 0) [AV.ptr 0 0, sv t1, iv t2, iv t3, AV.fn (Fn.func 220) [AV.ptr 0 0] [], AV.ptr 1 0, AV.ptr 2 0, iv n3] [ABlk.mk [AV.ls xs5, iv n4, AV.ls xs6, bv b2] true false, ABlk.mk [iv b10_0, AV.ls b10_1, AV.ls b10_2, iv b10_3, sv b10_4, sv b10_5, AV.ls b10_6] true false, ABlk.mk [iv b12_0, AV.ls b12_1, AV.ls b12_2, iv b12_3, sv b12_4, sv b12_5, AV.ls b12_6] true false] fun r2 o2 =>
 tailK 3 [0, 1, 2] (AH.mk [(2, ABlk.mk [iv b12_0, AV.ls b12_1, AV.ls b12_2, iv b12_3, sv b12_4, sv b12_5, AV.ls b12_6] true false), (1, ABlk.mk [iv b10_0, AV.ls b10_1, AV.ls b10_2, iv b10_3, sv b10_4, sv b10_5, AV.ls b10_6] true false), (3, ABlk.mk [iv n1, AV.ls xs2, AV.ls xs3, iv n2, sv s, sv s1, AV.ls xs4] true false), (0, ABlk.mk [AV.ls xs5, iv n4, AV.ls xs6, bv b2] true false)] 4 none) [0, 1, 2] r2 o2))
 (some ((AV.tup [iv 0, AV.ptr 0 0, AV.ptr 1 0, AV.ptr 2 0, iv t13], [BO.set (ABlk.mk [AV.ls xs, iv n, AV.ls xs1, bv b1] true false), BO.set (ABlk.mk [iv b10_0, AV.ls b10_1, AV.ls b10_2, iv b10_3, sv b10_4, sv b10_5, AV.ls b10_6] true false), BO.set (ABlk.mk [iv b12_0, AV.ls b12_1, AV.ls b12_2, iv b12_3, sv b12_4, sv b12_5, AV.ls b12_6] true false)]))))
 (some ((AV.tup [iv 0, AV.ptr 0 0, AV.ptr 1 0, AV.ptr 2 0, iv t13], [BO.set (ABlk.mk [AV.ls b0_0, iv b0_1, AV.ls b0_2, bv b0_3] true false), BO.set (ABlk.mk [iv b10_0, AV.ls b10_1, AV.ls b10_2, iv b10_3, sv b10_4, sv b10_5, AV.ls b10_6] true false), BO.set (ABlk.mk [iv b12_0, AV.ls b12_1, AV.ls b12_2, iv b12_3, sv b12_4, sv b12_5, AV.ls b12_6] true false)]))) := by kernel_rfl

theorem e164b (A : Ar) (D : Orc) (p0_0 : List (List AV)) (p0_1 : Int) (p0_2 : List (List AV)) (p0_3 : Bool) (x1 : ByteArray) (x2 : Int) (x3 : Int) : fnK A D ownC hn164 .n 164 mf164 [AV.ptr 0 0, sv x1, iv x2, iv x3, AV.fn (Fn.func 165) [AV.ptr 0 0] []] [{ cells := [AV.ls p0_0, iv p0_1, AV.ls p0_2, bv p0_3], st := true, ex := false }] =
 askK D (Key.fn 165) [AV.ptr 0 0, iv x3] [ABlk.mk [AV.ls p0_0, iv p0_1, AV.ls p0_2, bv p0_3] true false] fun r o =>
 unTup r fun cs =>
 unCons cs fun c l =>
 unAgg c fun cs1 =>
 cInt IntKind.i64 cs1 fun n l1 =>
 cLs l1 fun xs l2 =>
 cLs l2 fun xs1 l3 =>
 cInt IntKind.i64 l3 fun n1 l4 =>
 cStr l4 fun s l5 =>
 cStr l5 fun s1 l6 =>
 cLs l6 fun xs2 l7 =>
 unNil l7 <|
 cInt IntKind.i64 l fun n2 l8 =>
 unNil l8 <|
 unOut o fun c1 l9 =>
 unSet true false c1 fun cs2 =>
 cLs cs2 fun xs3 l10 =>
 cInt IntKind.i64 l10 fun n3 l11 =>
 cLs l11 fun xs4 l12 =>
 cBool l12 fun b l13 =>
 unNil l13 <|
 unEnd l9 <|
 askK D (Key.lp 164 0) [AV.ptr 0 0, sv x1, iv x2, iv x3, AV.fn (Fn.func 165) [AV.ptr 0 0] [], AV.ptr 1 0, AV.ptr 2 0, iv n2] [ABlk.mk [AV.ls xs3, iv n3, AV.ls xs4, bv b] true false, ABlk.mk [iv 0, AV.ls [], AV.ls [], iv 0, sv (bstr []), sv (bstr []), AV.ls []] true false, ABlk.mk [iv n, AV.ls xs, AV.ls xs1, iv n1, sv s, sv s1, AV.ls xs2] true false] fun r1 o1 =>
 unTup r1 fun cs3 =>
 unCons cs3 fun c2 l14 =>
 br (axIs 1 c2)
 (unCons l14 fun c3 l15 =>
 unPtr 0 0 c3 <|
 unCons l15 fun c4 l16 =>
 unPtr 1 0 c4 <|
 unCons l16 fun c5 l17 =>
 unPtr 2 0 c5 <|
 cInt IntKind.i64 l17 fun n4 l18 =>
 unNil l18 <|
 unOut o1 fun c6 l19 =>
 unSet true false c6 fun cs4 =>
 cLs cs4 fun xs5 l20 =>
 cInt IntKind.i64 l20 fun n5 l21 =>
 cLs l21 fun xs6 l22 =>
 cBool l22 fun b1 l23 =>
 unNil l23 <|
 unOut l19 fun c7 l24 =>
 unSet true false c7 fun cs5 =>
 cInt IntKind.i64 cs5 fun _ l25 =>
 cLs l25 fun _ l26 =>
 cLs l26 fun _ l27 =>
 cInt IntKind.i64 l27 fun _ l28 =>
 cStr l28 fun _ l29 =>
 cStr l29 fun _ l30 =>
 cLs l30 fun _ l31 =>
 unNil l31 <|
 unOut l24 fun c8 l32 =>
 unSet true false c8 fun cs6 =>
 cInt IntKind.i64 cs6 fun n8 l33 =>
 cLs l33 fun xs10 l34 =>
 cLs l34 fun xs11 l35 =>
 cInt IntKind.i64 l35 fun n9 l36 =>
 cStr l36 fun s4 l37 =>
 cStr l37 fun s5 l38 =>
 cLs l38 fun xs12 l39 =>
 unNil l39 <|
 unEnd l32 <|
 br (A.eq n4 0)
 (some ((AV.tup [AV.agg [iv n8, AV.ls xs10, AV.ls xs11, iv n9, sv s4, sv s5, AV.ls xs12], iv 0], [BO.set (ABlk.mk [AV.ls xs5, iv n5, AV.ls xs6, bv b1] true false)])))
 (some ((AV.tup [AV.agg [iv 0, AV.ls [], AV.ls [], iv 0, sv (bstr []), sv (bstr []), AV.ls []], iv n4], [BO.set (ABlk.mk [AV.ls xs5, iv n5, AV.ls xs6, bv b1] true false)]))))
 (none) := by kernel_rfl

theorem e164b_0 (A : Ar) (D : Orc) (b0_0 : List (List AV)) (b0_1 : Int) (b0_2 : List (List AV)) (b0_3 : Bool) (t1 : ByteArray) (t2 : Int) (t3 : Int) (b10_0 : Int) (b10_1 : List (List AV)) (b10_2 : List (List AV)) (b10_3 : Int) (b10_4 : ByteArray) (b10_5 : ByteArray) (b10_6 : List (List AV)) (b12_0 : Int) (b12_1 : List (List AV)) (b12_2 : List (List AV)) (b12_3 : Int) (b12_4 : ByteArray) (b12_5 : ByteArray) (b12_6 : List (List AV)) (t13 : Int) : lpK A D ownC hn164 .n 164 0 (lpAt mf164 0).fst (lpAt mf164 0).snd [AV.ptr 0 0, sv t1, iv t2, iv t3, AV.fn (Fn.func 165) [AV.ptr 0 0] [], AV.ptr 1 0, AV.ptr 2 0, iv t13] [{ cells := [AV.ls b0_0, iv b0_1, AV.ls b0_2, bv b0_3], st := true, ex := false }, { cells := [iv b10_0, AV.ls b10_1, AV.ls b10_2, iv b10_3, sv b10_4, sv b10_5, AV.ls b10_6], st := true, ex := false }, { cells := [iv b12_0, AV.ls b12_1, AV.ls b12_2, iv b12_3, sv b12_4, sv b12_5, AV.ls b12_6], st := true, ex := false }] =
 br (A.eq t13 0)
 (askK D (Key.fn 93) [AV.ptr 0 0, sv t1] [ABlk.mk [AV.ls b0_0, iv b0_1, AV.ls b0_2, bv b0_3] true false] fun r o =>
 unBool r fun b =>
 unOut o fun c l =>
 unSet true false c fun cs =>
 cLs cs fun xs l1 =>
 cInt IntKind.i64 l1 fun n l2 =>
 cLs l2 fun xs1 l3 =>
 cBool l3 fun b1 l4 =>
 unNil l4 <|
 unEnd l <|
 br b
 (askK D (Key.fn 165) [AV.ptr 0 0, iv t3] [ABlk.mk [AV.ls xs, iv n, AV.ls xs1, bv b1] true false] fun r1 o1 =>
 unTup r1 fun cs1 =>
 unCons cs1 fun c1 l5 =>
 unAgg c1 fun cs2 =>
 cInt IntKind.i64 cs2 fun n1 l6 =>
 cLs l6 fun xs2 l7 =>
 cLs l7 fun xs3 l8 =>
 cInt IntKind.i64 l8 fun n2 l9 =>
 cStr l9 fun s l10 =>
 cStr l10 fun s1 l11 =>
 cLs l11 fun xs4 l12 =>
 unNil l12 <|
 cInt IntKind.i64 l5 fun n3 l13 =>
 unNil l13 <|
 unOut o1 fun c2 l14 =>
 unSet true false c2 fun cs3 =>
 cLs cs3 fun xs5 l15 =>
 cInt IntKind.i64 l15 fun n4 l16 =>
 cLs l16 fun xs6 l17 =>
 cBool l17 fun b2 l18 =>
 unNil l18 <|
 unEnd l14 <|
 br (A.eq n3 0)
 (askK D (Key.lp 164 0) [AV.ptr 0 0, sv t1, iv t2, iv t3, AV.fn (Fn.func 165) [AV.ptr 0 0] [], AV.ptr 1 0, AV.ptr 2 0, iv n3] [ABlk.mk [AV.ls xs5, iv n4, AV.ls xs6, bv b2] true false, ABlk.mk [iv b10_0, AV.ls b10_1, AV.ls b10_2, iv b10_3, sv b10_4, sv b10_5, AV.ls b10_6] true false, ABlk.mk [iv t2, AV.ls [], AV.ls [], iv 0, sv (bstr []), sv (bstr []), AV.ls [[iv b12_0, AV.ls b12_1, AV.ls b12_2, iv b12_3, sv b12_4, sv b12_5, AV.ls b12_6], [iv n1, AV.ls xs2, AV.ls xs3, iv n2, sv s, sv s1, AV.ls xs4]]] true false] fun r2 o2 =>
 tailK 3 [0, 1, 2] (AH.mk [(2, ABlk.mk [iv t2, AV.ls [], AV.ls [], iv 0, sv (bstr []), sv (bstr []), AV.ls [[iv b12_0, AV.ls b12_1, AV.ls b12_2, iv b12_3, sv b12_4, sv b12_5, AV.ls b12_6], [iv n1, AV.ls xs2, AV.ls xs3, iv n2, sv s, sv s1, AV.ls xs4]]] true false), (4, ABlk.mk [iv b12_0, AV.ls b12_1, AV.ls b12_2, iv b12_3, sv b12_4, sv b12_5, AV.ls b12_6, iv n1, AV.ls xs2, AV.ls xs3, iv n2, sv s, sv s1, AV.ls xs4] false true), (1, ABlk.mk [iv b10_0, AV.ls b10_1, AV.ls b10_2, iv b10_3, sv b10_4, sv b10_5, AV.ls b10_6] true false), (3, ABlk.mk [iv n1, AV.ls xs2, AV.ls xs3, iv n2, sv s, sv s1, AV.ls xs4] true false), (0, ABlk.mk [AV.ls xs5, iv n4, AV.ls xs6, bv b2] true false)] 5 none) [0, 1, 2] r2 o2)
 (askK D (Key.lp 164 0) [AV.ptr 0 0, sv t1, iv t2, iv t3, AV.fn (Fn.func 165) [AV.ptr 0 0] [], AV.ptr 1 0, AV.ptr 2 0, iv n3] [ABlk.mk [AV.ls xs5, iv n4, AV.ls xs6, bv b2] true false, ABlk.mk [iv b10_0, AV.ls b10_1, AV.ls b10_2, iv b10_3, sv b10_4, sv b10_5, AV.ls b10_6] true false, ABlk.mk [iv b12_0, AV.ls b12_1, AV.ls b12_2, iv b12_3, sv b12_4, sv b12_5, AV.ls b12_6] true false] fun r2 o2 =>
 tailK 3 [0, 1, 2] (AH.mk [(2, ABlk.mk [iv b12_0, AV.ls b12_1, AV.ls b12_2, iv b12_3, sv b12_4, sv b12_5, AV.ls b12_6] true false), (1, ABlk.mk [iv b10_0, AV.ls b10_1, AV.ls b10_2, iv b10_3, sv b10_4, sv b10_5, AV.ls b10_6] true false), (3, ABlk.mk [iv n1, AV.ls xs2, AV.ls xs3, iv n2, sv s, sv s1, AV.ls xs4] true false), (0, ABlk.mk [AV.ls xs5, iv n4, AV.ls xs6, bv b2] true false)] 4 none) [0, 1, 2] r2 o2))
 (some ((AV.tup [iv 0, AV.ptr 0 0, AV.ptr 1 0, AV.ptr 2 0, iv t13], [BO.set (ABlk.mk [AV.ls xs, iv n, AV.ls xs1, bv b1] true false), BO.set (ABlk.mk [iv b10_0, AV.ls b10_1, AV.ls b10_2, iv b10_3, sv b10_4, sv b10_5, AV.ls b10_6] true false), BO.set (ABlk.mk [iv b12_0, AV.ls b12_1, AV.ls b12_2, iv b12_3, sv b12_4, sv b12_5, AV.ls b12_6] true false)]))))
 (some ((AV.tup [iv 0, AV.ptr 0 0, AV.ptr 1 0, AV.ptr 2 0, iv t13], [BO.set (ABlk.mk [AV.ls b0_0, iv b0_1, AV.ls b0_2, bv b0_3] true false), BO.set (ABlk.mk [iv b10_0, AV.ls b10_1, AV.ls b10_2, iv b10_3, sv b10_4, sv b10_5, AV.ls b10_6] true false), BO.set (ABlk.mk [iv b12_0, AV.ls b12_1, AV.ls b12_2, iv b12_3, sv b12_4, sv b12_5, AV.ls b12_6] true false)]))) := by kernel_rfl

theorem e249 (A : Ar) (D : Orc) (p0_0 : List (List AV)) (p0_1 : Int) (p0_2 : List (List AV)) (p0_3 : Bool) : fnK A D ownC hn249 .n 249 mf249 [AV.ptr 0 0] [{ cells := [AV.ls p0_0, iv p0_1, AV.ls p0_2, bv p0_3], st := true, ex := false }] =
 askK D (Key.fn 49) [AV.ptr 0 0] [ABlk.mk [AV.ls p0_0, iv p0_1, AV.ls p0_2, bv p0_3] true false] fun r o =>
 unTup r fun cs =>
 cLs cs fun xs l =>
 cInt IntKind.i64 l fun n l1 =>
 unNil l1 <|
 unOut o fun c l2 =>
 unSet true false c fun cs1 =>
 cLs cs1 fun xs1 l3 =>
 cInt IntKind.i64 l3 fun n1 l4 =>
 cLs l4 fun xs2 l5 =>
 cBool l5 fun b l6 =>
 unNil l6 <|
 unEnd l2 <|
 br (A.eq n 0)
 (askK D (Key.fn 90) [] [] fun r1 o1 =>
 unLs r1 fun xs3 =>
 unEnd o1 <|
 askK D (Key.fn 262) [AV.ls xs3, AV.fn (Fn.func 93) [AV.ptr 0 0] []] [ABlk.mk [AV.ls xs1, iv n1, AV.ls xs2, bv b] true false] fun r2 o2 =>
 unInt IntKind.i64 r2 fun n2 =>
 unOut o2 fun c1 l7 =>
 unSet true false c1 fun cs2 =>
 cLs cs2 fun xs4 l8 =>
 cInt IntKind.i64 l8 fun n3 l9 =>
 cLs l9 fun xs5 l10 =>
 cBool l10 fun b1 l11 =>
 unNil l11 <|
 unEnd l7 <|
 br (A.lt n2 0)
 (some ((AV.tup [AV.agg [iv 0, AV.ls [], AV.ls [], iv 0, sv (bstr []), sv (bstr []), AV.ls []], iv 101], [BO.set (ABlk.mk [AV.ls xs4, iv n3, AV.ls xs5, bv b1] true false)])))
 (askK D (Key.fn 49) [AV.ptr 0 0] [ABlk.mk [AV.ls xs4, iv n3, AV.ls xs5, bv b1] true false] fun r3 o3 =>
 unTup r3 fun cs3 =>
 cLs cs3 fun xs6 l12 =>
 cInt IntKind.i64 l12 fun n4 l13 =>
 unNil l13 <|
 unOut o3 fun c2 l14 =>
 unSet true false c2 fun cs4 =>
 cLs cs4 fun xs7 l15 =>
 cInt IntKind.i64 l15 fun n5 l16 =>
 cLs l16 fun xs8 l17 =>
 cBool l17 fun b2 l18 =>
 unNil l18 <|
 unEnd l14 <|
 br (A.eq n4 0)
 (some ((AV.tup [AV.agg [iv 2, AV.ls xs, AV.ls xs6, iv n2, sv (bstr []), sv (bstr []), AV.ls []], iv 0], [BO.set (ABlk.mk [AV.ls xs7, iv n5, AV.ls xs8, bv b2] true false)])))
 (some ((AV.tup [AV.agg [iv 0, AV.ls [], AV.ls [], iv 0, sv (bstr []), sv (bstr []), AV.ls []], iv n4], [BO.set (ABlk.mk [AV.ls xs7, iv n5, AV.ls xs8, bv b2] true false)])))))
 (some ((AV.tup [AV.agg [iv 0, AV.ls [], AV.ls [], iv 0, sv (bstr []), sv (bstr []), AV.ls []], iv n], [BO.set (ABlk.mk [AV.ls xs1, iv n1, AV.ls xs2, bv b] true false)]))) := by kernel_rfl

theorem e220 (A : Ar) (D : Orc) (p0_0 : List (List AV)) (p0_1 : Int) (p0_2 : List (List AV)) (p0_3 : Bool) (x1 : Int) : fnK A D ownC hn220 (.b (.b .n (.b .n (.b (.b (.b (.b (.b .n (.b (.b .n (.b .n (.b .n (.b .n (.b .n (.b .n (.b .n (.b .n (.b (.b (.b .n (.b .n (.f .n))) .n) .n))))))))) .n)) .n) .n) .n) .n))) (.b (.b (.b (.b .n (.b (.b (.b (.b .n (.b (.b .n (.b .n (.b .n (.b .n (.b .n (.b .n (.b .n (.b .n (.b (.b (.b .n (.b .n (.f .n))) .n) .n))))))))) .n)) .n) .n) .n)) (.b .n (.b .n (.b .n (.b .n (.b .n (.b .n (.b .n (.b .n (.b .n (.b .n (.b .n (.b .n (.b .n (.b (.b (.b .n (.b .n (.f .n))) .n) .n))))))))))))))) .n) .n)) 220 mf220 [AV.ptr 0 0, iv x1] [{ cells := [AV.ls p0_0, iv p0_1, AV.ls p0_2, bv p0_3], st := true, ex := false }] =
 askK D (Key.fn 96) [AV.ptr 0 0, sv (bstr [33])] [ABlk.mk [AV.ls p0_0, iv p0_1, AV.ls p0_2, bv p0_3] true false] fun r o =>
 unBool r fun b =>
 unOut o fun c l =>
 unSet true false c fun cs =>
 cLs cs fun xs l1 =>
 cInt IntKind.i64 l1 fun n l2 =>
 cLs l2 fun xs1 l3 =>
 cBool l3 fun b1 l4 =>
 unNil l4 <|
 unEnd l <|
 br b
 (br (A.eq x1 60)
 (some ((AV.tup [AV.agg [iv 0, AV.ls [], AV.ls [], iv 0, sv (bstr []), sv (bstr []), AV.ls []], iv 102], [BO.set (ABlk.mk [AV.ls xs, iv n, AV.ls xs1, bv b1] true false)])))
 (askK D (Key.fn 93) [AV.ptr 0 0, sv (bstr [116, 114, 117, 101])] [ABlk.mk [AV.ls xs, iv n, AV.ls xs1, bv b1] true false] fun r1 o1 =>
 unBool r1 fun b2 =>
 unOut o1 fun c1 l5 =>
 unSet true false c1 fun cs1 =>
 cLs cs1 fun xs2 l6 =>
 cInt IntKind.i64 l6 fun n1 l7 =>
 cLs l7 fun xs3 l8 =>
 cBool l8 fun b3 l9 =>
 unNil l9 <|
 unEnd l5 <|
 br b2
 (some ((AV.tup [AV.agg [iv 0, AV.ls [], AV.ls [], iv 0, sv (bstr []), sv (bstr []), AV.ls []], iv 0], [BO.set (ABlk.mk [AV.ls xs2, iv n1, AV.ls xs3, bv b3] true false)])))
 (askK D (Key.fn 93) [AV.ptr 0 0, sv (bstr [102, 97, 108, 115, 101])] [ABlk.mk [AV.ls xs2, iv n1, AV.ls xs3, bv b3] true false] fun r2 o2 =>
 unBool r2 fun b4 =>
 unOut o2 fun c2 l10 =>
 unSet true false c2 fun cs2 =>
 cLs cs2 fun xs4 l11 =>
 cInt IntKind.i64 l11 fun n2 l12 =>
 cLs l12 fun xs5 l13 =>
 cBool l13 fun b5 l14 =>
 unNil l14 <|
 unEnd l10 <|
 br b4
 (some ((AV.tup [AV.agg [iv 1, AV.ls [], AV.ls [], iv 0, sv (bstr []), sv (bstr []), AV.ls []], iv 0], [BO.set (ABlk.mk [AV.ls xs4, iv n2, AV.ls xs5, bv b5] true false)])))
 (askK D (Key.fn 93) [AV.ptr 0 0, sv (bstr [33])] [ABlk.mk [AV.ls xs4, iv n2, AV.ls xs5, bv b5] true false] fun r3 o3 =>
 unBool r3 fun b6 =>
 unOut o3 fun c3 l15 =>
 unSet true false c3 fun cs3 =>
 cLs cs3 fun xs6 l16 =>
 cInt IntKind.i64 l16 fun n3 l17 =>
 cLs l17 fun xs7 l18 =>
 cBool l18 fun b7 l19 =>
 unNil l19 <|
 unEnd l15 <|
 br b6
 (askK D (Key.fn 220) [AV.ptr 0 0, iv (A.add IntKind.i64 x1 1)] [ABlk.mk [AV.ls xs6, iv n3, AV.ls xs7, bv b7] true false] fun r4 o4 =>
 unTup r4 fun cs4 =>
 unCons cs4 fun c4 l20 =>
 unAgg c4 fun cs5 =>
 cInt IntKind.i64 cs5 fun n4 l21 =>
 cLs l21 fun xs8 l22 =>
 cLs l22 fun xs9 l23 =>
 cInt IntKind.i64 l23 fun n5 l24 =>
 cStr l24 fun s l25 =>
 cStr l25 fun s1 l26 =>
 cLs l26 fun xs10 l27 =>
 unNil l27 <|
 cInt IntKind.i64 l20 fun n6 l28 =>
 unNil l28 <|
 unOut o4 fun c5 l29 =>
 unSet true false c5 fun cs6 =>
 cLs cs6 fun xs11 l30 =>
 cInt IntKind.i64 l30 fun n7 l31 =>
 cLs l31 fun xs12 l32 =>
 cBool l32 fun b8 l33 =>
 unNil l33 <|
 unEnd l29 <|
 br (A.eq n6 0)
 (some ((AV.tup [AV.agg [iv 3, AV.ls [], AV.ls [], iv 0, sv (bstr []), sv (bstr []), AV.ls [[iv n4, AV.ls xs8, AV.ls xs9, iv n5, sv s, sv s1, AV.ls xs10]]], iv 0], [BO.set (ABlk.mk [AV.ls xs11, iv n7, AV.ls xs12, bv b8] true false)])))
 (some ((AV.tup [AV.agg [iv 0, AV.ls [], AV.ls [], iv 0, sv (bstr []), sv (bstr []), AV.ls []], iv n6], [BO.set (ABlk.mk [AV.ls xs11, iv n7, AV.ls xs12, bv b8] true false)]))))
 (askK D (Key.fn 93) [AV.ptr 0 0, sv (bstr [40])] [ABlk.mk [AV.ls xs6, iv n3, AV.ls xs7, bv b7] true false] fun r4 o4 =>
 unBool r4 fun b8 =>
 unOut o4 fun c4 l20 =>
 unSet true false c4 fun cs4 =>
 cLs cs4 fun xs8 l21 =>
 cInt IntKind.i64 l21 fun n4 l22 =>
 cLs l22 fun xs9 l23 =>
 cBool l23 fun b9 l24 =>
 unNil l24 <|
 unEnd l20 <|
 br b8
 (askK D (Key.fn 104) [AV.ptr 0 0, iv (A.add IntKind.i64 x1 1)] [ABlk.mk [AV.ls xs8, iv n4, AV.ls xs9, bv b9] true false] fun r5 o5 =>
 unTup r5 fun cs5 =>
 unCons cs5 fun c5 l25 =>
 unAgg c5 fun cs6 =>
 cInt IntKind.i64 cs6 fun n5 l26 =>
 cLs l26 fun xs10 l27 =>
 cLs l27 fun xs11 l28 =>
 cInt IntKind.i64 l28 fun n6 l29 =>
 cStr l29 fun s l30 =>
 cStr l30 fun s1 l31 =>
 cLs l31 fun xs12 l32 =>
 unNil l32 <|
 cInt IntKind.i64 l25 fun n7 l33 =>
 unNil l33 <|
 unOut o5 fun c6 l34 =>
 unSet true false c6 fun cs7 =>
 cLs cs7 fun xs13 l35 =>
 cInt IntKind.i64 l35 fun n8 l36 =>
 cLs l36 fun xs14 l37 =>
 cBool l37 fun b10 l38 =>
 unNil l38 <|
 unEnd l34 <|
 br (A.eq n7 0)
 (askK D (Key.fn 248) [AV.ptr 0 0, sv (bstr [41])] [ABlk.mk [AV.ls xs13, iv n8, AV.ls xs14, bv b10] true false] fun r6 o6 =>
 unInt IntKind.i64 r6 fun n9 =>
 unOut o6 fun c7 l39 =>
 unSet true false c7 fun cs8 =>
 cLs cs8 fun xs15 l40 =>
 cInt IntKind.i64 l40 fun n10 l41 =>
 cLs l41 fun xs16 l42 =>
 cBool l42 fun b11 l43 =>
 unNil l43 <|
 unEnd l39 <|
 br (A.eq n9 0)
 (some ((AV.tup [AV.agg [iv n5, AV.ls xs10, AV.ls xs11, iv n6, sv s, sv s1, AV.ls xs12], iv 0], [BO.set (ABlk.mk [AV.ls xs15, iv n10, AV.ls xs16, bv b11] true false)])))
 (some ((AV.tup [AV.agg [iv 0, AV.ls [], AV.ls [], iv 0, sv (bstr []), sv (bstr []), AV.ls []], iv n9], [BO.set (ABlk.mk [AV.ls xs15, iv n10, AV.ls xs16, bv b11] true false)]))))
 (br (A.eq n7 0) none (some ((AV.tup [AV.agg [iv 0, AV.ls [], AV.ls [], iv 0, sv (bstr []), sv (bstr []), AV.ls []], iv n7], [BO.set (ABlk.mk [AV.ls xs13, iv n8, AV.ls xs14, bv b10] true false)])))))
 (askK D (Key.fn 249) [AV.ptr 0 0] [ABlk.mk [AV.ls xs8, iv n4, AV.ls xs9, bv b9] true false] fun r5 o5 =>
 unTup r5 fun cs5 =>
 unCons cs5 fun c5 l25 =>
 unAgg c5 fun cs6 =>
 cInt IntKind.i64 cs6 fun n5 l26 =>
 cLs l26 fun xs10 l27 =>
 cLs l27 fun xs11 l28 =>
 cInt IntKind.i64 l28 fun n6 l29 =>
 cStr l29 fun s l30 =>
 cStr l30 fun s1 l31 =>
 cLs l31 fun xs12 l32 =>
 unNil l32 <|
 cInt IntKind.i64 l25 fun n7 l33 =>
 unNil l33 <|
 unOut o5 fun c6 l34 =>
 unSet true false c6 fun cs7 =>
 cLs cs7 fun xs13 l35 =>
 cInt IntKind.i64 l35 fun n8 l36 =>
 cLs l36 fun xs14 l37 =>
 cBool l37 fun b10 l38 =>
 unNil l38 <|
 unEnd l34 <|
 some ((AV.tup [AV.agg [iv n5, AV.ls xs10, AV.ls xs11, iv n6, sv s, sv s1, AV.ls xs12], iv n7], [BO.set (ABlk.mk [AV.ls xs13, iv n8, AV.ls xs14, bv b10] true false)]))))))))
 (askK D (Key.fn 96) [AV.ptr 0 0, sv (bstr [40])] [ABlk.mk [AV.ls xs, iv n, AV.ls xs1, bv b1] true false] fun r1 o1 =>
 unBool r1 fun b2 =>
 unOut o1 fun c1 l5 =>
 unSet true false c1 fun cs1 =>
 cLs cs1 fun xs2 l6 =>
 cInt IntKind.i64 l6 fun n1 l7 =>
 cLs l7 fun xs3 l8 =>
 cBool l8 fun b3 l9 =>
 unNil l9 <|
 unEnd l5 <|
 br b2
 (br (A.eq x1 60)
 (some ((AV.tup [AV.agg [iv 0, AV.ls [], AV.ls [], iv 0, sv (bstr []), sv (bstr []), AV.ls []], iv 102], [BO.set (ABlk.mk [AV.ls xs2, iv n1, AV.ls xs3, bv b3] true false)])))
 (askK D (Key.fn 93) [AV.ptr 0 0, sv (bstr [116, 114, 117, 101])] [ABlk.mk [AV.ls xs2, iv n1, AV.ls xs3, bv b3] true false] fun r2 o2 =>
 unBool r2 fun b4 =>
 unOut o2 fun c2 l10 =>
 unSet true false c2 fun cs2 =>
 cLs cs2 fun xs4 l11 =>
 cInt IntKind.i64 l11 fun n2 l12 =>
 cLs l12 fun xs5 l13 =>
 cBool l13 fun b5 l14 =>
 unNil l14 <|
 unEnd l10 <|
 br b4
 (some ((AV.tup [AV.agg [iv 0, AV.ls [], AV.ls [], iv 0, sv (bstr []), sv (bstr []), AV.ls []], iv 0], [BO.set (ABlk.mk [AV.ls xs4, iv n2, AV.ls xs5, bv b5] true false)])))
 (askK D (Key.fn 93) [AV.ptr 0 0, sv (bstr [102, 97, 108, 115, 101])] [ABlk.mk [AV.ls xs4, iv n2, AV.ls xs5, bv b5] true false] fun r3 o3 =>
 unBool r3 fun b6 =>
 unOut o3 fun c3 l15 =>
 unSet true false c3 fun cs3 =>
 cLs cs3 fun xs6 l16 =>
 cInt IntKind.i64 l16 fun n3 l17 =>
 cLs l17 fun xs7 l18 =>
 cBool l18 fun b7 l19 =>
 unNil l19 <|
 unEnd l15 <|
 br b6
 (some ((AV.tup [AV.agg [iv 1, AV.ls [], AV.ls [], iv 0, sv (bstr []), sv (bstr []), AV.ls []], iv 0], [BO.set (ABlk.mk [AV.ls xs6, iv n3, AV.ls xs7, bv b7] true false)])))
 (askK D (Key.fn 93) [AV.ptr 0 0, sv (bstr [33])] [ABlk.mk [AV.ls xs6, iv n3, AV.ls xs7, bv b7] true false] fun r4 o4 =>
 unBool r4 fun b8 =>
 unOut o4 fun c4 l20 =>
 unSet true false c4 fun cs4 =>
 cLs cs4 fun xs8 l21 =>
 cInt IntKind.i64 l21 fun n4 l22 =>
 cLs l22 fun xs9 l23 =>
 cBool l23 fun b9 l24 =>
 unNil l24 <|
 unEnd l20 <|
 br b8
 (askK D (Key.fn 220) [AV.ptr 0 0, iv (A.add IntKind.i64 x1 1)] [ABlk.mk [AV.ls xs8, iv n4, AV.ls xs9, bv b9] true false] fun r5 o5 =>
 unTup r5 fun cs5 =>
 unCons cs5 fun c5 l25 =>
 unAgg c5 fun cs6 =>
 cInt IntKind.i64 cs6 fun n5 l26 =>
 cLs l26 fun xs10 l27 =>
 cLs l27 fun xs11 l28 =>
 cInt IntKind.i64 l28 fun n6 l29 =>
 cStr l29 fun s l30 =>
 cStr l30 fun s1 l31 =>
 cLs l31 fun xs12 l32 =>
 unNil l32 <|
 cInt IntKind.i64 l25 fun n7 l33 =>
 unNil l33 <|
 unOut o5 fun c6 l34 =>
 unSet true false c6 fun cs7 =>
 cLs cs7 fun xs13 l35 =>
 cInt IntKind.i64 l35 fun n8 l36 =>
 cLs l36 fun xs14 l37 =>
 cBool l37 fun b10 l38 =>
 unNil l38 <|
 unEnd l34 <|
 br (A.eq n7 0)
 (some ((AV.tup [AV.agg [iv 3, AV.ls [], AV.ls [], iv 0, sv (bstr []), sv (bstr []), AV.ls [[iv n5, AV.ls xs10, AV.ls xs11, iv n6, sv s, sv s1, AV.ls xs12]]], iv 0], [BO.set (ABlk.mk [AV.ls xs13, iv n8, AV.ls xs14, bv b10] true false)])))
 (some ((AV.tup [AV.agg [iv 0, AV.ls [], AV.ls [], iv 0, sv (bstr []), sv (bstr []), AV.ls []], iv n7], [BO.set (ABlk.mk [AV.ls xs13, iv n8, AV.ls xs14, bv b10] true false)]))))
 (askK D (Key.fn 93) [AV.ptr 0 0, sv (bstr [40])] [ABlk.mk [AV.ls xs8, iv n4, AV.ls xs9, bv b9] true false] fun r5 o5 =>
 unBool r5 fun b10 =>
 unOut o5 fun c5 l25 =>
 unSet true false c5 fun cs5 =>
 cLs cs5 fun xs10 l26 =>
 cInt IntKind.i64 l26 fun n5 l27 =>
 cLs l27 fun xs11 l28 =>
 cBool l28 fun b11 l29 =>
 unNil l29 <|
 unEnd l25 <|
 br b10
 (askK D (Key.fn 104) [AV.ptr 0 0, iv (A.add IntKind.i64 x1 1)] [ABlk.mk [AV.ls xs10, iv n5, AV.ls xs11, bv b11] true false] fun r6 o6 =>
 unTup r6 fun cs6 =>
 unCons cs6 fun c6 l30 =>
 unAgg c6 fun cs7 =>
 cInt IntKind.i64 cs7 fun n6 l31 =>
 cLs l31 fun xs12 l32 =>
 cLs l32 fun xs13 l33 =>
 cInt IntKind.i64 l33 fun n7 l34 =>
 cStr l34 fun s l35 =>
 cStr l35 fun s1 l36 =>
 cLs l36 fun xs14 l37 =>
 unNil l37 <|
 cInt IntKind.i64 l30 fun n8 l38 =>
 unNil l38 <|
 unOut o6 fun c7 l39 =>
 unSet true false c7 fun cs8 =>
 cLs cs8 fun xs15 l40 =>
 cInt IntKind.i64 l40 fun n9 l41 =>
 cLs l41 fun xs16 l42 =>
 cBool l42 fun b12 l43 =>
 unNil l43 <|
 unEnd l39 <|
 br (A.eq n8 0)
 (askK D (Key.fn 248) [AV.ptr 0 0, sv (bstr [41])] [ABlk.mk [AV.ls xs15, iv n9, AV.ls xs16, bv b12] true false] fun r7 o7 =>
 unInt IntKind.i64 r7 fun n10 =>
 unOut o7 fun c8 l44 =>
 unSet true false c8 fun cs9 =>
 cLs cs9 fun xs17 l45 =>
 cInt IntKind.i64 l45 fun n11 l46 =>
 cLs l46 fun xs18 l47 =>
 cBool l47 fun b13 l48 =>
 unNil l48 <|
 unEnd l44 <|
 br (A.eq n10 0)
 (some ((AV.tup [AV.agg [iv n6, AV.ls xs12, AV.ls xs13, iv n7, sv s, sv s1, AV.ls xs14], iv 0], [BO.set (ABlk.mk [AV.ls xs17, iv n11, AV.ls xs18, bv b13] true false)])))
 (some ((AV.tup [AV.agg [iv 0, AV.ls [], AV.ls [], iv 0, sv (bstr []), sv (bstr []), AV.ls []], iv n10], [BO.set (ABlk.mk [AV.ls xs17, iv n11, AV.ls xs18, bv b13] true false)]))))
 (br (A.eq n8 0) none (some ((AV.tup [AV.agg [iv 0, AV.ls [], AV.ls [], iv 0, sv (bstr []), sv (bstr []), AV.ls []], iv n8], [BO.set (ABlk.mk [AV.ls xs15, iv n9, AV.ls xs16, bv b12] true false)])))))
 (askK D (Key.fn 249) [AV.ptr 0 0] [ABlk.mk [AV.ls xs10, iv n5, AV.ls xs11, bv b11] true false] fun r6 o6 =>
 unTup r6 fun cs6 =>
 unCons cs6 fun c6 l30 =>
 unAgg c6 fun cs7 =>
 cInt IntKind.i64 cs7 fun n6 l31 =>
 cLs l31 fun xs12 l32 =>
 cLs l32 fun xs13 l33 =>
 cInt IntKind.i64 l33 fun n7 l34 =>
 cStr l34 fun s l35 =>
 cStr l35 fun s1 l36 =>
 cLs l36 fun xs14 l37 =>
 unNil l37 <|
 cInt IntKind.i64 l30 fun n8 l38 =>
 unNil l38 <|
 unOut o6 fun c7 l39 =>
 unSet true false c7 fun cs8 =>
 cLs cs8 fun xs15 l40 =>
 cInt IntKind.i64 l40 fun n9 l41 =>
 cLs l41 fun xs16 l42 =>
 cBool l42 fun b12 l43 =>
 unNil l43 <|
 unEnd l39 <|
 some ((AV.tup [AV.agg [iv n6, AV.ls xs12, AV.ls xs13, iv n7, sv s, sv s1, AV.ls xs14], iv n8], [BO.set (ABlk.mk [AV.ls xs15, iv n9, AV.ls xs16, bv b12] true false)]))))))))
 (askK D (Key.fn 93) [AV.ptr 0 0, sv (bstr [116, 114, 117, 101])] [ABlk.mk [AV.ls xs2, iv n1, AV.ls xs3, bv b3] true false] fun r2 o2 =>
 unBool r2 fun b4 =>
 unOut o2 fun c2 l10 =>
 unSet true false c2 fun cs2 =>
 cLs cs2 fun xs4 l11 =>
 cInt IntKind.i64 l11 fun n2 l12 =>
 cLs l12 fun xs5 l13 =>
 cBool l13 fun b5 l14 =>
 unNil l14 <|
 unEnd l10 <|
 br b4
 (some ((AV.tup [AV.agg [iv 0, AV.ls [], AV.ls [], iv 0, sv (bstr []), sv (bstr []), AV.ls []], iv 0], [BO.set (ABlk.mk [AV.ls xs4, iv n2, AV.ls xs5, bv b5] true false)])))
 (askK D (Key.fn 93) [AV.ptr 0 0, sv (bstr [102, 97, 108, 115, 101])] [ABlk.mk [AV.ls xs4, iv n2, AV.ls xs5, bv b5] true false] fun r3 o3 =>
 unBool r3 fun b6 =>
 unOut o3 fun c3 l15 =>
 unSet true false c3 fun cs3 =>
 cLs cs3 fun xs6 l16 =>
 cInt IntKind.i64 l16 fun n3 l17 =>
 cLs l17 fun xs7 l18 =>
 cBool l18 fun b7 l19 =>
 unNil l19 <|
 unEnd l15 <|
 br b6
 (some ((AV.tup [AV.agg [iv 1, AV.ls [], AV.ls [], iv 0, sv (bstr []), sv (bstr []), AV.ls []], iv 0], [BO.set (ABlk.mk [AV.ls xs6, iv n3, AV.ls xs7, bv b7] true false)])))
 (askK D (Key.fn 93) [AV.ptr 0 0, sv (bstr [33])] [ABlk.mk [AV.ls xs6, iv n3, AV.ls xs7, bv b7] true false] fun r4 o4 =>
 unBool r4 fun b8 =>
 unOut o4 fun c4 l20 =>
 unSet true false c4 fun cs4 =>
 cLs cs4 fun xs8 l21 =>
 cInt IntKind.i64 l21 fun n4 l22 =>
 cLs l22 fun xs9 l23 =>
 cBool l23 fun b9 l24 =>
 unNil l24 <|
 unEnd l20 <|
 br b8
 (askK D (Key.fn 220) [AV.ptr 0 0, iv (A.add IntKind.i64 x1 1)] [ABlk.mk [AV.ls xs8, iv n4, AV.ls xs9, bv b9] true false] fun r5 o5 =>
 unTup r5 fun cs5 =>
 unCons cs5 fun c5 l25 =>
 unAgg c5 fun cs6 =>
 cInt IntKind.i64 cs6 fun n5 l26 =>
 cLs l26 fun xs10 l27 =>
 cLs l27 fun xs11 l28 =>
 cInt IntKind.i64 l28 fun n6 l29 =>
 cStr l29 fun s l30 =>
 cStr l30 fun s1 l31 =>
 cLs l31 fun xs12 l32 =>
 unNil l32 <|
 cInt IntKind.i64 l25 fun n7 l33 =>
 unNil l33 <|
 unOut o5 fun c6 l34 =>
 unSet true false c6 fun cs7 =>
 cLs cs7 fun xs13 l35 =>
 cInt IntKind.i64 l35 fun n8 l36 =>
 cLs l36 fun xs14 l37 =>
 cBool l37 fun b10 l38 =>
 unNil l38 <|
 unEnd l34 <|
 br (A.eq n7 0)
 (some ((AV.tup [AV.agg [iv 3, AV.ls [], AV.ls [], iv 0, sv (bstr []), sv (bstr []), AV.ls [[iv n5, AV.ls xs10, AV.ls xs11, iv n6, sv s, sv s1, AV.ls xs12]]], iv 0], [BO.set (ABlk.mk [AV.ls xs13, iv n8, AV.ls xs14, bv b10] true false)])))
 (some ((AV.tup [AV.agg [iv 0, AV.ls [], AV.ls [], iv 0, sv (bstr []), sv (bstr []), AV.ls []], iv n7], [BO.set (ABlk.mk [AV.ls xs13, iv n8, AV.ls xs14, bv b10] true false)]))))
 (askK D (Key.fn 93) [AV.ptr 0 0, sv (bstr [40])] [ABlk.mk [AV.ls xs8, iv n4, AV.ls xs9, bv b9] true false] fun r5 o5 =>
 unBool r5 fun b10 =>
 unOut o5 fun c5 l25 =>
 unSet true false c5 fun cs5 =>
 cLs cs5 fun xs10 l26 =>
 cInt IntKind.i64 l26 fun n5 l27 =>
 cLs l27 fun xs11 l28 =>
 cBool l28 fun b11 l29 =>
 unNil l29 <|
 unEnd l25 <|
 br b10
 (askK D (Key.fn 104) [AV.ptr 0 0, iv (A.add IntKind.i64 x1 1)] [ABlk.mk [AV.ls xs10, iv n5, AV.ls xs11, bv b11] true false] fun r6 o6 =>
 unTup r6 fun cs6 =>
 unCons cs6 fun c6 l30 =>
 unAgg c6 fun cs7 =>
 cInt IntKind.i64 cs7 fun n6 l31 =>
 cLs l31 fun xs12 l32 =>
 cLs l32 fun xs13 l33 =>
 cInt IntKind.i64 l33 fun n7 l34 =>
 cStr l34 fun s l35 =>
 cStr l35 fun s1 l36 =>
 cLs l36 fun xs14 l37 =>
 unNil l37 <|
 cInt IntKind.i64 l30 fun n8 l38 =>
 unNil l38 <|
 unOut o6 fun c7 l39 =>
 unSet true false c7 fun cs8 =>
 cLs cs8 fun xs15 l40 =>
 cInt IntKind.i64 l40 fun n9 l41 =>
 cLs l41 fun xs16 l42 =>
 cBool l42 fun b12 l43 =>
 unNil l43 <|
 unEnd l39 <|
 br (A.eq n8 0)
 (askK D (Key.fn 248) [AV.ptr 0 0, sv (bstr [41])] [ABlk.mk [AV.ls xs15, iv n9, AV.ls xs16, bv b12] true false] fun r7 o7 =>
 unInt IntKind.i64 r7 fun n10 =>
 unOut o7 fun c8 l44 =>
 unSet true false c8 fun cs9 =>
 cLs cs9 fun xs17 l45 =>
 cInt IntKind.i64 l45 fun n11 l46 =>
 cLs l46 fun xs18 l47 =>
 cBool l47 fun b13 l48 =>
 unNil l48 <|
 unEnd l44 <|
 br (A.eq n10 0)
 (some ((AV.tup [AV.agg [iv n6, AV.ls xs12, AV.ls xs13, iv n7, sv s, sv s1, AV.ls xs14], iv 0], [BO.set (ABlk.mk [AV.ls xs17, iv n11, AV.ls xs18, bv b13] true false)])))
 (some ((AV.tup [AV.agg [iv 0, AV.ls [], AV.ls [], iv 0, sv (bstr []), sv (bstr []), AV.ls []], iv n10], [BO.set (ABlk.mk [AV.ls xs17, iv n11, AV.ls xs18, bv b13] true false)]))))
 (br (A.eq n8 0) none (some ((AV.tup [AV.agg [iv 0, AV.ls [], AV.ls [], iv 0, sv (bstr []), sv (bstr []), AV.ls []], iv n8], [BO.set (ABlk.mk [AV.ls xs15, iv n9, AV.ls xs16, bv b12] true false)])))))
 (askK D (Key.fn 249) [AV.ptr 0 0] [ABlk.mk [AV.ls xs10, iv n5, AV.ls xs11, bv b11] true false] fun r6 o6 =>
 unTup r6 fun cs6 =>
 unCons cs6 fun c6 l30 =>
 unAgg c6 fun cs7 =>
 cInt IntKind.i64 cs7 fun n6 l31 =>
 cLs l31 fun xs12 l32 =>
 cLs l32 fun xs13 l33 =>
 cInt IntKind.i64 l33 fun n7 l34 =>
 cStr l34 fun s l35 =>
 cStr l35 fun s1 l36 =>
 cLs l36 fun xs14 l37 =>
 unNil l37 <|
 cInt IntKind.i64 l30 fun n8 l38 =>
 unNil l38 <|
 unOut o6 fun c7 l39 =>
 unSet true false c7 fun cs8 =>
 cLs cs8 fun xs15 l40 =>
 cInt IntKind.i64 l40 fun n9 l41 =>
 cLs l41 fun xs16 l42 =>
 cBool l42 fun b12 l43 =>
 unNil l43 <|
 unEnd l39 <|
 some ((AV.tup [AV.agg [iv n6, AV.ls xs12, AV.ls xs13, iv n7, sv s, sv s1, AV.ls xs14], iv n8], [BO.set (ABlk.mk [AV.ls xs15, iv n9, AV.ls xs16, bv b12] true false)])))))))) := by kernel_rfl

theorem e165 (A : Ar) (D : Orc) (p0_0 : List (List AV)) (p0_1 : Int) (p0_2 : List (List AV)) (p0_3 : Bool) (x1 : Int) : fnK A D ownC hn165 .n 165 mf165 [AV.ptr 0 0, iv x1] [{ cells := [AV.ls p0_0, iv p0_1, AV.ls p0_2, bv p0_3], st := true, ex := false }] =
 askK D (Key.fn 164) [AV.ptr 0 0, sv (bstr [38]), iv 4, iv x1, AV.fn (Fn.func 220) [AV.ptr 0 0] []] [ABlk.mk [AV.ls p0_0, iv p0_1, AV.ls p0_2, bv p0_3] true false] fun r o =>
 unTup r fun cs =>
 unCons cs fun c l =>
 unAgg c fun cs1 =>
 cInt IntKind.i64 cs1 fun n l1 =>
 cLs l1 fun xs l2 =>
 cLs l2 fun xs1 l3 =>
 cInt IntKind.i64 l3 fun n1 l4 =>
 cStr l4 fun s l5 =>
 cStr l5 fun s1 l6 =>
 cLs l6 fun xs2 l7 =>
 unNil l7 <|
 cInt IntKind.i64 l fun n2 l8 =>
 unNil l8 <|
 unOut o fun c1 l9 =>
 unSet true false c1 fun cs2 =>
 cLs cs2 fun xs3 l10 =>
 cInt IntKind.i64 l10 fun n3 l11 =>
 cLs l11 fun xs4 l12 =>
 cBool l12 fun b l13 =>
 unNil l13 <|
 unEnd l9 <|
 some ((AV.tup [AV.agg [iv n, AV.ls xs, AV.ls xs1, iv n1, sv s, sv s1, AV.ls xs2], iv n2], [BO.set (ABlk.mk [AV.ls xs3, iv n3, AV.ls xs4, bv b] true false)])) := by kernel_rfl

theorem e104 (A : Ar) (D : Orc) (p0_0 : List (List AV)) (p0_1 : Int) (p0_2 : List (List AV)) (p0_3 : Bool) (x1 : Int) : fnK A D ownC hn104 .n 104 mf104 [AV.ptr 0 0, iv x1] [{ cells := [AV.ls p0_0, iv p0_1, AV.ls p0_2, bv p0_3], st := true, ex := false }] =
 askK D (Key.fn 164) [AV.ptr 0 0, sv (bstr [124]), iv 5, iv x1, AV.fn (Fn.func 165) [AV.ptr 0 0] []] [ABlk.mk [AV.ls p0_0, iv p0_1, AV.ls p0_2, bv p0_3] true false] fun r o =>
 unTup r fun cs =>
 unCons cs fun c l =>
 unAgg c fun cs1 =>
 cInt IntKind.i64 cs1 fun n l1 =>
 cLs l1 fun xs l2 =>
 cLs l2 fun xs1 l3 =>
 cInt IntKind.i64 l3 fun n1 l4 =>
 cStr l4 fun s l5 =>
 cStr l5 fun s1 l6 =>
 cLs l6 fun xs2 l7 =>
 unNil l7 <|
 cInt IntKind.i64 l fun n2 l8 =>
 unNil l8 <|
 unOut o fun c1 l9 =>
 unSet true false c1 fun cs2 =>
 cLs cs2 fun xs3 l10 =>
 cInt IntKind.i64 l10 fun n3 l11 =>
 cLs l11 fun xs4 l12 =>
 cBool l12 fun b l13 =>
 unNil l13 <|
 unEnd l9 <|
 some ((AV.tup [AV.agg [iv n, AV.ls xs, AV.ls xs1, iv n1, sv s, sv s1, AV.ls xs2], iv n2], [BO.set (ABlk.mk [AV.ls xs3, iv n3, AV.ls xs4, bv b] true false)])) := by kernel_rfl

theorem e54 (A : Ar) (D : Orc) (p0_0 : List (List AV)) (p0_1 : Int) (p0_2 : List (List AV)) (p0_3 : Bool) : fnK A D ownC hn54 .n 54 mf54 [AV.ptr 0 0] [{ cells := [AV.ls p0_0, iv p0_1, AV.ls p0_2, bv p0_3], st := true, ex := false }] =
 askK D (Key.fn 104) [AV.ptr 0 0, iv 0] [ABlk.mk [AV.ls p0_0, iv p0_1, AV.ls p0_2, bv p0_3] true false] fun r o =>
 unTup r fun cs =>
 unCons cs fun c l =>
 unAgg c fun cs1 =>
 cInt IntKind.i64 cs1 fun n l1 =>
 cLs l1 fun xs l2 =>
 cLs l2 fun xs1 l3 =>
 cInt IntKind.i64 l3 fun n1 l4 =>
 cStr l4 fun s l5 =>
 cStr l5 fun s1 l6 =>
 cLs l6 fun xs2 l7 =>
 unNil l7 <|
 cInt IntKind.i64 l fun n2 l8 =>
 unNil l8 <|
 unOut o fun c1 l9 =>
 unSet true false c1 fun cs2 =>
 cLs cs2 fun xs3 l10 =>
 cInt IntKind.i64 l10 fun n3 l11 =>
 cLs l11 fun xs4 l12 =>
 cBool l12 fun b l13 =>
 unNil l13 <|
 unEnd l9 <|
 some ((AV.tup [AV.agg [iv n, AV.ls xs, AV.ls xs1, iv n1, sv s, sv s1, AV.ls xs2], iv n2], [BO.set (ABlk.mk [AV.ls xs3, iv n3, AV.ls xs4, bv b] true false)])) := by kernel_rfl
end Go.Proofs.YtlmhajfbpplpoaaGreat
namespace Go.Proofs.YtlmhajfbpplpoaaGreat
open Go.RowKit

section
variable {D : Orc}
def eOp (s : List UInt8) : List AV := [sv (bstr s)]
theorem compares_ok (K : Knows ownC tabEa D) : D.ask (.fn 90) [] [] = some (.ls (opsL.map eOp), []) :=
 K.fn' hn90 _ rfl ((e90 ..).trans rfl)
def keepC (b : Bool) (x : ABlk) : List BO := if b then [.set x] else [.keep]
def pickR (ts : List Tk) (vars : List ByteArray) (kn : Bool) (i j : Nat) (b : Bool) : Option Nat → AV × List BO
 | some m => (.tup [bv true, iv ((j + m : Nat) : Int)], [.set (cuB ts vars kn (i + 1))])
 | none => (.tup [iv 0], keepC b (cuB ts vars kn i))
theorem pick_lp (K : Knows ownC tabEa D) (Kb : Knows ownC tabEb D) {ts : List Tk} (H : Toks ts) (vars : List ByteArray) (kn : Bool) (i : Nat) (hi : i ≤ ts.length) (xs : List (List UInt8)) (hx : xs.length < 4611686018427387904) : ∀ (k j : Nat), xs.length - j = k →
  D.ask (.lp 262 0) [.ls (xs.map eOp), .fn (.func 93) [.ptr 0 0] [], iv (xs.length : Int), iv (j : Int)] [cuB ts vars kn i] = some (pickR ts vars kn i j (decide (j < xs.length)) ((xs.drop j).findIdx? (isT ts i))) := by
 have hl := H.len
 intro k
 induction k with
 | zero =>
  intro j hj
  refine Kb.lp' hn262 _ rfl (by kernel_rfl) ((e262_0 ..).trans ?_)
  have h1 : xs.drop j = [] := List.drop_eq_nil_of_le (by omega)
  have h2 : decide ((j : Int) < (xs.length : Int)) = false := by simp; omega
  have h3 : decide (j < xs.length) = false := by simp; omega
  simp only [r_lt, h1, h2, h3, br_f]
  rfl
 | succ k ih =>
  intro j hj
  have hlt : j < xs.length := by omega
  refine Kb.lp' hn262 _ rfl (by kernel_rfl) ((e262_0 ..).trans ?_)
  have e1 : xs.drop j = xs[j] :: xs.drop (j + 1) := List.drop_eq_getElem_cons hlt
  have ih' := ih (j + 1) (by omega)
  have h2 : decide ((j : Int) < (xs.length : Int)) = true := by simp; omega
  have h3 : decide (j < xs.length) = true := by simp; omega
  simp only [r_lt, h2, h3, br_t, unI_n, nthK_map, List.getElem?_eq_getElem hlt, eOp, cStr_sv, unNil_nil, e1, List.findIdx?_cons]
  refine (askK_of (take_ok K ts vars kn i (by omega) (by omega) _) _).trans ?_
  simp only [cuB, ND]
  cases hT : isT ts i xs[j] with
  | true =>
   simp only [ND, if_true]
   rfl
  | false =>
   simp only [ND, Bool.false_eq_true, if_false, add1 (show j < 4611686018427387904 by omega)]
   refine (askK_of ih' _).trans ?_
   cases (xs.drop (j + 1)).findIdx? (isT ts i) with
   | none => cases decide (j + 1 < xs.length) <;> rfl
   | some m =>
    simp only [pickR, Option.map_some, show j + (m + 1) = j + 1 + m by omega]
    rfl
def opAt (ts : List Tk) (i : Nat) : Nat := match opP ts i with
 | some _ => i + 1
 | none => i
theorem pick_ok (K : Knows ownC tabEa D) (Kb : Knows ownC tabEb D) {ts : List Tk} (H : Toks ts) (vars : List ByteArray) (kn : Bool) (i : Nat) (hi : i ≤ ts.length) : D.ask (.fn 262) [.ls (opsL.map eOp), .fn (.func 93) [.ptr 0 0] []] [cuB ts vars kn i] = some (iv (placeI (opP ts i)), [.set (cuB ts vars kn (opAt ts i))]) := by
 refine Kb.fn' hn262 _ rfl ((e262 ..).trans ?_)
 rw [lenR_map]
 refine (askK_of (pick_lp K Kb H vars kn i hi opsL (by decide) _ 0 rfl) _).trans ?_
 rw [List.drop_zero]
 unfold opAt
 show _ = some (iv (placeI (opP ts i)), _)
 unfold opP
 cases opsL.findIdx? (isT ts i) with
 | none => rfl
 | some j => simp only [pickR, cuB, ND, Nat.zero_add]; rfl
theorem compare_ok (K : Knows ownC tabEa D) (Kb : Knows ownC tabEb D) (L : NameF D) {ts : List Tk} (H : Toks ts) (vars : List ByteArray) (kn : Bool) (hv : vars.length < 4611686018427387904) (i : Nat) (hi : i ≤ ts.length) : D.ask (.fn 249) [.ptr 0 0] [cuB ts vars kn i] = some (.tup [.agg (eTr (cmpP ts vars kn i).2.2), iv ((cmpP ts vars kn i).2.1 : Int)], [.set (cuB ts vars kn (cmpP ts vars kn i).1)]) := by
 have hl := H.len
 refine Kb.fn' hn249 _ rfl ((e249 ..).trans ?_)
 refine (askK_of (sum_ok K L ts vars kn (by omega) hv H.short i (by omega)) _).trans ?_
 have m := sumP_far H vars kn hi
 unfold cmpP
 simp only [cuB, ND, r_eq, ci0]
 by_cases h0 : (sumP ts vars kn i).2.1 = 0
 ·simp only [h0, decide_true, ND, ne_eq, not_true, if_false]
  refine (askK_of (compares_ok K) _).trans ?_
  simp only [ND]
  refine (askK_of (pick_ok K Kb H vars kn _ m.le) _).trans ?_
  simp only [cuB, ND, r_lt]
  unfold opAt
  cases ho : opP ts (sumP ts vars kn i).1 with
  | none => rfl
  | some op =>
   have h1 : decide (placeI (some op) < 0) = false := decide_eq_false (show ¬ ((op : Int) < 0) by omega)
   have h2 := opP_far H ho
   simp only [h1, ND]
   refine (askK_of (sum_ok K L ts vars kn (by omega) hv H.short ((sumP ts vars kn i).1 + 1) (by omega)) _).trans ?_
   simp only [cuB, ND, r_eq, ci0]
   by_cases h3 : (sumP ts vars kn ((sumP ts vars kn i).1 + 1)).2.1 = 0
   ·simp only [h3, decide_true, ND, ne_eq, not_true, if_false]
    rfl
   ·simp only [h3, decide_false, ND, ne_eq, not_false_eq_true, if_true]
    rfl
 ·simp only [h0, decide_false, ND, ne_eq, not_false_eq_true, if_true]
  rfl
end
end Go.Proofs.YtlmhajfbpplpoaaGreat
namespace Go.Proofs.YtlmhajfbpplpoaaGreat
open Go.RowKit

theorem br_eqT {a b : Int} (h : a = b) {x y : KR} : br (realA.eq a b) x y = x := by rw [r_eq, decide_eq_true h]; rfl
theorem br_eqF {a b : Int} (h : ¬ a = b) {x y : KR} : br (realA.eq a b) x y = y := by rw [r_eq, decide_eq_false h]; rfl
set_option linter.unusedSectionVars false
section
variable {D : Orc}
def trB (x : Tr) : ABlk := ABlk.mk (eTr x) true false
def okJ (D : Orc) (ts : List Tk) (vars : List ByteArray) (kn : Bool) : Jb → Nat → Nat → Nat × Nat × Tr → Prop
 | .one, i, d, q => D.ask (.fn 220) [.ptr 0 0, iv (d : Int)] [cuB ts vars kn i] = some (.tup [.agg (eTr q.2.2), iv (q.2.1 : Int)], [.set (cuB ts vars kn q.1)])
 | .both, i, d, q => D.ask (.fn 165) [.ptr 0 0, iv (d : Int)] [cuB ts vars kn i] = some (.tup [.agg (eTr q.2.2), iv (q.2.1 : Int)], [.set (cuB ts vars kn q.1)])
 | .cond, i, d, q => D.ask (.fn 104) [.ptr 0 0, iv (d : Int)] [cuB ts vars kn i] = some (.tup [.agg (eTr q.2.2), iv (q.2.1 : Int)], [.set (cuB ts vars kn q.1)])
 | .bothL x, i, d, q => ∃ y, (q.2.1 = 0 → y = q.2.2) ∧ D.ask (.lp 164 0) [.ptr 0 0, sv (bstr [38]), iv 4, iv (d : Int), .fn (.func 220) [.ptr 0 0] [], .ptr 1 0, .ptr 2 0, iv 0] [cuB ts vars kn i, trB T0, trB x]
   = some (.tup [iv 0, .ptr 0 0, .ptr 1 0, .ptr 2 0, iv (q.2.1 : Int)], [.set (cuB ts vars kn q.1), .set (trB T0), .set (trB y)])
 | .condL x, i, d, q => ∃ y, (q.2.1 = 0 → y = q.2.2) ∧ D.ask (.lp 164 0) [.ptr 0 0, sv (bstr [124]), iv 5, iv (d : Int), .fn (.func 165) [.ptr 0 0] [], .ptr 1 0, .ptr 2 0, iv 0] [cuB ts vars kn i, trB T0, trB x]
   = some (.tup [iv 0, .ptr 0 0, .ptr 1 0, .ptr 2 0, iv (q.2.1 : Int)], [.set (cuB ts vars kn q.1), .set (trB T0), .set (trB y)])
theorem row_erra (Kb : Knows ownC tabEb D) (ts : List Tk) (vars : List ByteArray) (kn : Bool) (i d e : Nat) (x : Tr) (he : e ≠ 0) : D.ask (.lp 164 0) [.ptr 0 0, sv (bstr [38]), iv 4, iv (d : Int), .fn (.func 220) [.ptr 0 0] [], .ptr 1 0, .ptr 2 0, iv (e : Int)] [cuB ts vars kn i, trB T0, trB x]
  = some (.tup [iv 0, .ptr 0 0, .ptr 1 0, .ptr 2 0, iv (e : Int)], [.set (cuB ts vars kn i), .set (trB T0), .set (trB x)]) := by
 obtain ⟨k, l, r, o, p, q, ks⟩ := x
 refine Kb.lp' hn164 _ rfl (by kernel_rfl) ((e164a_0 ..).trans ?_)
 refine (br_eqF (by omega)).trans ?_
 rfl
theorem row_oka (Kb : Knows ownC tabEb D) (ts : List Tk) (vars : List ByteArray) (kn : Bool) (i d j e : Nat) (x : Tr) (q : Nat × Nat × Tr)
  (h1 : D.ask (.fn 220) [.ptr 0 0, iv (d : Int)] [cuB ts vars kn i] = some (.tup [.agg (eTr x), iv (e : Int)], [.set (cuB ts vars kn j)]))
  (h2 : e ≠ 0 → q = (j, e, T0)) (h3 : e = 0 → ∃ q0 : Nat × Nat × Tr, q = (if q0.2.1 = 0 then q0 else failT q0) ∧ okJ D ts vars kn (.bothL x) j d q0) :
  D.ask (.fn 164) [.ptr 0 0, sv (bstr [38]), iv 4, iv (d : Int), .fn (.func 220) [.ptr 0 0] []] [cuB ts vars kn i] = some (.tup [.agg (eTr q.2.2), iv (q.2.1 : Int)], [.set (cuB ts vars kn q.1)]) := by
 refine Kb.fn' hn164 _ rfl ((e164a ..).trans ?_)
 refine (askK_of h1 _).trans ?_
 obtain ⟨k, l, r, o, p, v, ks⟩ := x
 simp only [eTr, cuB, ND]
 by_cases he : e = 0
 ·subst he
  obtain ⟨⟨j2, e2, t2⟩, rfl, y, hy, h4⟩ := h3 rfl
  refine (askK_of h4 _).trans ?_
  obtain ⟨k, l, r, o, p, v, ks⟩ := y
  simp only [eTr, T0, trB, cuB, ND]
  by_cases h0 : e2 = 0
  ·refine (br_eqT (by omega)).trans ?_
   rw [if_pos h0, h0, ← hy h0]
   rfl
  ·refine (br_eqF (by omega)).trans ?_
   rw [if_neg h0]
   rfl
 ·rw [h2 he]
  refine (askK_of (row_erra Kb ts vars kn j d e (.mk k l r o p v ks) he) _).trans ?_
  simp only [eTr, T0, trB, cuB, ND]
  refine (br_eqF (by omega)).trans ?_
  rfl
theorem row_errb (Kb : Knows ownC tabEb D) (ts : List Tk) (vars : List ByteArray) (kn : Bool) (i d e : Nat) (x : Tr) (he : e ≠ 0) : D.ask (.lp 164 0) [.ptr 0 0, sv (bstr [124]), iv 5, iv (d : Int), .fn (.func 165) [.ptr 0 0] [], .ptr 1 0, .ptr 2 0, iv (e : Int)] [cuB ts vars kn i, trB T0, trB x]
  = some (.tup [iv 0, .ptr 0 0, .ptr 1 0, .ptr 2 0, iv (e : Int)], [.set (cuB ts vars kn i), .set (trB T0), .set (trB x)]) := by
 obtain ⟨k, l, r, o, p, q, ks⟩ := x
 refine Kb.lp' hn164 _ rfl (by kernel_rfl) ((e164b_0 ..).trans ?_)
 refine (br_eqF (by omega)).trans ?_
 rfl
theorem row_okb (Kb : Knows ownC tabEb D) (ts : List Tk) (vars : List ByteArray) (kn : Bool) (i d j e : Nat) (x : Tr) (q : Nat × Nat × Tr)
  (h1 : D.ask (.fn 165) [.ptr 0 0, iv (d : Int)] [cuB ts vars kn i] = some (.tup [.agg (eTr x), iv (e : Int)], [.set (cuB ts vars kn j)]))
  (h2 : e ≠ 0 → q = (j, e, T0)) (h3 : e = 0 → ∃ q0 : Nat × Nat × Tr, q = (if q0.2.1 = 0 then q0 else failT q0) ∧ okJ D ts vars kn (.condL x) j d q0) :
  D.ask (.fn 164) [.ptr 0 0, sv (bstr [124]), iv 5, iv (d : Int), .fn (.func 165) [.ptr 0 0] []] [cuB ts vars kn i] = some (.tup [.agg (eTr q.2.2), iv (q.2.1 : Int)], [.set (cuB ts vars kn q.1)]) := by
 refine Kb.fn' hn164 _ rfl ((e164b ..).trans ?_)
 refine (askK_of h1 _).trans ?_
 obtain ⟨k, l, r, o, p, v, ks⟩ := x
 simp only [eTr, cuB, ND]
 by_cases he : e = 0
 ·subst he
  obtain ⟨⟨j2, e2, t2⟩, rfl, y, hy, h4⟩ := h3 rfl
  refine (askK_of h4 _).trans ?_
  obtain ⟨k, l, r, o, p, v, ks⟩ := y
  simp only [eTr, T0, trB, cuB, ND]
  by_cases h0 : e2 = 0
  ·refine (br_eqT (by omega)).trans ?_
   rw [if_pos h0, h0, ← hy h0]
   rfl
  ·refine (br_eqF (by omega)).trans ?_
   rw [if_neg h0]
   rfl
 ·rw [h2 he]
  refine (askK_of (row_errb Kb ts vars kn j d e (.mk k l r o p v ks) he) _).trans ?_
  simp only [eTr, T0, trB, cuB, ND]
  refine (br_eqF (by omega)).trans ?_
  rfl
variable (K : Knows ownC tabEa D) (Kb : Knows ownC tabEb D) (L : NameF D) {ts : List Tk} (H : Toks ts) (vars : List ByteArray) (kn : Bool) (hv : vars.length < 4611686018427387904)
include K Kb L H hv
theorem one_step (n : Nat) (ih : ∀ (j : Jb) (i d : Nat), i ≤ ts.length → d ≤ 60 → needJ ts j i ≤ n → okJ D ts vars kn j i d (jbP ts vars kn n j i d)) (i d : Nat) (hi : i ≤ ts.length) (hd : d ≤ 60) (hn : needJ ts .one i ≤ n + 1) : okJ D ts vars kn .one i d (jbP ts vars kn (n + 1) .one i d) := by
 have hl := H.len
 unfold okJ jbP
 dsimp only
 refine Kb.fn' hn220 _ rfl ((e220 ..).trans ?_)
 refine (askK_of (is_ok K ts vars kn i (by omega) (by omega) _) _).trans ?_
 simp only [cuB, ND]
 cases h33 : isT ts i [33] with
 | true =>
  refine (br_t _ _).trans ?_
  simp only [Bool.true_or, true_and]
  by_cases h60 : d = 60
  ·refine (br_eqT (by omega)).trans ?_
   simp only [h60, if_true]
   rfl
  ·refine (br_eqF (by omega)).trans ?_
   simp only [h60, if_false]
   refine (askK_of (take_ok K ts vars kn i (by omega) (by omega) _) _).trans ?_
   simp only [cuB, ND]
   cases hT : isT ts i [116, 114, 117, 101] with
   | true => simp only [ND, if_true]; rfl
   | false =>
    simp only [ND, Bool.false_eq_true, if_false]
    refine (askK_of (take_ok K ts vars kn i (by omega) (by omega) _) _).trans ?_
    simp only [cuB, ND]
    cases hF : isT ts i [102, 97, 108, 115, 101] with
    | true => simp only [ND, if_true]; rfl
    | false =>
     simp only [ND, Bool.false_eq_true, if_false]
     refine (askK_of (take_ok K ts vars kn i (by omega) (by omega) _) _).trans ?_
     simp only [cuB, ND, h33]
     simp only [ND, if_true, add1 (show d < 4611686018427387904 by omega)]
     have hlt := H.isT h33
     have g := ih .one (i + 1) (d + 1) (by omega) (by omega) (by simp only [needJ] at hn ⊢; omega)
     refine (askK_of g _).trans ?_
     rcases jbP ts vars kn n .one (i + 1) (d + 1) with ⟨j, e, ⟨k, l, r, o, p, q, ks⟩⟩
     simp only [eTr, cuB, ND, r_eq, ci0, thenT]
     by_cases he : e = 0
     ·simp only [he, decide_true, ND, if_true]; rfl
     ·simp only [he, decide_false, ND, if_false]; rfl
 | false =>
  refine (br_f _ _).trans ?_
  simp only [Bool.false_or]
  refine (askK_of (is_ok K ts vars kn i (by omega) (by omega) _) _).trans ?_
  simp only [cuB, ND]
  cases h40 : isT ts i [40] with
  | true =>
   refine (br_t _ _).trans ?_
   simp only [true_and]
   by_cases h60 : d = 60
   ·refine (br_eqT (by omega)).trans ?_
    simp only [h60, if_true]
    rfl
   ·refine (br_eqF (by omega)).trans ?_
    simp only [h60, if_false]
    refine (askK_of (take_ok K ts vars kn i (by omega) (by omega) _) _).trans ?_
    simp only [cuB, ND]
    cases hT : isT ts i [116, 114, 117, 101] with
    | true => simp only [ND, if_true]; rfl
    | false =>
     simp only [ND, Bool.false_eq_true, if_false]
     refine (askK_of (take_ok K ts vars kn i (by omega) (by omega) _) _).trans ?_
     simp only [cuB, ND]
     cases hF : isT ts i [102, 97, 108, 115, 101] with
     | true => simp only [ND, if_true]; rfl
     | false =>
      simp only [ND, Bool.false_eq_true, if_false]
      refine (askK_of (take_ok K ts vars kn i (by omega) (by omega) _) _).trans ?_
      simp only [cuB, ND, h33]
      simp only [ND, Bool.false_eq_true, if_false]
      refine (askK_of (take_ok K ts vars kn i (by omega) (by omega) _) _).trans ?_
      simp only [cuB, ND, h40]
      simp only [ND, if_true, add1 (show d < 4611686018427387904 by omega)]
      have hlt := H.isT h40
      have g := ih .cond (i + 1) (d + 1) (by omega) (by omega) (by simp only [needJ] at hn ⊢; omega)
      have f : Far ts (i + 1) _ _ := jbP_far H vars kn n .cond (i + 1) (d + 1) (by omega)
      refine (askK_of g _).trans ?_
      revert f
      rcases jbP ts vars kn n .cond (i + 1) (d + 1) with ⟨j, e, ⟨k, l, r, o, p, q, ks⟩⟩
      intro f
      have hj : j ≤ ts.length := f.le
      simp only [eTr, cuB, ND, r_eq, ci0, thenT]
      by_cases he : e = 0
      ·simp only [he, decide_true, ND, if_true]
       refine (askK_of (want_ok K ts vars kn j (by omega) (by omega) _) _).trans ?_
       cases isT ts j [41] <;> rfl
      ·simp only [he, decide_false, ND, if_false]; rfl
  | false =>
   simp only [ND, Bool.false_eq_true, false_and, if_false]
   refine (askK_of (take_ok K ts vars kn i (by omega) (by omega) _) _).trans ?_
   simp only [cuB, ND]
   cases hT : isT ts i [116, 114, 117, 101] with
   | true => simp only [ND, if_true]; rfl
   | false =>
    simp only [ND, Bool.false_eq_true, if_false]
    refine (askK_of (take_ok K ts vars kn i (by omega) (by omega) _) _).trans ?_
    simp only [cuB, ND]
    cases hF : isT ts i [102, 97, 108, 115, 101] with
    | true => simp only [ND, if_true]; rfl
    | false =>
     simp only [ND, Bool.false_eq_true, if_false]
     refine (askK_of (take_ok K ts vars kn i (by omega) (by omega) _) _).trans ?_
     simp only [cuB, ND, h33]
     simp only [ND, Bool.false_eq_true, if_false]
     refine (askK_of (take_ok K ts vars kn i (by omega) (by omega) _) _).trans ?_
     simp only [cuB, ND, h40, Bool.false_eq_true, if_false]
     refine (askK_of (compare_ok K Kb L H vars kn hv i hi) _).trans ?_
     rcases cmpP ts vars kn i with ⟨j, e, ⟨k, l, r, o, p, q, ks⟩⟩
     rfl
omit K Kb L H hv in
theorem faila (ts : List Tk) (vars : List ByteArray) (kn : Bool) : ∀ (n : Nat) (x : Tr) (i d : Nat), (if (jbP ts vars kn n (.bothL x) i d).2.1 = 0 then jbP ts vars kn n (.bothL x) i d else failT (jbP ts vars kn n (.bothL x) i d)) = jbP ts vars kn n (.bothL x) i d := by
 intro n
 induction n with
 | zero => intro x i d; rfl
 | succ n ih =>
  intro x i d
  unfold jbP
  unfold thenT
  cases isT ts i [38] with
  | false => rfl
  | true =>
   rw [if_pos rfl]
   by_cases he : (jbP ts vars kn n .one (i + 1) d).2.1 = 0
   ·rw [if_pos he]
    exact ih _ _ _
   ·rw [if_neg he]
    unfold failT
    rw [if_neg he]
theorem loop_stepa (n : Nat) (ih : ∀ (j : Jb) (i d : Nat), i ≤ ts.length → d ≤ 60 → needJ ts j i ≤ n → okJ D ts vars kn j i d (jbP ts vars kn n j i d)) (x : Tr) (i d : Nat) (hi : i ≤ ts.length) (hd : d ≤ 60) (hn : needJ ts (.bothL x) i ≤ n + 1) : okJ D ts vars kn (.bothL x) i d (jbP ts vars kn (n + 1) (.bothL x) i d) := by
 have hl := H.len
 unfold okJ jbP
 dsimp only
 obtain ⟨k1, l1, r1, o1, p1, v1, ks1⟩ := x
 cases hT : isT ts i [38] with
 | false =>
  refine ⟨_, fun _ => rfl, ?_⟩
  refine Kb.lp' hn164 _ rfl (by kernel_rfl) ((e164a_0 ..).trans ?_)
  refine (br_eqT rfl).trans ?_
  refine (askK_of (take_ok K ts vars kn i (by omega) (by omega) _) _).trans ?_
  simp only [cuB, ND, hT]
  rfl
 | true =>
  rw [if_pos rfl]
  have hlt := H.isT hT
  have g := ih .one (i + 1) d (by omega) hd (by simp only [needJ] at hn ⊢; omega)
  have f : Far ts (i + 1) _ _ := jbP_far H vars kn n .one (i + 1) d (by omega)
  revert f g
  rcases jbP ts vars kn n .one (i + 1) d with ⟨j, e, t⟩
  intro g f
  have hj : j ≤ ts.length := f.le
  have hg : i + 1 ≤ j := f.ge
  unfold thenT
  dsimp only
  unfold okJ at g
  by_cases he : e = 0
  ·subst he
   rw [if_pos rfl]
   obtain ⟨y, hy, h4⟩ := ih (.bothL (.mk 4 [] [] 0 (bstr []) (bstr []) [.mk k1 l1 r1 o1 p1 v1 ks1, t])) j d hj hd (by simp only [needJ] at hn ⊢; omega)
   refine ⟨y, hy, ?_⟩
   refine Kb.lp' hn164 _ rfl (by kernel_rfl) ((e164a_0 ..).trans ?_)
   refine (br_eqT rfl).trans ?_
   refine (askK_of (take_ok K ts vars kn i (by omega) (by omega) _) _).trans ?_
   simp only [cuB, ND, hT, if_true]
   refine (askK_of g _).trans ?_
   obtain ⟨k, l, r, o, p, v, ks⟩ := t
   simp only [eTr, cuB, ND]
   refine (br_eqT rfl).trans ?_
   refine (askK_of h4 _).trans ?_
   obtain ⟨k, l, r, o, p, v, ks⟩ := y
   rfl
  ·rw [if_neg he]
   refine ⟨.mk k1 l1 r1 o1 p1 v1 ks1, fun h => absurd h he, ?_⟩
   refine Kb.lp' hn164 _ rfl (by kernel_rfl) ((e164a_0 ..).trans ?_)
   refine (br_eqT rfl).trans ?_
   refine (askK_of (take_ok K ts vars kn i (by omega) (by omega) _) _).trans ?_
   simp only [cuB, ND, hT, if_true]
   refine (askK_of g _).trans ?_
   obtain ⟨k, l, r, o, p, v, ks⟩ := t
   simp only [eTr, cuB, ND]
   refine (br_eqF (by omega)).trans ?_
   refine (askK_of (row_erra Kb ts vars kn j d e (.mk k1 l1 r1 o1 p1 v1 ks1) he) _).trans ?_
   rfl
theorem all_stepa (n : Nat) (ih : ∀ (j : Jb) (i d : Nat), i ≤ ts.length → d ≤ 60 → needJ ts j i ≤ n → okJ D ts vars kn j i d (jbP ts vars kn n j i d)) (i d : Nat) (hi : i ≤ ts.length) (hd : d ≤ 60) (hn : needJ ts .both i ≤ n + 1) : okJ D ts vars kn .both i d (jbP ts vars kn (n + 1) .both i d) := by
 have g := ih .one i d hi hd (by simp only [needJ] at hn ⊢; omega)
 have f : Far ts i _ _ := jbP_far H vars kn n .one i d hi
 have hr : jbP ts vars kn (n + 1) .both i d = thenT (jbP ts vars kn n .one i d) fun j x => jbP ts vars kn n (.bothL x) j d := rfl
 rw [hr]
 revert f g
 rcases jbP ts vars kn n .one i d with ⟨j, e, t⟩
 intro g f
 have hj : j ≤ ts.length := f.le
 unfold okJ at g
 unfold okJ thenT
 dsimp only at g f ⊢
 refine Kb.fn' hn165 _ rfl ((e165 ..).trans ?_)
 have hrow := row_oka Kb ts vars kn i d j e t (if e = 0 then jbP ts vars kn n (.bothL t) j d else failT (j, e, t)) g (fun he => by rw [if_neg he]; rfl) (fun he => by
  have hg := f.gt he
  have g2 := ih (.bothL t) j d hj hd (by simp only [needJ] at hn ⊢; omega)
  refine ⟨jbP ts vars kn n (.bothL t) j d, ?_, g2⟩
  rw [if_pos he]
  exact (faila ts vars kn n t j d).symm)
 refine (askK_of hrow _).trans ?_
 rcases (if e = 0 then jbP ts vars kn n (.bothL t) j d else failT (j, e, t)) with ⟨j2, e2, ⟨k, l, r, o, p, v, ks⟩⟩
 rfl
omit K Kb L H hv in
theorem failb (ts : List Tk) (vars : List ByteArray) (kn : Bool) : ∀ (n : Nat) (x : Tr) (i d : Nat), (if (jbP ts vars kn n (.condL x) i d).2.1 = 0 then jbP ts vars kn n (.condL x) i d else failT (jbP ts vars kn n (.condL x) i d)) = jbP ts vars kn n (.condL x) i d := by
 intro n
 induction n with
 | zero => intro x i d; rfl
 | succ n ih =>
  intro x i d
  unfold jbP
  unfold thenT
  cases isT ts i [124] with
  | false => rfl
  | true =>
   rw [if_pos rfl]
   by_cases he : (jbP ts vars kn n .both (i + 1) d).2.1 = 0
   ·rw [if_pos he]
    exact ih _ _ _
   ·rw [if_neg he]
    unfold failT
    rw [if_neg he]
theorem loop_stepb (n : Nat) (ih : ∀ (j : Jb) (i d : Nat), i ≤ ts.length → d ≤ 60 → needJ ts j i ≤ n → okJ D ts vars kn j i d (jbP ts vars kn n j i d)) (x : Tr) (i d : Nat) (hi : i ≤ ts.length) (hd : d ≤ 60) (hn : needJ ts (.condL x) i ≤ n + 1) : okJ D ts vars kn (.condL x) i d (jbP ts vars kn (n + 1) (.condL x) i d) := by
 have hl := H.len
 unfold okJ jbP
 dsimp only
 obtain ⟨k1, l1, r1, o1, p1, v1, ks1⟩ := x
 cases hT : isT ts i [124] with
 | false =>
  refine ⟨_, fun _ => rfl, ?_⟩
  refine Kb.lp' hn164 _ rfl (by kernel_rfl) ((e164b_0 ..).trans ?_)
  refine (br_eqT rfl).trans ?_
  refine (askK_of (take_ok K ts vars kn i (by omega) (by omega) _) _).trans ?_
  simp only [cuB, ND, hT]
  rfl
 | true =>
  rw [if_pos rfl]
  have hlt := H.isT hT
  have g := ih .both (i + 1) d (by omega) hd (by simp only [needJ] at hn ⊢; omega)
  have f : Far ts (i + 1) _ _ := jbP_far H vars kn n .both (i + 1) d (by omega)
  revert f g
  rcases jbP ts vars kn n .both (i + 1) d with ⟨j, e, t⟩
  intro g f
  have hj : j ≤ ts.length := f.le
  have hg : i + 1 ≤ j := f.ge
  unfold thenT
  dsimp only
  unfold okJ at g
  by_cases he : e = 0
  ·subst he
   rw [if_pos rfl]
   obtain ⟨y, hy, h4⟩ := ih (.condL (.mk 5 [] [] 0 (bstr []) (bstr []) [.mk k1 l1 r1 o1 p1 v1 ks1, t])) j d hj hd (by simp only [needJ] at hn ⊢; omega)
   refine ⟨y, hy, ?_⟩
   refine Kb.lp' hn164 _ rfl (by kernel_rfl) ((e164b_0 ..).trans ?_)
   refine (br_eqT rfl).trans ?_
   refine (askK_of (take_ok K ts vars kn i (by omega) (by omega) _) _).trans ?_
   simp only [cuB, ND, hT, if_true]
   refine (askK_of g _).trans ?_
   obtain ⟨k, l, r, o, p, v, ks⟩ := t
   simp only [eTr, cuB, ND]
   refine (br_eqT rfl).trans ?_
   refine (askK_of h4 _).trans ?_
   obtain ⟨k, l, r, o, p, v, ks⟩ := y
   rfl
  ·rw [if_neg he]
   refine ⟨.mk k1 l1 r1 o1 p1 v1 ks1, fun h => absurd h he, ?_⟩
   refine Kb.lp' hn164 _ rfl (by kernel_rfl) ((e164b_0 ..).trans ?_)
   refine (br_eqT rfl).trans ?_
   refine (askK_of (take_ok K ts vars kn i (by omega) (by omega) _) _).trans ?_
   simp only [cuB, ND, hT, if_true]
   refine (askK_of g _).trans ?_
   obtain ⟨k, l, r, o, p, v, ks⟩ := t
   simp only [eTr, cuB, ND]
   refine (br_eqF (by omega)).trans ?_
   refine (askK_of (row_errb Kb ts vars kn j d e (.mk k1 l1 r1 o1 p1 v1 ks1) he) _).trans ?_
   rfl
theorem all_stepb (n : Nat) (ih : ∀ (j : Jb) (i d : Nat), i ≤ ts.length → d ≤ 60 → needJ ts j i ≤ n → okJ D ts vars kn j i d (jbP ts vars kn n j i d)) (i d : Nat) (hi : i ≤ ts.length) (hd : d ≤ 60) (hn : needJ ts .cond i ≤ n + 1) : okJ D ts vars kn .cond i d (jbP ts vars kn (n + 1) .cond i d) := by
 have g := ih .both i d hi hd (by simp only [needJ] at hn ⊢; omega)
 have f : Far ts i _ _ := jbP_far H vars kn n .both i d hi
 have hr : jbP ts vars kn (n + 1) .cond i d = thenT (jbP ts vars kn n .both i d) fun j x => jbP ts vars kn n (.condL x) j d := rfl
 rw [hr]
 revert f g
 rcases jbP ts vars kn n .both i d with ⟨j, e, t⟩
 intro g f
 have hj : j ≤ ts.length := f.le
 unfold okJ at g
 unfold okJ thenT
 dsimp only at g f ⊢
 refine Kb.fn' hn104 _ rfl ((e104 ..).trans ?_)
 have hrow := row_okb Kb ts vars kn i d j e t (if e = 0 then jbP ts vars kn n (.condL t) j d else failT (j, e, t)) g (fun he => by rw [if_neg he]; rfl) (fun he => by
  have hg := f.gt he
  have g2 := ih (.condL t) j d hj hd (by simp only [needJ] at hn ⊢; omega)
  refine ⟨jbP ts vars kn n (.condL t) j d, ?_, g2⟩
  rw [if_pos he]
  exact (failb ts vars kn n t j d).symm)
 refine (askK_of hrow _).trans ?_
 rcases (if e = 0 then jbP ts vars kn n (.condL t) j d else failT (j, e, t)) with ⟨j2, e2, ⟨k, l, r, o, p, v, ks⟩⟩
 rfl
theorem jb_ok : ∀ (n : Nat) (j : Jb) (i d : Nat), i ≤ ts.length → d ≤ 60 → needJ ts j i ≤ n → okJ D ts vars kn j i d (jbP ts vars kn n j i d) := by
 intro n
 induction n with
 | zero => intro j i d _ _ hn; cases j <;> simp [needJ] at hn
 | succ n ih =>
  intro j i d hi hd hn
  cases j with
  | one => exact one_step K Kb L H vars kn hv n ih i d hi hd hn
  | both => exact all_stepa K Kb L H vars kn hv n ih i d hi hd hn
  | cond => exact all_stepb K Kb L H vars kn hv n ih i d hi hd hn
  | bothL x => exact loop_stepa K Kb L H vars kn hv n ih x i d hi hd hn
  | condL x => exact loop_stepb K Kb L H vars kn hv n ih x i d hi hd hn
end
end Go.Proofs.YtlmhajfbpplpoaaGreat
namespace Go.Proofs.YtlmhajfbpplpoaaGreat
open Go.RowKit

theorem br_seqT {a b : ByteArray} (h : a = b) {x y : KR} : br (realA.seq a b) x y = x := by rw [r_seq, decide_eq_true h]; rfl
section
variable {ts : List Tk} {vars : List ByteArray} {kn : Bool} {k : Nat} {out : List Mo} {neg : Bool} {i j e : Nat} {m : Mo}
end
section
variable {D : Orc}
end
end Go.Proofs.YtlmhajfbpplpoaaGreat
namespace Go.Proofs.YtlmhajfbpplpoaaGreat
open Go.RowKit

section
variable {D : Orc}
theorem br_ltT {a b : Int} (h : a < b) {x y : KR} : br (realA.lt a b) x y = x := by rw [r_lt, decide_eq_true h]; rfl
theorem br_ltF {a b : Int} (h : ¬ a < b) {x y : KR} : br (realA.lt a b) x y = y := by rw [r_lt, decide_eq_false h]; rfl
end
end Go.Proofs.YtlmhajfbpplpoaaGreat
namespace Go.Proofs.YtlmhajfbpplpoaaGreat
open Go.RowKit

set_option linter.unusedSectionVars false
section
variable {D : Orc}
variable (K : Knows ownC tabRa D) (L : RNameF D) {ts : List Tk} (H : Toks ts) (hnum : ∀ i, (nx ts i).kind = 3 → (nx ts i).text ≠ []) (vars : List ByteArray) (kn : Bool) (hv : vars.length < 4611686018427387904)
include K L H hnum hv
end
end Go.Proofs.YtlmhajfbpplpoaaGreat
namespace Go.Proofs.YtlmhajfbpplpoaaGreat
open Go.RowKit

section
variable {ts : List Tk} (H : Toks ts) {i : Nat} (he : ts.length ≤ i)
include H he
theorem isT_end (s : List UInt8) : isT ts i s = false := by
 cases h : isT ts i s with
 | false => rfl
 | true => have := H.isT h; omega
theorem begP_end : begP ts i = false := by
 unfold begP isN
 rw [H.past he]
 rfl
theorem sumP_end (vars : List ByteArray) (kn : Bool) : sumP ts vars kn i = (i, 101, []) := by
 unfold sumP
 rw [isT_end H he, if_neg (by simp)]
 unfold sumL
 rw [if_pos (begP_end H he)]
end
def condP (ts : List Tk) (vars : List ByteArray) (kn : Bool) (i : Nat) : Nat × Nat × Tr := if i ≤ ts.length then jbP ts vars kn (4 * ts.length + 3) .cond i 0 else (i, 101, T0)
section
variable {D : Orc} {ts : List Tk} (H : Toks ts) {i : Nat} (he : ts.length ≤ i) (hi : i + 300 < 4611686018427387904) (vars : List ByteArray) (kn : Bool) (hv : vars.length < 4611686018427387904) (d : Nat)
include H he hi hv
theorem compare_end (K : Knows ownC tabEa D) (Kb : Knows ownC tabEb D) (L : NameF D) : D.ask (.fn 249) [.ptr 0 0] [cuB ts vars kn i] = some (.tup [.agg (eTr T0), iv 101], [.set (cuB ts vars kn i)]) := by
 have hl := H.len
 have g := sum_ok K L ts vars kn (by omega) hv H.short i hi
 rw [sumP_end H he vars kn] at g
 refine Kb.fn' hn249 _ rfl ((e249 ..).trans ?_)
 refine (askK_of g _).trans ?_
 rfl
theorem one_end (K : Knows ownC tabEa D) (Kb : Knows ownC tabEb D) (L : NameF D) : D.ask (.fn 220) [.ptr 0 0, iv (d : Int)] [cuB ts vars kn i] = some (.tup [.agg (eTr T0), iv 101], [.set (cuB ts vars kn i)]) := by
 have hl := H.len
 have t0 := fun s => is_ok K ts vars kn i (by omega) (by omega) s
 have t1 := fun s => take_ok K ts vars kn i (by omega) (by omega) s
 simp only [isT_end H he, Bool.false_eq_true, if_false] at t0 t1
 refine Kb.fn' hn220 _ rfl ((e220 ..).trans ?_)
 refine (askK_of (t0 _) _).trans ?_
 simp only [cuB, ND]
 refine (askK_of (t0 _) _).trans ?_
 simp only [cuB, ND]
 refine (askK_of (t1 _) _).trans ?_
 simp only [cuB, ND]
 refine (askK_of (t1 _) _).trans ?_
 simp only [cuB, ND]
 refine (askK_of (t1 _) _).trans ?_
 simp only [cuB, ND]
 refine (askK_of (t1 _) _).trans ?_
 simp only [cuB, ND]
 refine (askK_of (compare_end H he hi vars kn hv K Kb L) _).trans ?_
 rfl
theorem both_end (K : Knows ownC tabEa D) (Kb : Knows ownC tabEb D) (L : NameF D) : D.ask (.fn 165) [.ptr 0 0, iv (d : Int)] [cuB ts vars kn i] = some (.tup [.agg (eTr T0), iv 101], [.set (cuB ts vars kn i)]) := by
 refine Kb.fn' hn165 _ rfl ((e165 ..).trans ?_)
 refine (askK_of (row_oka Kb ts vars kn i d i 101 T0 (i, 101, T0) (one_end H he hi vars kn hv d K Kb L) (fun _ => rfl) (fun h => absurd h (by simp))) _).trans ?_
 rfl
theorem cond_end (K : Knows ownC tabEa D) (Kb : Knows ownC tabEb D) (L : NameF D) : D.ask (.fn 104) [.ptr 0 0, iv (d : Int)] [cuB ts vars kn i] = some (.tup [.agg (eTr T0), iv 101], [.set (cuB ts vars kn i)]) := by
 refine Kb.fn' hn104 _ rfl ((e104 ..).trans ?_)
 refine (askK_of (row_okb Kb ts vars kn i d i 101 T0 (i, 101, T0) (both_end H he hi vars kn hv d K Kb L) (fun _ => rfl) (fun h => absurd h (by simp))) _).trans ?_
 rfl
variable (hnum : ∀ i, (nx ts i).kind = 3 → (nx ts i).text ≠ [])
include hnum
end
section
variable {D : Orc} {ts : List Tk} (H : Toks ts) (i : Nat) (hi : i + 300 < 4611686018427387904) (vars : List ByteArray) (kn : Bool) (hv : vars.length < 4611686018427387904)
include H hi hv
theorem condAt_ok (K : Knows ownC tabEa D) (Kb : Knows ownC tabEb D) (L : NameF D) : D.ask (.fn 54) [.ptr 0 0] [cuB ts vars kn i] = some (.tup [.agg (eTr (condP ts vars kn i).2.2), iv ((condP ts vars kn i).2.1 : Int)], [.set (cuB ts vars kn (condP ts vars kn i).1)]) := by
 refine Kb.fn' hn54 _ rfl ((e54 ..).trans ?_)
 unfold condP
 by_cases h : i ≤ ts.length
 ·have g := jb_ok K Kb L H vars kn hv (4 * ts.length + 3) .cond i 0 h (by omega) (by simp only [needJ]; omega)
  rw [if_pos h]
  refine (askK_of g _).trans ?_
  rcases jbP ts vars kn (4 * ts.length + 3) .cond i 0 with ⟨j2, e2, ⟨k, l, r, o, p, v, ks⟩⟩
  rfl
 ·rw [if_neg h]
  refine (askK_of (cond_end H (by omega) hi vars kn hv 0 K Kb L) _).trans ?_
  rfl
end
end Go.Proofs.YtlmhajfbpplpoaaGreat
