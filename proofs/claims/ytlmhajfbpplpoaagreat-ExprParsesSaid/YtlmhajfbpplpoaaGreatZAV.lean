/-
  What the reference's small functions over a tape come to.
  What the cursor's sums come to.
  Functions of the program as trees: what a call comes to.
  What the cursor's conditions come to.
  What the cursor's jobs come to.
  What the reference's sums come to.
  What the reference's comparisons come to.
  What the reference's conditions come to.
  Sums and conditions from any place on, behind the end too: the cursor's and the reference's.
  Functions of the program as trees: what a call comes to.
-/
import Derived.Test.YtlmhajfbpplpoaaGreatZAU
import Derived.Test.YtlmhajfbpplpoaaGreatZAS
set_option linter.unusedSectionVars false
set_option linter.unusedSimpArgs false
set_option linter.unusedVariables false
namespace Go.Proofs.YtlmhajfbpplpoaaGreat
open Go.RowKit

section
variable {D : Orc}
structure RNameF (D : Orc) : Prop where
 name : ∀ s : List UInt8, s.length < 4611686018427387904 → D.ask (.fn 77) [sv (bstr s)] [] = some (bv (nameB s), [])
theorem place_lp (K : Knows ownC tabRa D) (xs : List ByteArray) (hx : xs.length < 4611686018427387904) (s : ByteArray) : ∀ (k i : Nat), xs.length - i = k → D.ask (.lp 121 0) [.ls (xs.map eS), sv s, iv (i : Int)] [] = some (placeR i ((xs.drop i).findIdx? (s = ·)), []) := by
 intro k
 induction k with
 | zero =>
  intro i hi
  refine K.lp' hn121 _ rfl (by kernel_rfl) ((e121_0 ..).trans ?_)
  have : xs.drop i = [] := List.drop_eq_nil_of_le (by omega)
  simp only [r_lt, lenR_map, this, br_if]
  rw [if_neg (by simp; omega)]
  rfl
 | succ k ih =>
  intro i hi
  have hlt : i < xs.length := by omega
  refine K.lp' hn121 _ rfl (by kernel_rfl) ((e121_0 ..).trans ?_)
  have e1 : xs.drop i = xs[i] :: xs.drop (i + 1) := List.drop_eq_getElem_cons hlt
  have ih' := ih (i + 1) (by omega)
  have e2 : realA.add .i64 (i : Int) 1 = ((i + 1 : Nat) : Int) := add1 (by omega)
  simp only [r_lt, lenR_map, unI_n, nthK_map, List.getElem?_eq_getElem hlt, eS, cStr_sv, unNil_nil, r_seq, e2, br_if]
  rw [if_pos (by simpa using hlt), e1, List.findIdx?_cons]
  by_cases h : s = xs[i]
  ·simp [← h, placeR]
  ·rw [if_neg (by simpa using fun e => h e.symm), if_neg (by simpa using h)]
   refine (askK_of ih' _).trans ?_
   cases (xs.drop (i + 1)).findIdx? (s = ·) with
   | none => rfl
   | some j =>
    simp only [placeR, Option.map_some, show i + (j + 1) = i + 1 + j by omega]
    rfl
theorem place_ok (K : Knows ownC tabRa D) (xs : List ByteArray) (hx : xs.length < 4611686018427387904) (s : ByteArray) : D.ask (.fn 121) [.ls (xs.map eS), sv s] [] = some (iv (placeI (xs.findIdx? (s = ·))), []) := by
 refine K.fn' hn121 _ rfl ((e121 ..).trans ?_)
 refine (askK_of (place_lp K xs hx s _ 0 rfl) _).trans ?_
 rw [List.drop_zero]
 cases xs.findIdx? (s = ·) with
 | none => rfl
 | some j => simp only [placeR, ND, Nat.zero_add]; rfl
theorem in_ok (K : Knows ownC tabRa D) (xs : List ByteArray) (hx : xs.length < 4611686018427387904) (s : ByteArray) : D.ask (.fn 103) [.ls (xs.map eS), sv s] [] = some (bv (decide (s ∈ xs)), []) := by
 refine K.fn' hn103 _ rfl ((e103 ..).trans ?_)
 refine (askK_of (place_ok K xs hx s) _).trans ?_
 simp only [ND, r_le, placeI_mem]
 cases decide (s ∈ xs) <;> rfl
theorem next_ok (K : Knows ownC tabRa D) (ts : List Tk) (vars : List ByteArray) (kn : Bool) (i : Nat) (hts : ts.length < 4611686018427387904) : D.ask (.fn 101) [cuA ts vars kn i] [] = some (.agg (eTk (nx ts i)), []) := by
 refine K.fn' hn101 _ rfl ((e101 ..).trans ?_)
 simp only [r_eq, r_lt, r_le, lenR_map, br_if]
 by_cases h0 : ts = []
 ·subst h0
  rw [if_pos (by simp)]
  rfl
 ·have hl : 0 < ts.length := List.length_pos_iff.2 h0
  rw [if_neg (by simp [h0]), if_neg (by simp)]
  unfold nx
  by_cases h : i < ts.length
  ·rw [if_neg (by simp; omega), unI_n, nthK_some (List.getElem?_eq_getElem h), List.getElem?_eq_getElem h]
   simp only [eTk, ND]
  ·have e1 : realA.sub .i64 (ts.length : Int) 1 = ((ts.length - 1 : Nat) : Int) := by rw [r_sub (by omega) (by omega)]; omega
   rw [if_pos (by simp; omega), e1, unI_n, nthK_some (nth_last ts h0 ⟨5, [], 0, 0⟩), List.getElem?_eq_none (show ts.length ≤ i by omega)]
   simp only [eTk, ND]
theorem tis_ok (K : Knows ownC tabRa D) (ts : List Tk) (vars : List ByteArray) (kn : Bool) (i : Nat) (hts : ts.length < 4611686018427387904) (s : List UInt8) : D.ask (.fn 99) [cuA ts vars kn i, sv (bstr s)] [] = some (bv (isT ts i s), []) := by
 refine K.fn' hn99 _ rfl ((e99 ..).trans ?_)
 refine (askK_of (next_ok K ts vars kn i hts) _).trans ?_
 unfold isT
 simp only [eTk, ND, ci0, ci1, ci2, ci3, ci4, ci5, ci6, r_lt, r_le, r_eq, r_seq, r_slen, r_cat, r_beq, br_if, bstr_inj]
 by_cases h1 : (nx ts i).text = s <;> by_cases h2 : (nx ts i).kind = 1 <;> by_cases h3 : (nx ts i).kind = 2 <;> by_cases h4 : (nx ts i).kind = 4 <;> simp [h1, h2, h3, h4]
theorem on_ok (K : Knows ownC tabRa D) (ts : List Tk) (vars : List ByteArray) (kn : Bool) (i : Nat) (hi : i < 4611686018427387904) : D.ask (.fn 100) [cuA ts vars kn i] [] = some (cuA ts vars kn (i + 1), []) := by
 refine K.fn' hn100 _ rfl ((e100 ..).trans ?_)
 rw [add1 hi]
 rfl
theorem tname_ok (K : Knows ownC tabRa D) (L : RNameF D) (ts : List Tk) (vars : List ByteArray) (kn : Bool) (i : Nat) (hts : ts.length < 4611686018427387904) (hs : ShortT ts) : D.ask (.fn 102) [cuA ts vars kn i] [] = some (bv (isN ts i), []) := by
 refine K.fn' hn102 _ rfl ((e102 ..).trans ?_)
 refine (askK_of (next_ok K ts vars kn i hts) _).trans ?_
 unfold isN
 simp only [eTk, ND, ci0, ci1, ci2, ci3, ci4, ci5, ci6, r_lt, r_le, r_eq, r_seq, r_slen, r_cat, r_beq]
 by_cases h : (nx ts i).kind = 1
 ·simp only [h, decide_true, ND]
  refine (askK_of (L.name _ (hs i)) _).trans ?_
  simp only [ND]
  cases nameB (nx ts i).text <;> rfl
 ·simp only [h, decide_false, ND]
  rfl
end
end Go.Proofs.YtlmhajfbpplpoaaGreat
namespace Go.Proofs.YtlmhajfbpplpoaaGreat
open Go.RowKit

section
variable {D : Orc}
theorem eMo_len (m : Mo) : (eMo m).length = 3 := rfl
theorem begP_mono {ts : List Tk} {vars : List ByteArray} {kn : Bool} {i : Nat} {neg : Bool} (h : begP ts i = false) : (monoP ts vars kn i neg).1 = i ∧ (monoP ts vars kn i neg).2.1 = 101 := by
 unfold begP at h
 simp only [Bool.or_eq_false_iff, decide_eq_false_iff_not] at h
 unfold monoP varP
 rw [if_neg h.1, if_pos h.2]
 exact ⟨rfl, rfl⟩
theorem sum_lp (K : Knows ownC tabEa D) (L : NameF D) (ts : List Tk) (vars : List ByteArray) (kn : Bool) (hts : ts.length < 4611686018427387904) (hv : vars.length < 4611686018427387904) (hs : ShortT ts) : ∀ (k : Nat) (out : List Mo) (neg : Bool) (i : Nat), out.length + k = 64 → i + 4 * (k + 1) < 4611686018427387904 →
  D.ask (.lp 49 0) [.ptr 0 0, .sl 1 0 out.length 3, bv neg] [cuB ts vars kn i, ABlk.mk (rowC eMo out) true true] = some (.tup [bv true, .ptr 0 0, .ls ((sumL ts vars kn k out neg i).2.2.map eMo), iv ((sumL ts vars kn k out neg i).2.1 : Int)], [.set (cuB ts vars kn (sumL ts vars kn k out neg i).1), .del]) := by
 intro k
 induction k with
 | zero =>
  intro out neg i hk hi
  refine K.lp' hn49 _ rfl (by kernel_rfl) ((e49_0 ..).trans ?_)
  have h64 : decide ((out.length : Int) = 64) = true := by simp; omega
  simp only [r_eq, h64, br_t]
  refine (askK_of (begins_ok K L ts vars kn i hts hs (by omega)) _).trans ?_
  simp only [cuB, ND]
  unfold sumL
  cases hb : begP ts i with
  | true => rfl
  | false =>
   simp only [ND]
   refine (askK_of (mono_ok K L ts vars kn i hts hv hs (by omega) neg) _).trans ?_
   obtain ⟨h1, h2⟩ := begP_mono (vars := vars) (kn := kn) (neg := neg) hb
   simp only [cuB, eMo, ND, h1, h2]
   rfl
 | succ k ih =>
  intro out neg i hk hi
  refine K.lp' hn49 _ rfl (by kernel_rfl) ((e49_0 ..).trans ?_)
  have h64 : decide ((out.length : Int) = 64) = false := by simp; omega
  simp only [r_eq, h64, br_f]
  refine (askK_of (mono_ok K L ts vars kn i hts hv hs (by omega) neg) _).trans ?_
  have hle := monoP_le ts vars kn i neg
  cases hb : begP ts i with
  | false =>
   obtain ⟨h1, h2⟩ := begP_mono (vars := vars) (kn := kn) (neg := neg) hb
   have e : sumL ts vars kn (k + 1) out neg i = (i, 101, []) := by unfold sumL; rw [if_pos hb]
   rw [e]
   simp only [cuB, eMo, ND, h1, h2]
   rfl
  | true =>
   by_cases he : (monoP ts vars kn i neg).2.1 = 0
   ·have e3 : List.drop 0 (List.take (0 + out.length * 3) (rowC eMo out)) ++ [bv (monoP ts vars kn i neg).2.2.neg, sv (monoP ts vars kn i neg).2.2.num, sv (monoP ts vars kn i neg).2.2.var] = rowC eMo (out ++ [(monoP ts vars kn i neg).2.2]) := by
     rw [List.drop_zero, rowC_all eMo_len out (by omega)]
     exact rowC_snoc eMo out _
    have hf : fitsB (out.length + 1) 40 = true := fits_small (by omega) (by omega)
    have hb1 : Nat.ble (0 + out.length * 3) (rowC eMo out).length = true := ble_row eMo_len out (by omega)
    have hd : decide (((monoP ts vars kn i neg).2.1 : Int) = 0) = true := by rw [he]; rfl
    have hb2 : Nat.ble (0 + (out.length + 1) * 3) (rowC eMo (out ++ [(monoP ts vars kn i neg).2.2])).length = true := ble_row eMo_len _ (by simp)
    have hc : chunk (out.length + 1) 3 (List.take ((out.length + 1) * 3) (List.drop 0 (rowC eMo (out ++ [(monoP ts vars kn i neg).2.2])))) = (out ++ [(monoP ts vars kn i neg).2.2]).map eMo := by
     rw [List.drop_zero]
     exact chunk_of eMo_len _ (by simp)
    simp only [cuB, eMo, ND, r_eq, hd, hf, hb1, e3, hb2, hc]
    refine (askK_of (is_ok K ts vars kn _ hts (by omega) _) _).trans ?_
    have ih1 := ih (out ++ [(monoP ts vars kn i neg).2.2]) true ((monoP ts vars kn i neg).1 + 1) (by simp; omega) (by omega)
    have ih2 := ih (out ++ [(monoP ts vars kn i neg).2.2]) false ((monoP ts vars kn i neg).1 + 1) (by simp; omega) (by omega)
    rw [List.length_append, List.length_singleton] at ih1 ih2
    have e : sumL ts vars kn (k + 1) out neg i = if isT ts (monoP ts vars kn i neg).1 [45] then sumL ts vars kn k (out ++ [(monoP ts vars kn i neg).2.2]) true ((monoP ts vars kn i neg).1 + 1)
      else if isT ts (monoP ts vars kn i neg).1 [43] then sumL ts vars kn k (out ++ [(monoP ts vars kn i neg).2.2]) false ((monoP ts vars kn i neg).1 + 1)
      else ((monoP ts vars kn i neg).1, 0, out ++ [(monoP ts vars kn i neg).2.2]) := by
     rw [sumL, hb, if_neg (by simp)]
     rw [if_neg (by simp [he])]
    rw [e]
    simp only [cuB, ND]
    have tk := take_ok K ts vars kn (monoP ts vars kn i neg).1 hts (by omega) [45]
    have tp := take_ok K ts vars kn (monoP ts vars kn i neg).1 hts (by omega) [43]
    cases h45 : isT ts (monoP ts vars kn i neg).1 [45] with
    | true =>
     rw [h45] at tk
     simp only [ND, if_true]
     refine (askK_of tk _).trans ?_
     simp only [cuB, ND, if_true]
     refine (askK_of ih1 _).trans ?_
     rfl
    | false =>
     rw [h45] at tk
     simp only [ND]
     refine (askK_of tk _).trans ?_
     simp only [cuB, ND, Bool.false_eq_true, if_false]
     refine (askK_of tp _).trans ?_
     simp only [cuB, ND]
     cases h43 : isT ts (monoP ts vars kn i neg).1 [43] with
     | true =>
      simp only [ND, if_true]
      refine (askK_of ih2 _).trans ?_
      rfl
     | false => rfl
   ·have e : sumL ts vars kn (k + 1) out neg i = ((monoP ts vars kn i neg).1, (monoP ts vars kn i neg).2.1, []) := by
     rw [sumL, hb, if_neg (by simp)]
     rw [if_pos he]
    rw [e]
    have hd : decide (((monoP ts vars kn i neg).2.1 : Int) = 0) = false := by simp; exact he
    simp only [cuB, eMo, ND, r_eq, hd]
    rfl
theorem sum_ok (K : Knows ownC tabEa D) (L : NameF D) (ts : List Tk) (vars : List ByteArray) (kn : Bool) (hts : ts.length < 4611686018427387904) (hv : vars.length < 4611686018427387904) (hs : ShortT ts) (i : Nat) (hi : i + 300 < 4611686018427387904) : D.ask (.fn 49) [.ptr 0 0] [cuB ts vars kn i] = some (.tup [.ls ((sumP ts vars kn i).2.2.map eMo), iv ((sumP ts vars kn i).2.1 : Int)], [.set (cuB ts vars kn (sumP ts vars kn i).1)]) := by
 refine K.fn' hn49 _ rfl ((e49 ..).trans ?_)
 refine (askK_of (take_ok K ts vars kn i hts (by omega) _) _).trans ?_
 unfold sumP
 simp only [cuB, ND]
 cases isT ts i [45] with
 | true =>
  simp only [ND, if_true]
  refine (askK_of (sum_lp K L ts vars kn hts hv hs 64 [] true (i + 1) rfl (by omega)) _).trans ?_
  rfl
 | false =>
  simp only [ND, Bool.false_eq_true, if_false]
  refine (askK_of (sum_lp K L ts vars kn hts hv hs 64 [] false i rfl (by omega)) _).trans ?_
  rfl
end
end Go.Proofs.YtlmhajfbpplpoaaGreat
namespace Go.Proofs.YtlmhajfbpplpoaaGreat
open Go.RowKit
def hs262 : Hints := [⟨19, [true, true, false, false, false, false, false, true, true], [], [], [(0, ([false, false, false, false, true], ([], []))), (1, ([], ([], [])))]⟩]
noncomputable def mf262 : MFn := mfD Tryz.prog entsC hs262 false true 262
def hn262 : Hnt := ⟨[(93, (.bool, [.box [.ls, .int .i64, .ls, .bool]]))], [(0, [(0, ([.int .i64], [.box [.ls, .int .i64, .ls, .bool]])), (1, ([], [.box [.ls, .int .i64, .ls, .bool]]))])], [(14, [.str]), (15, [.str])]⟩
def hs164 : Hints := [⟨46, [true, true, true, true, true, false, false, false, false, false, true, false, true, true], [], [10, 12], [(1, ([true, false, false, false, false, false, false, false, false, false, true, false, true, true], ([], [])))]⟩]
noncomputable def mf164 : MFn := mfD Tryz.prog entsC hs164 false true 164
def hn164 : Hnt := ⟨[(93, (.bool, [.box [.ls, .int .i64, .ls, .bool]])), (165, (.tup [.agg [.int .i64, .ls, .ls, .int .i64, .str, .str, .ls], .int .i64], [.box [.ls, .int .i64, .ls, .bool]])), (220, (.tup [.agg [.int .i64, .ls, .ls, .int .i64, .str, .str, .ls], .int .i64], [.box [.ls, .int .i64, .ls, .bool]]))], [(0, [(1, ([.ptr 0 0, .ptr 1 0, .ptr 2 0, .int .i64], [.box [.ls, .int .i64, .ls, .bool], .box [.int .i64, .ls, .ls, .int .i64, .str, .str, .ls], .box [.int .i64, .ls, .ls, .int .i64, .str, .str, .ls]]))])], [(37, [.int .i64, .ls, .ls, .int .i64, .str, .str, .ls]), (38, [.int .i64, .ls, .ls, .int .i64, .str, .str, .ls]), (45, [.int .i64, .ls, .ls, .int .i64, .str, .str, .ls])]⟩
def hs249 : Hints := []
noncomputable def mf249 : MFn := mfD Tryz.prog entsC hs249 false true 249
def hn249 : Hnt := ⟨[(49, (.tup [.ls, .int .i64], [.box [.ls, .int .i64, .ls, .bool]])), (90, (.ls, [])), (262, (.int .i64, [.box [.ls, .int .i64, .ls, .bool]]))], [], []⟩
def hs220 : Hints := []
noncomputable def mf220 : MFn := mfD Tryz.prog entsC hs220 false true 220
def hn220 : Hnt := ⟨[(93, (.bool, [.box [.ls, .int .i64, .ls, .bool]])), (96, (.bool, [.box [.ls, .int .i64, .ls, .bool]])), (104, (.tup [.agg [.int .i64, .ls, .ls, .int .i64, .str, .str, .ls], .int .i64], [.box [.ls, .int .i64, .ls, .bool]])), (220, (.tup [.agg [.int .i64, .ls, .ls, .int .i64, .str, .str, .ls], .int .i64], [.box [.ls, .int .i64, .ls, .bool]])), (248, (.int .i64, [.box [.ls, .int .i64, .ls, .bool]])), (249, (.tup [.agg [.int .i64, .ls, .ls, .int .i64, .str, .str, .ls], .int .i64], [.box [.ls, .int .i64, .ls, .bool]]))], [], [(46, [.int .i64, .ls, .ls, .int .i64, .str, .str, .ls]), (67, [.int .i64, .ls, .ls, .int .i64, .str, .str, .ls])]⟩
def hs165 : Hints := []
noncomputable def mf165 : MFn := mfD Tryz.prog entsC hs165 false true 165
def hn165 : Hnt := ⟨[(164, (.tup [.agg [.int .i64, .ls, .ls, .int .i64, .str, .str, .ls], .int .i64], [.box [.ls, .int .i64, .ls, .bool]]))], [], []⟩
def hs104 : Hints := []
noncomputable def mf104 : MFn := mfD Tryz.prog entsC hs104 false true 104
def hn104 : Hnt := ⟨[(164, (.tup [.agg [.int .i64, .ls, .ls, .int .i64, .str, .str, .ls], .int .i64], [.box [.ls, .int .i64, .ls, .bool]]))], [], []⟩
def hs54 : Hints := []
noncomputable def mf54 : MFn := mfD Tryz.prog entsC hs54 false true 54
def hn54 : Hnt := ⟨[(104, (.tup [.agg [.int .i64, .ls, .ls, .int .i64, .str, .str, .ls], .int .i64], [.box [.ls, .int .i64, .ls, .bool]]))], [], []⟩
noncomputable def tabEb : List (Nat × MFn) := [(262, mf262), (164, mf164), (249, mf249), (220, mf220), (165, mf165), (104, mf104), (54, mf54)]
theorem e262 (A : Ar) (D : Orc) (x0 : List (List AV)) (p_0 : List (List AV)) (p_1 : Int) (p_2 : List (List AV)) (p_3 : Bool) : fnK A D ownC hn262 .n 262 mf262 [AV.ls x0, AV.fn (Fn.func 93) [AV.ptr 0 0] []] [{ cells := [AV.ls p_0, iv p_1, AV.ls p_2, bv p_3], st := true, ex := false }] =
 askK D (Key.lp 262 0) [AV.ls x0, AV.fn (Fn.func 93) [AV.ptr 0 0] [], iv ↑(lenR x0), iv 0] [ABlk.mk [AV.ls p_0, iv p_1, AV.ls p_2, bv p_3] true false] fun r o =>
 unTup r fun cs =>
 unCons cs fun c l =>
 br (axIs 0 c)
 (cInt IntKind.i64 l fun n l1 =>
 unNil l1 <|
 unOut o fun c1 l2 =>
 unSet true false c1 fun cs1 =>
 cLs cs1 fun xs l3 =>
 cInt IntKind.i64 l3 fun n1 l4 =>
 cLs l4 fun xs1 l5 =>
 cBool l5 fun b l6 =>
 unNil l6 <|
 unEnd l2 <|
 some ((iv n, [BO.set (ABlk.mk [AV.ls xs, iv n1, AV.ls xs1, bv b] true false)])))
 (br (axIs 1 c)
 (unNil l <|
 unOut o fun c1 l1 =>
 unSet true false c1 fun cs1 =>
 cLs cs1 fun xs l2 =>
 cInt IntKind.i64 l2 fun n l3 =>
 cLs l3 fun xs1 l4 =>
 cBool l4 fun b l5 =>
 unNil l5 <|
 unEnd l1 <|
 some ((iv (-1), [BO.set (ABlk.mk [AV.ls xs, iv n, AV.ls xs1, bv b] true false)])))
 (none)) := by kernel_rfl

theorem e262_0 (A : Ar) (D : Orc) (x0 : List (List AV)) (p_0 : List (List AV)) (p_1 : Int) (p_2 : List (List AV)) (p_3 : Bool) (t7 : Int) (t8 : Int) : lpK A D ownC hn262 .n 262 0 (lpAt mf262 0).fst (lpAt mf262 0).snd [AV.ls x0, AV.fn (Fn.func 93) [AV.ptr 0 0] [], iv t7, iv t8] [{ cells := [AV.ls p_0, iv p_1, AV.ls p_2, bv p_3], st := true, ex := false }] =
 br (A.lt t8 t7)
 (unI t8 fun i =>
 nthK x0 i fun cs =>
 cStr cs fun s l =>
 unNil l <|
 askK D (Key.fn 93) [AV.ptr 0 0, sv s] [ABlk.mk [AV.ls p_0, iv p_1, AV.ls p_2, bv p_3] true false] fun r o =>
 unBool r fun b =>
 unOut o fun c l1 =>
 unSet true false c fun cs1 =>
 cLs cs1 fun xs l2 =>
 cInt IntKind.i64 l2 fun n l3 =>
 cLs l3 fun xs1 l4 =>
 cBool l4 fun b1 l5 =>
 unNil l5 <|
 unEnd l1 <|
 br b
 (some ((AV.tup [bv true, iv t8], [BO.set (ABlk.mk [AV.ls xs, iv n, AV.ls xs1, bv b1] true false)])))
 (askK D (Key.lp 262 0) [AV.ls x0, AV.fn (Fn.func 93) [AV.ptr 0 0] [], iv t7, iv (A.add IntKind.i64 t8 1)] [ABlk.mk [AV.ls xs, iv n, AV.ls xs1, bv b1] true false] fun r1 o1 =>
 tailK 1 [0] (AH.mk [(0, ABlk.mk [AV.ls xs, iv n, AV.ls xs1, bv b1] true false)] 1 none) [0] r1 o1))
 (some ((AV.tup [iv 0], [BO.keep]))) := by kernel_rfl

theorem e164a (A : Ar) (D : Orc) (p0_0 : List (List AV)) (p0_1 : Int) (p0_2 : List (List AV)) (p0_3 : Bool) (x1 : ByteArray) (x2 : Int) (x3 : Int) : fnK A D ownC hn164 .n 164 mf164 [AV.ptr 0 0, sv x1, iv x2, iv x3, AV.fn (Fn.func 220) [AV.ptr 0 0] []] [{ cells := [AV.ls p0_0, iv p0_1, AV.ls p0_2, bv p0_3], st := true, ex := false }] =
 askK D (Key.fn 220) [AV.ptr 0 0, iv x3] [ABlk.mk [AV.ls p0_0, iv p0_1, AV.ls p0_2, bv p0_3] true false] fun r o =>
 unTup r fun cs =>
 unCons cs fun c l =>
 unAgg c fun cs1 =>
 cInt IntKind.i64 cs1 fun n l1 =>
 cLs l1 fun xs l2 =>
 cLs l2 fun xs1 l3 =>
 cInt IntKind.i64 l3 fun n1 l4 =>
 cStr l4 fun s l5 =>
 cStr l5 fun s1 l6 =>
 cLs l6 fun xs2 l7 =>
 unNil l7 <|
 cInt IntKind.i64 l fun n2 l8 =>
 unNil l8 <|
 unOut o fun c1 l9 =>
 unSet true false c1 fun cs2 =>
 cLs cs2 fun xs3 l10 =>
 cInt IntKind.i64 l10 fun n3 l11 =>
 cLs l11 fun xs4 l12 =>
 cBool l12 fun b l13 =>
 unNil l13 <|
 unEnd l9 <|
 askK D (Key.lp 164 0) [AV.ptr 0 0, sv x1, iv x2, iv x3, AV.fn (Fn.func 220) [AV.ptr 0 0] [], AV.ptr 1 0, AV.ptr 2 0, iv n2] [ABlk.mk [AV.ls xs3, iv n3, AV.ls xs4, bv b] true false, ABlk.mk [iv 0, AV.ls [], AV.ls [], iv 0, sv (bstr []), sv (bstr []), AV.ls []] true false, ABlk.mk [iv n, AV.ls xs, AV.ls xs1, iv n1, sv s, sv s1, AV.ls xs2] true false] fun r1 o1 =>
 unTup r1 fun cs3 =>
 unCons cs3 fun c2 l14 =>
 br (axIs 1 c2)
 (unCons l14 fun c3 l15 =>
 unPtr 0 0 c3 <|
 unCons l15 fun c4 l16 =>
 unPtr 1 0 c4 <|
 unCons l16 fun c5 l17 =>
 unPtr 2 0 c5 <|
 cInt IntKind.i64 l17 fun n4 l18 =>
 unNil l18 <|
 unOut o1 fun c6 l19 =>
 unSet true false c6 fun cs4 =>
 cLs cs4 fun xs5 l20 =>
 cInt IntKind.i64 l20 fun n5 l21 =>
 cLs l21 fun xs6 l22 =>
 cBool l22 fun b1 l23 =>
 unNil l23 <|
 unOut l19 fun c7 l24 =>
 unSet true false c7 fun cs5 =>
 cInt IntKind.i64 cs5 fun _ l25 =>
 cLs l25 fun _ l26 =>
 cLs l26 fun _ l27 =>
 cInt IntKind.i64 l27 fun _ l28 =>
 cStr l28 fun _ l29 =>
 cStr l29 fun _ l30 =>
 cLs l30 fun _ l31 =>
 unNil l31 <|
 unOut l24 fun c8 l32 =>
 unSet true false c8 fun cs6 =>
 cInt IntKind.i64 cs6 fun n8 l33 =>
 cLs l33 fun xs10 l34 =>
 cLs l34 fun xs11 l35 =>
 cInt IntKind.i64 l35 fun n9 l36 =>
 cStr l36 fun s4 l37 =>
 cStr l37 fun s5 l38 =>
 cLs l38 fun xs12 l39 =>
 unNil l39 <|
 unEnd l32 <|
 br (A.eq n4 0)
 (some ((AV.tup [AV.agg [iv n8, AV.ls xs10, AV.ls xs11, iv n9, sv s4, sv s5, AV.ls xs12], iv 0], [BO.set (ABlk.mk [AV.ls xs5, iv n5, AV.ls xs6, bv b1] true false)])))
 (some ((AV.tup [AV.agg [iv 0, AV.ls [], AV.ls [], iv 0, sv (bstr []), sv (bstr []), AV.ls []], iv n4], [BO.set (ABlk.mk [AV.ls xs5, iv n5, AV.ls xs6, bv b1] true false)]))))
 (none) := by kernel_rfl

theorem e164a_0 (A : Ar) (D : Orc) (b0_0 : List (List AV)) (b0_1 : Int) (b0_2 : List (List AV)) (b0_3 : Bool) (t1 : ByteArray) (t2 : Int) (t3 : Int) (b10_0 : Int) (b10_1 : List (List AV)) (b10_2 : List (List AV)) (b10_3 : Int) (b10_4 : ByteArray) (b10_5 : ByteArray) (b10_6 : List (List AV)) (b12_0 : Int) (b12_1 : List (List AV)) (b12_2 : List (List AV)) (b12_3 : Int) (b12_4 : ByteArray) (b12_5 : ByteArray) (b12_6 : List (List AV)) (t13 : Int) : lpK A D ownC hn164 .n 164 0 (lpAt mf164 0).fst (lpAt mf164 0).snd [AV.ptr 0 0, sv t1, iv t2, iv t3, AV.fn (Fn.func 220) [AV.ptr 0 0] [], AV.ptr 1 0, AV.ptr 2 0, iv t13] [{ cells := [AV.ls b0_0, iv b0_1, AV.ls b0_2, bv b0_3], st := true, ex := false }, { cells := [iv b10_0, AV.ls b10_1, AV.ls b10_2, iv b10_3, sv b10_4, sv b10_5, AV.ls b10_6], st := true, ex := false }, { cells := [iv b12_0, AV.ls b12_1, AV.ls b12_2, iv b12_3, sv b12_4, sv b12_5, AV.ls b12_6], st := true, ex := false }] =
 br (A.eq t13 0)
 (askK D (Key.fn 93) [AV.ptr 0 0, sv t1] [ABlk.mk [AV.ls b0_0, iv b0_1, AV.ls b0_2, bv b0_3] true false] fun r o =>
 unBool r fun b =>
 unOut o fun c l =>
 unSet true false c fun cs =>
 cLs cs fun xs l1 =>
 cInt IntKind.i64 l1 fun n l2 =>
 cLs l2 fun xs1 l3 =>
 cBool l3 fun b1 l4 =>
 unNil l4 <|
 unEnd l <|
 br b
 (askK D (Key.fn 220) [AV.ptr 0 0, iv t3] [ABlk.mk [AV.ls xs, iv n, AV.ls xs1, bv b1] true false] fun r1 o1 =>
 unTup r1 fun cs1 =>
 unCons cs1 fun c1 l5 =>
 unAgg c1 fun cs2 =>
 cInt IntKind.i64 cs2 fun n1 l6 =>
 cLs l6 fun xs2 l7 =>
 cLs l7 fun xs3 l8 =>
 cInt IntKind.i64 l8 fun n2 l9 =>
 cStr l9 fun s l10 =>
 cStr l10 fun s1 l11 =>
 cLs l11 fun xs4 l12 =>
 unNil l12 <|
 cInt IntKind.i64 l5 fun n3 l13 =>
 unNil l13 <|
 unOut o1 fun c2 l14 =>
 unSet true false c2 fun cs3 =>
 cLs cs3 fun xs5 l15 =>
 cInt IntKind.i64 l15 fun n4 l16 =>
 cLs l16 fun xs6 l17 =>
 cBool l17 fun b2 l18 =>
 unNil l18 <|
 unEnd l14 <|
 br (A.eq n3 0)
 (askK D (Key.lp 164 0) [AV.ptr 0 0, sv t1, iv t2, iv t3, AV.fn (Fn.func 220) [AV.ptr 0 0] [], AV.ptr 1 0, AV.ptr 2 0, iv n3] [ABlk.mk [AV.ls xs5, iv n4, AV.ls xs6, bv b2] true false, ABlk.mk [iv b10_0, AV.ls b10_1, AV.ls b10_2, iv b10_3, sv b10_4, sv b10_5, AV.ls b10_6] true false, ABlk.mk [iv t2, AV.ls [], AV.ls [], iv 0, sv (bstr []), sv (bstr []), AV.ls [[iv b12_0, AV.ls b12_1, AV.ls b12_2, iv b12_3, sv b12_4, sv b12_5, AV.ls b12_6], [iv n1, AV.ls xs2, AV.ls xs3, iv n2, sv s, sv s1, AV.ls xs4]]] true false] fun r2 o2 =>
 tailK 3 [0, 1, 2] (AH.mk [(2, ABlk.mk [iv t2, AV.ls [], AV.ls [], iv 0, sv (bstr []), sv (bstr []), AV.ls [[iv b12_0, AV.ls b12_1, AV.ls b12_2, iv b12_3, sv b12_4, sv b12_5, AV.ls b12_6], [iv n1, AV.ls xs2, AV.ls xs3, iv n2, sv s, sv s1, AV.ls xs4]]] true false), (4, ABlk.mk [iv b12_0, AV.ls b12_1, AV.ls b12_2, iv b12_3, sv b12_4, sv b12_5, AV.ls b12_6, iv n1, AV.ls xs2, AV.ls xs3, iv n2, sv s, sv s1, AV.ls xs4] false true), (1, ABlk.mk [iv b10_0, AV.ls b10_1, AV.ls b10_2, iv b10_3, sv b10_4, sv b10_5, AV.ls b10_6] true false), (3, ABlk.mk [iv n1, AV.ls xs2, AV.ls xs3, iv n2, sv s, sv s1, AV.ls xs4] true false), (0, ABlk.mk [AV.ls xs5, iv n4, AV.ls xs6, bv b2] true false)] 5 none) [0, 1, 2] r2 o2)
 (askK D (Key.lp 164 0) [AV.ptr 0 0, sv t1, iv t2, iv t3, AV.fn (Fn.func 220) [AV.ptr 0 0] [], AV.ptr 1 0, AV.ptr 2 0, iv n3] [ABlk.mk [AV.ls xs5, iv n4, AV.ls xs6, bv b2] true false, ABlk.mk [iv b10_0, AV.ls b10_1, AV.ls b10_2, iv b10_3, sv b10_4, sv b10_5, AV.ls b10_6] true false, ABlk.mk [iv b12_0, AV.ls b12_1, AV.ls b12_2, iv b12_3, sv b12_4, sv b12_5, AV.ls b12_6] true false] fun r2 o2 =>
 tailK 3 [0, 1, 2] (AH.mk [(2, ABlk.mk [iv b12_0, AV.ls b12_1, AV.ls b12_2, iv b12_3, sv b12_4, sv b12_5, AV.ls b12_6] true false), (1, ABlk.mk [iv b10_0, AV.ls b10_1, AV.ls b10_2, iv b10_3, sv b10_4, sv b10_5, AV.ls b10_6] true false), (3, ABlk.mk [iv n1, AV.ls xs2, AV.ls xs3, iv n2, sv s, sv s1, AV.ls xs4] true false), (0, ABlk.mk [AV.ls xs5, iv n4, AV.ls xs6, bv b2] true false)] 4 none) [0, 1, 2] r2 o2))
 (some ((AV.tup [iv 0, AV.ptr 0 0, AV.ptr 1 0, AV.ptr 2 0, iv t13], [BO.set (ABlk.mk [AV.ls xs, iv n, AV.ls xs1, bv b1] true false), BO.set (ABlk.mk [iv b10_0, AV.ls b10_1, AV.ls b10_2, iv b10_3, sv b10_4, sv b10_5, AV.ls b10_6] true false), BO.set (ABlk.mk [iv b12_0, AV.ls b12_1, AV.ls b12_2, iv b12_3, sv b12_4, sv b12_5, AV.ls b12_6] true false)]))))
 (some ((AV.tup [iv 0, AV.ptr 0 0, AV.ptr 1 0, AV.ptr 2 0, iv t13], [BO.set (ABlk.mk [AV.ls b0_0, iv b0_1, AV.ls b0_2, bv b0_3] true false), BO.set (ABlk.mk [iv b10_0, AV.ls b10_1, AV.ls b10_2, iv b10_3, sv b10_4, sv b10_5, AV.ls b10_6] true false), BO.set (ABlk.mk [iv b12_0, AV.ls b12_1, AV.ls b12_2, iv b12_3, sv b12_4, sv b12_5, AV.ls b12_6] true false)]))) := by kernel_rfl

theorem e164b (A : Ar) (D : Orc) (p0_0 : List (List AV)) (p0_1 : Int) (p0_2 : List (List AV)) (p0_3 : Bool) (x1 : ByteArray) (x2 : Int) (x3 : Int) : fnK A D ownC hn164 .n 164 mf164 [AV.ptr 0 0, sv x1, iv x2, iv x3, AV.fn (Fn.func 165) [AV.ptr 0 0] []] [{ cells := [AV.ls p0_0, iv p0_1, AV.ls p0_2, bv p0_3], st := true, ex := false }] =
 askK D (Key.fn 165) [AV.ptr 0 0, iv x3] [ABlk.mk [AV.ls p0_0, iv p0_1, AV.ls p0_2, bv p0_3] true false] fun r o =>
 unTup r fun cs =>
 unCons cs fun c l =>
 unAgg c fun cs1 =>
 cInt IntKind.i64 cs1 fun n l1 =>
 cLs l1 fun xs l2 =>
 cLs l2 fun xs1 l3 =>
 cInt IntKind.i64 l3 fun n1 l4 =>
 cStr l4 fun s l5 =>
 cStr l5 fun s1 l6 =>
 cLs l6 fun xs2 l7 =>
 unNil l7 <|
 cInt IntKind.i64 l fun n2 l8 =>
 unNil l8 <|
 unOut o fun c1 l9 =>
 unSet true false c1 fun cs2 =>
 cLs cs2 fun xs3 l10 =>
 cInt IntKind.i64 l10 fun n3 l11 =>
 cLs l11 fun xs4 l12 =>
 cBool l12 fun b l13 =>
 unNil l13 <|
 unEnd l9 <|
 askK D (Key.lp 164 0) [AV.ptr 0 0, sv x1, iv x2, iv x3, AV.fn (Fn.func 165) [AV.ptr 0 0] [], AV.ptr 1 0, AV.ptr 2 0, iv n2] [ABlk.mk [AV.ls xs3, iv n3, AV.ls xs4, bv b] true false, ABlk.mk [iv 0, AV.ls [], AV.ls [], iv 0, sv (bstr []), sv (bstr []), AV.ls []] true false, ABlk.mk [iv n, AV.ls xs, AV.ls xs1, iv n1, sv s, sv s1, AV.ls xs2] true false] fun r1 o1 =>
 unTup r1 fun cs3 =>
 unCons cs3 fun c2 l14 =>
 br (axIs 1 c2)
 (unCons l14 fun c3 l15 =>
 unPtr 0 0 c3 <|
 unCons l15 fun c4 l16 =>
 unPtr 1 0 c4 <|
 unCons l16 fun c5 l17 =>
 unPtr 2 0 c5 <|
 cInt IntKind.i64 l17 fun n4 l18 =>
 unNil l18 <|
 unOut o1 fun c6 l19 =>
 unSet true false c6 fun cs4 =>
 cLs cs4 fun xs5 l20 =>
 cInt IntKind.i64 l20 fun n5 l21 =>
 cLs l21 fun xs6 l22 =>
 cBool l22 fun b1 l23 =>
 unNil l23 <|
 unOut l19 fun c7 l24 =>
 unSet true false c7 fun cs5 =>
 cInt IntKind.i64 cs5 fun _ l25 =>
 cLs l25 fun _ l26 =>
 cLs l26 fun _ l27 =>
 cInt IntKind.i64 l27 fun _ l28 =>
 cStr l28 fun _ l29 =>
 cStr l29 fun _ l30 =>
 cLs l30 fun _ l31 =>
 unNil l31 <|
 unOut l24 fun c8 l32 =>
 unSet true false c8 fun cs6 =>
 cInt IntKind.i64 cs6 fun n8 l33 =>
 cLs l33 fun xs10 l34 =>
 cLs l34 fun xs11 l35 =>
 cInt IntKind.i64 l35 fun n9 l36 =>
 cStr l36 fun s4 l37 =>
 cStr l37 fun s5 l38 =>
 cLs l38 fun xs12 l39 =>
 unNil l39 <|
 unEnd l32 <|
 br (A.eq n4 0)
 (some ((AV.tup [AV.agg [iv n8, AV.ls xs10, AV.ls xs11, iv n9, sv s4, sv s5, AV.ls xs12], iv 0], [BO.set (ABlk.mk [AV.ls xs5, iv n5, AV.ls xs6, bv b1] true false)])))
 (some ((AV.tup [AV.agg [iv 0, AV.ls [], AV.ls [], iv 0, sv (bstr []), sv (bstr []), AV.ls []], iv n4], [BO.set (ABlk.mk [AV.ls xs5, iv n5, AV.ls xs6, bv b1] true false)]))))
 (none) := by kernel_rfl

theorem e164b_0 (A : Ar) (D : Orc) (b0_0 : List (List AV)) (b0_1 : Int) (b0_2 : List (List AV)) (b0_3 : Bool) (t1 : ByteArray) (t2 : Int) (t3 : Int) (b10_0 : Int) (b10_1 : List (List AV)) (b10_2 : List (List AV)) (b10_3 : Int) (b10_4 : ByteArray) (b10_5 : ByteArray) (b10_6 : List (List AV)) (b12_0 : Int) (b12_1 : List (List AV)) (b12_2 : List (List AV)) (b12_3 : Int) (b12_4 : ByteArray) (b12_5 : ByteArray) (b12_6 : List (List AV)) (t13 : Int) : lpK A D ownC hn164 .n 164 0 (lpAt mf164 0).fst (lpAt mf164 0).snd [AV.ptr 0 0, sv t1, iv t2, iv t3, AV.fn (Fn.func 165) [AV.ptr 0 0] [], AV.ptr 1 0, AV.ptr 2 0, iv t13] [{ cells := [AV.ls b0_0, iv b0_1, AV.ls b0_2, bv b0_3], st := true, ex := false }, { cells := [iv b10_0, AV.ls b10_1, AV.ls b10_2, iv b10_3, sv b10_4, sv b10_5, AV.ls b10_6], st := true, ex := false }, { cells := [iv b12_0, AV.ls b12_1, AV.ls b12_2, iv b12_3, sv b12_4, sv b12_5, AV.ls b12_6], st := true, ex := false }] =
 br (A.eq t13 0)
 (askK D (Key.fn 93) [AV.ptr 0 0, sv t1] [ABlk.mk [AV.ls b0_0, iv b0_1, AV.ls b0_2, bv b0_3] true false] fun r o =>
 unBool r fun b =>
 unOut o fun c l =>
 unSet true false c fun cs =>
 cLs cs fun xs l1 =>
 cInt IntKind.i64 l1 fun n l2 =>
 cLs l2 fun xs1 l3 =>
 cBool l3 fun b1 l4 =>
 unNil l4 <|
 unEnd l <|
 br b
 (askK D (Key.fn 165) [AV.ptr 0 0, iv t3] [ABlk.mk [AV.ls xs, iv n, AV.ls xs1, bv b1] true false] fun r1 o1 =>
 unTup r1 fun cs1 =>
 unCons cs1 fun c1 l5 =>
 unAgg c1 fun cs2 =>
 cInt IntKind.i64 cs2 fun n1 l6 =>
 cLs l6 fun xs2 l7 =>
 cLs l7 fun xs3 l8 =>
 cInt IntKind.i64 l8 fun n2 l9 =>
 cStr l9 fun s l10 =>
 cStr l10 fun s1 l11 =>
 cLs l11 fun xs4 l12 =>
 unNil l12 <|
 cInt IntKind.i64 l5 fun n3 l13 =>
 unNil l13 <|
 unOut o1 fun c2 l14 =>
 unSet true false c2 fun cs3 =>
 cLs cs3 fun xs5 l15 =>
 cInt IntKind.i64 l15 fun n4 l16 =>
 cLs l16 fun xs6 l17 =>
 cBool l17 fun b2 l18 =>
 unNil l18 <|
 unEnd l14 <|
 br (A.eq n3 0)
 (askK D (Key.lp 164 0) [AV.ptr 0 0, sv t1, iv t2, iv t3, AV.fn (Fn.func 165) [AV.ptr 0 0] [], AV.ptr 1 0, AV.ptr 2 0, iv n3] [ABlk.mk [AV.ls xs5, iv n4, AV.ls xs6, bv b2] true false, ABlk.mk [iv b10_0, AV.ls b10_1, AV.ls b10_2, iv b10_3, sv b10_4, sv b10_5, AV.ls b10_6] true false, ABlk.mk [iv t2, AV.ls [], AV.ls [], iv 0, sv (bstr []), sv (bstr []), AV.ls [[iv b12_0, AV.ls b12_1, AV.ls b12_2, iv b12_3, sv b12_4, sv b12_5, AV.ls b12_6], [iv n1, AV.ls xs2, AV.ls xs3, iv n2, sv s, sv s1, AV.ls xs4]]] true false] fun r2 o2 =>
 tailK 3 [0, 1, 2] (AH.mk [(2, ABlk.mk [iv t2, AV.ls [], AV.ls [], iv 0, sv (bstr []), sv (bstr []), AV.ls [[iv b12_0, AV.ls b12_1, AV.ls b12_2, iv b12_3, sv b12_4, sv b12_5, AV.ls b12_6], [iv n1, AV.ls xs2, AV.ls xs3, iv n2, sv s, sv s1, AV.ls xs4]]] true false), (4, ABlk.mk [iv b12_0, AV.ls b12_1, AV.ls b12_2, iv b12_3, sv b12_4, sv b12_5, AV.ls b12_6, iv n1, AV.ls xs2, AV.ls xs3, iv n2, sv s, sv s1, AV.ls xs4] false true), (1, ABlk.mk [iv b10_0, AV.ls b10_1, AV.ls b10_2, iv b10_3, sv b10_4, sv b10_5, AV.ls b10_6] true false), (3, ABlk.mk [iv n1, AV.ls xs2, AV.ls xs3, iv n2, sv s, sv s1, AV.ls xs4] true false), (0, ABlk.mk [AV.ls xs5, iv n4, AV.ls xs6, bv b2] true false)] 5 none) [0, 1, 2] r2 o2)
 (askK D (Key.lp 164 0) [AV.ptr 0 0, sv t1, iv t2, iv t3, AV.fn (Fn.func 165) [AV.ptr 0 0] [], AV.ptr 1 0, AV.ptr 2 0, iv n3] [ABlk.mk [AV.ls xs5, iv n4, AV.ls xs6, bv b2] true false, ABlk.mk [iv b10_0, AV.ls b10_1, AV.ls b10_2, iv b10_3, sv b10_4, sv b10_5, AV.ls b10_6] true false, ABlk.mk [iv b12_0, AV.ls b12_1, AV.ls b12_2, iv b12_3, sv b12_4, sv b12_5, AV.ls b12_6] true false] fun r2 o2 =>
 tailK 3 [0, 1, 2] (AH.mk [(2, ABlk.mk [iv b12_0, AV.ls b12_1, AV.ls b12_2, iv b12_3, sv b12_4, sv b12_5, AV.ls b12_6] true false), (1, ABlk.mk [iv b10_0, AV.ls b10_1, AV.ls b10_2, iv b10_3, sv b10_4, sv b10_5, AV.ls b10_6] true false), (3, ABlk.mk [iv n1, AV.ls xs2, AV.ls xs3, iv n2, sv s, sv s1, AV.ls xs4] true false), (0, ABlk.mk [AV.ls xs5, iv n4, AV.ls xs6, bv b2] true false)] 4 none) [0, 1, 2] r2 o2))
 (some ((AV.tup [iv 0, AV.ptr 0 0, AV.ptr 1 0, AV.ptr 2 0, iv t13], [BO.set (ABlk.mk [AV.ls xs, iv n, AV.ls xs1, bv b1] true false), BO.set (ABlk.mk [iv b10_0, AV.ls b10_1, AV.ls b10_2, iv b10_3, sv b10_4, sv b10_5, AV.ls b10_6] true false), BO.set (ABlk.mk [iv b12_0, AV.ls b12_1, AV.ls b12_2, iv b12_3, sv b12_4, sv b12_5, AV.ls b12_6] true false)]))))
 (some ((AV.tup [iv 0, AV.ptr 0 0, AV.ptr 1 0, AV.ptr 2 0, iv t13], [BO.set (ABlk.mk [AV.ls b0_0, iv b0_1, AV.ls b0_2, bv b0_3] true false), BO.set (ABlk.mk [iv b10_0, AV.ls b10_1, AV.ls b10_2, iv b10_3, sv b10_4, sv b10_5, AV.ls b10_6] true false), BO.set (ABlk.mk [iv b12_0, AV.ls b12_1, AV.ls b12_2, iv b12_3, sv b12_4, sv b12_5, AV.ls b12_6] true false)]))) := by kernel_rfl

theorem e249 (A : Ar) (D : Orc) (p0_0 : List (List AV)) (p0_1 : Int) (p0_2 : List (List AV)) (p0_3 : Bool) : fnK A D ownC hn249 .n 249 mf249 [AV.ptr 0 0] [{ cells := [AV.ls p0_0, iv p0_1, AV.ls p0_2, bv p0_3], st := true, ex := false }] =
 askK D (Key.fn 49) [AV.ptr 0 0] [ABlk.mk [AV.ls p0_0, iv p0_1, AV.ls p0_2, bv p0_3] true false] fun r o =>
 unTup r fun cs =>
 cLs cs fun xs l =>
 cInt IntKind.i64 l fun n l1 =>
 unNil l1 <|
 unOut o fun c l2 =>
 unSet true false c fun cs1 =>
 cLs cs1 fun xs1 l3 =>
 cInt IntKind.i64 l3 fun n1 l4 =>
 cLs l4 fun xs2 l5 =>
 cBool l5 fun b l6 =>
 unNil l6 <|
 unEnd l2 <|
 br (A.eq n 0)
 (askK D (Key.fn 90) [] [] fun r1 o1 =>
 unLs r1 fun xs3 =>
 unEnd o1 <|
 askK D (Key.fn 262) [AV.ls xs3, AV.fn (Fn.func 93) [AV.ptr 0 0] []] [ABlk.mk [AV.ls xs1, iv n1, AV.ls xs2, bv b] true false] fun r2 o2 =>
 unInt IntKind.i64 r2 fun n2 =>
 unOut o2 fun c1 l7 =>
 unSet true false c1 fun cs2 =>
 cLs cs2 fun xs4 l8 =>
 cInt IntKind.i64 l8 fun n3 l9 =>
 cLs l9 fun xs5 l10 =>
 cBool l10 fun b1 l11 =>
 unNil l11 <|
 unEnd l7 <|
 br (A.lt n2 0)
 (some ((AV.tup [AV.agg [iv 0, AV.ls [], AV.ls [], iv 0, sv (bstr []), sv (bstr []), AV.ls []], iv 101], [BO.set (ABlk.mk [AV.ls xs4, iv n3, AV.ls xs5, bv b1] true false)])))
 (askK D (Key.fn 49) [AV.ptr 0 0] [ABlk.mk [AV.ls xs4, iv n3, AV.ls xs5, bv b1] true false] fun r3 o3 =>
 unTup r3 fun cs3 =>
 cLs cs3 fun xs6 l12 =>
 cInt IntKind.i64 l12 fun n4 l13 =>
 unNil l13 <|
 unOut o3 fun c2 l14 =>
 unSet true false c2 fun cs4 =>
 cLs cs4 fun xs7 l15 =>
 cInt IntKind.i64 l15 fun n5 l16 =>
 cLs l16 fun xs8 l17 =>
 cBool l17 fun b2 l18 =>
 unNil l18 <|
 unEnd l14 <|
 br (A.eq n4 0)
 (some ((AV.tup [AV.agg [iv 2, AV.ls xs, AV.ls xs6, iv n2, sv (bstr []), sv (bstr []), AV.ls []], iv 0], [BO.set (ABlk.mk [AV.ls xs7, iv n5, AV.ls xs8, bv b2] true false)])))
 (some ((AV.tup [AV.agg [iv 0, AV.ls [], AV.ls [], iv 0, sv (bstr []), sv (bstr []), AV.ls []], iv n4], [BO.set (ABlk.mk [AV.ls xs7, iv n5, AV.ls xs8, bv b2] true false)])))))
 (some ((AV.tup [AV.agg [iv 0, AV.ls [], AV.ls [], iv 0, sv (bstr []), sv (bstr []), AV.ls []], iv n], [BO.set (ABlk.mk [AV.ls xs1, iv n1, AV.ls xs2, bv b] true false)]))) := by kernel_rfl

theorem e220 (A : Ar) (D : Orc) (p0_0 : List (List AV)) (p0_1 : Int) (p0_2 : List (List AV)) (p0_3 : Bool) (x1 : Int) : fnK A D ownC hn220 (.b (.b .n (.b .n (.b (.b (.b (.b (.b .n (.b (.b .n (.b .n (.b .n (.b .n (.b .n (.b .n (.b .n (.b .n (.b (.b (.b .n (.b .n (.f .n))) .n) .n))))))))) .n)) .n) .n) .n) .n))) (.b (.b (.b (.b .n (.b (.b (.b (.b .n (.b (.b .n (.b .n (.b .n (.b .n (.b .n (.b .n (.b .n (.b .n (.b (.b (.b .n (.b .n (.f .n))) .n) .n))))))))) .n)) .n) .n) .n)) (.b .n (.b .n (.b .n (.b .n (.b .n (.b .n (.b .n (.b .n (.b .n (.b .n (.b .n (.b .n (.b .n (.b (.b (.b .n (.b .n (.f .n))) .n) .n))))))))))))))) .n) .n)) 220 mf220 [AV.ptr 0 0, iv x1] [{ cells := [AV.ls p0_0, iv p0_1, AV.ls p0_2, bv p0_3], st := true, ex := false }] =
 askK D (Key.fn 96) [AV.ptr 0 0, sv (bstr [33])] [ABlk.mk [AV.ls p0_0, iv p0_1, AV.ls p0_2, bv p0_3] true false] fun r o =>
 unBool r fun b =>
 unOut o fun c l =>
 unSet true false c fun cs =>
 cLs cs fun xs l1 =>
 cInt IntKind.i64 l1 fun n l2 =>
 cLs l2 fun xs1 l3 =>
 cBool l3 fun b1 l4 =>
 unNil l4 <|
 unEnd l <|
 br b
 (br (A.eq x1 60)
 (some ((AV.tup [AV.agg [iv 0, AV.ls [], AV.ls [], iv 0, sv (bstr []), sv (bstr []), AV.ls []], iv 102], [BO.set (ABlk.mk [AV.ls xs, iv n, AV.ls xs1, bv b1] true false)])))
 (askK D (Key.fn 93) [AV.ptr 0 0, sv (bstr [116, 114, 117, 101])] [ABlk.mk [AV.ls xs, iv n, AV.ls xs1, bv b1] true false] fun r1 o1 =>
 unBool r1 fun b2 =>
 unOut o1 fun c1 l5 =>
 unSet true false c1 fun cs1 =>
 cLs cs1 fun xs2 l6 =>
 cInt IntKind.i64 l6 fun n1 l7 =>
 cLs l7 fun xs3 l8 =>
 cBool l8 fun b3 l9 =>
 unNil l9 <|
 unEnd l5 <|
 br b2
 (some ((AV.tup [AV.agg [iv 0, AV.ls [], AV.ls [], iv 0, sv (bstr []), sv (bstr []), AV.ls []], iv 0], [BO.set (ABlk.mk [AV.ls xs2, iv n1, AV.ls xs3, bv b3] true false)])))
 (askK D (Key.fn 93) [AV.ptr 0 0, sv (bstr [102, 97, 108, 115, 101])] [ABlk.mk [AV.ls xs2, iv n1, AV.ls xs3, bv b3] true false] fun r2 o2 =>
 unBool r2 fun b4 =>
 unOut o2 fun c2 l10 =>
 unSet true false c2 fun cs2 =>
 cLs cs2 fun xs4 l11 =>
 cInt IntKind.i64 l11 fun n2 l12 =>
 cLs l12 fun xs5 l13 =>
 cBool l13 fun b5 l14 =>
 unNil l14 <|
 unEnd l10 <|
 br b4
 (some ((AV.tup [AV.agg [iv 1, AV.ls [], AV.ls [], iv 0, sv (bstr []), sv (bstr []), AV.ls []], iv 0], [BO.set (ABlk.mk [AV.ls xs4, iv n2, AV.ls xs5, bv b5] true false)])))
 (askK D (Key.fn 93) [AV.ptr 0 0, sv (bstr [33])] [ABlk.mk [AV.ls xs4, iv n2, AV.ls xs5, bv b5] true false] fun r3 o3 =>
 unBool r3 fun b6 =>
 unOut o3 fun c3 l15 =>
 unSet true false c3 fun cs3 =>
 cLs cs3 fun xs6 l16 =>
 cInt IntKind.i64 l16 fun n3 l17 =>
 cLs l17 fun xs7 l18 =>
 cBool l18 fun b7 l19 =>
 unNil l19 <|
 unEnd l15 <|
 br b6
 (askK D (Key.fn 220) [AV.ptr 0 0, iv (A.add IntKind.i64 x1 1)] [ABlk.mk [AV.ls xs6, iv n3, AV.ls xs7, bv b7] true false] fun r4 o4 =>
 unTup r4 fun cs4 =>
 unCons cs4 fun c4 l20 =>
 unAgg c4 fun cs5 =>
 cInt IntKind.i64 cs5 fun n4 l21 =>
 cLs l21 fun xs8 l22 =>
 cLs l22 fun xs9 l23 =>
 cInt IntKind.i64 l23 fun n5 l24 =>
 cStr l24 fun s l25 =>
 cStr l25 fun s1 l26 =>
 cLs l26 fun xs10 l27 =>
 unNil l27 <|
 cInt IntKind.i64 l20 fun n6 l28 =>
 unNil l28 <|
 unOut o4 fun c5 l29 =>
 unSet true false c5 fun cs6 =>
 cLs cs6 fun xs11 l30 =>
 cInt IntKind.i64 l30 fun n7 l31 =>
 cLs l31 fun xs12 l32 =>
 cBool l32 fun b8 l33 =>
 unNil l33 <|
 unEnd l29 <|
 br (A.eq n6 0)
 (some ((AV.tup [AV.agg [iv 3, AV.ls [], AV.ls [], iv 0, sv (bstr []), sv (bstr []), AV.ls [[iv n4, AV.ls xs8, AV.ls xs9, iv n5, sv s, sv s1, AV.ls xs10]]], iv 0], [BO.set (ABlk.mk [AV.ls xs11, iv n7, AV.ls xs12, bv b8] true false)])))
 (some ((AV.tup [AV.agg [iv 0, AV.ls [], AV.ls [], iv 0, sv (bstr []), sv (bstr []), AV.ls []], iv n6], [BO.set (ABlk.mk [AV.ls xs11, iv n7, AV.ls xs12, bv b8] true false)]))))
 (askK D (Key.fn 93) [AV.ptr 0 0, sv (bstr [40])] [ABlk.mk [AV.ls xs6, iv n3, AV.ls xs7, bv b7] true false] fun r4 o4 =>
 unBool r4 fun b8 =>
 unOut o4 fun c4 l20 =>
 unSet true false c4 fun cs4 =>
 cLs cs4 fun xs8 l21 =>
 cInt IntKind.i64 l21 fun n4 l22 =>
 cLs l22 fun xs9 l23 =>
 cBool l23 fun b9 l24 =>
 unNil l24 <|
 unEnd l20 <|
 br b8
 (askK D (Key.fn 104) [AV.ptr 0 0, iv (A.add IntKind.i64 x1 1)] [ABlk.mk [AV.ls xs8, iv n4, AV.ls xs9, bv b9] true false] fun r5 o5 =>
 unTup r5 fun cs5 =>
 unCons cs5 fun c5 l25 =>
 unAgg c5 fun cs6 =>
 cInt IntKind.i64 cs6 fun n5 l26 =>
 cLs l26 fun xs10 l27 =>
 cLs l27 fun xs11 l28 =>
 cInt IntKind.i64 l28 fun n6 l29 =>
 cStr l29 fun s l30 =>
 cStr l30 fun s1 l31 =>
 cLs l31 fun xs12 l32 =>
 unNil l32 <|
 cInt IntKind.i64 l25 fun n7 l33 =>
 unNil l33 <|
 unOut o5 fun c6 l34 =>
 unSet true false c6 fun cs7 =>
 cLs cs7 fun xs13 l35 =>
 cInt IntKind.i64 l35 fun n8 l36 =>
 cLs l36 fun xs14 l37 =>
 cBool l37 fun b10 l38 =>
 unNil l38 <|
 unEnd l34 <|
 br (A.eq n7 0)
 (askK D (Key.fn 248) [AV.ptr 0 0, sv (bstr [41])] [ABlk.mk [AV.ls xs13, iv n8, AV.ls xs14, bv b10] true false] fun r6 o6 =>
 unInt IntKind.i64 r6 fun n9 =>
 unOut o6 fun c7 l39 =>
 unSet true false c7 fun cs8 =>
 cLs cs8 fun xs15 l40 =>
 cInt IntKind.i64 l40 fun n10 l41 =>
 cLs l41 fun xs16 l42 =>
 cBool l42 fun b11 l43 =>
 unNil l43 <|
 unEnd l39 <|
 br (A.eq n9 0)
 (some ((AV.tup [AV.agg [iv n5, AV.ls xs10, AV.ls xs11, iv n6, sv s, sv s1, AV.ls xs12], iv 0], [BO.set (ABlk.mk [AV.ls xs15, iv n10, AV.ls xs16, bv b11] true false)])))
 (some ((AV.tup [AV.agg [iv 0, AV.ls [], AV.ls [], iv 0, sv (bstr []), sv (bstr []), AV.ls []], iv n9], [BO.set (ABlk.mk [AV.ls xs15, iv n10, AV.ls xs16, bv b11] true false)]))))
 (br (A.eq n7 0) none (some ((AV.tup [AV.agg [iv 0, AV.ls [], AV.ls [], iv 0, sv (bstr []), sv (bstr []), AV.ls []], iv n7], [BO.set (ABlk.mk [AV.ls xs13, iv n8, AV.ls xs14, bv b10] true false)])))))
 (askK D (Key.fn 249) [AV.ptr 0 0] [ABlk.mk [AV.ls xs8, iv n4, AV.ls xs9, bv b9] true false] fun r5 o5 =>
 unTup r5 fun cs5 =>
 unCons cs5 fun c5 l25 =>
 unAgg c5 fun cs6 =>
 cInt IntKind.i64 cs6 fun n5 l26 =>
 cLs l26 fun xs10 l27 =>
 cLs l27 fun xs11 l28 =>
 cInt IntKind.i64 l28 fun n6 l29 =>
 cStr l29 fun s l30 =>
 cStr l30 fun s1 l31 =>
 cLs l31 fun xs12 l32 =>
 unNil l32 <|
 cInt IntKind.i64 l25 fun n7 l33 =>
 unNil l33 <|
 unOut o5 fun c6 l34 =>
 unSet true false c6 fun cs7 =>
 cLs cs7 fun xs13 l35 =>
 cInt IntKind.i64 l35 fun n8 l36 =>
 cLs l36 fun xs14 l37 =>
 cBool l37 fun b10 l38 =>
 unNil l38 <|
 unEnd l34 <|
 some ((AV.tup [AV.agg [iv n5, AV.ls xs10, AV.ls xs11, iv n6, sv s, sv s1, AV.ls xs12], iv n7], [BO.set (ABlk.mk [AV.ls xs13, iv n8, AV.ls xs14, bv b10] true false)]))))))))
 (askK D (Key.fn 96) [AV.ptr 0 0, sv (bstr [40])] [ABlk.mk [AV.ls xs, iv n, AV.ls xs1, bv b1] true false] fun r1 o1 =>
 unBool r1 fun b2 =>
 unOut o1 fun c1 l5 =>
 unSet true false c1 fun cs1 =>
 cLs cs1 fun xs2 l6 =>
 cInt IntKind.i64 l6 fun n1 l7 =>
 cLs l7 fun xs3 l8 =>
 cBool l8 fun b3 l9 =>
 unNil l9 <|
 unEnd l5 <|
 br b2
 (br (A.eq x1 60)
 (some ((AV.tup [AV.agg [iv 0, AV.ls [], AV.ls [], iv 0, sv (bstr []), sv (bstr []), AV.ls []], iv 102], [BO.set (ABlk.mk [AV.ls xs2, iv n1, AV.ls xs3, bv b3] true false)])))
 (askK D (Key.fn 93) [AV.ptr 0 0, sv (bstr [116, 114, 117, 101])] [ABlk.mk [AV.ls xs2, iv n1, AV.ls xs3, bv b3] true false] fun r2 o2 =>
 unBool r2 fun b4 =>
 unOut o2 fun c2 l10 =>
 unSet true false c2 fun cs2 =>
 cLs cs2 fun xs4 l11 =>
 cInt IntKind.i64 l11 fun n2 l12 =>
 cLs l12 fun xs5 l13 =>
 cBool l13 fun b5 l14 =>
 unNil l14 <|
 unEnd l10 <|
 br b4
 (some ((AV.tup [AV.agg [iv 0, AV.ls [], AV.ls [], iv 0, sv (bstr []), sv (bstr []), AV.ls []], iv 0], [BO.set (ABlk.mk [AV.ls xs4, iv n2, AV.ls xs5, bv b5] true false)])))
 (askK D (Key.fn 93) [AV.ptr 0 0, sv (bstr [102, 97, 108, 115, 101])] [ABlk.mk [AV.ls xs4, iv n2, AV.ls xs5, bv b5] true false] fun r3 o3 =>
 unBool r3 fun b6 =>
 unOut o3 fun c3 l15 =>
 unSet true false c3 fun cs3 =>
 cLs cs3 fun xs6 l16 =>
 cInt IntKind.i64 l16 fun n3 l17 =>
 cLs l17 fun xs7 l18 =>
 cBool l18 fun b7 l19 =>
 unNil l19 <|
 unEnd l15 <|
 br b6
 (some ((AV.tup [AV.agg [iv 1, AV.ls [], AV.ls [], iv 0, sv (bstr []), sv (bstr []), AV.ls []], iv 0], [BO.set (ABlk.mk [AV.ls xs6, iv n3, AV.ls xs7, bv b7] true false)])))
 (askK D (Key.fn 93) [AV.ptr 0 0, sv (bstr [33])] [ABlk.mk [AV.ls xs6, iv n3, AV.ls xs7, bv b7] true false] fun r4 o4 =>
 unBool r4 fun b8 =>
 unOut o4 fun c4 l20 =>
 unSet true false c4 fun cs4 =>
 cLs cs4 fun xs8 l21 =>
 cInt IntKind.i64 l21 fun n4 l22 =>
 cLs l22 fun xs9 l23 =>
 cBool l23 fun b9 l24 =>
 unNil l24 <|
 unEnd l20 <|
 br b8
 (askK D (Key.fn 220) [AV.ptr 0 0, iv (A.add IntKind.i64 x1 1)] [ABlk.mk [AV.ls xs8, iv n4, AV.ls xs9, bv b9] true false] fun r5 o5 =>
 unTup r5 fun cs5 =>
 unCons cs5 fun c5 l25 =>
 unAgg c5 fun cs6 =>
 cInt IntKind.i64 cs6 fun n5 l26 =>
 cLs l26 fun xs10 l27 =>
 cLs l27 fun xs11 l28 =>
 cInt IntKind.i64 l28 fun n6 l29 =>
 cStr l29 fun s l30 =>
 cStr l30 fun s1 l31 =>
 cLs l31 fun xs12 l32 =>
 unNil l32 <|
 cInt IntKind.i64 l25 fun n7 l33 =>
 unNil l33 <|
 unOut o5 fun c6 l34 =>
 unSet true false c6 fun cs7 =>
 cLs cs7 fun xs13 l35 =>
 cInt IntKind.i64 l35 fun n8 l36 =>
 cLs l36 fun xs14 l37 =>
 cBool l37 fun b10 l38 =>
 unNil l38 <|
 unEnd l34 <|
 br (A.eq n7 0)
 (some ((AV.tup [AV.agg [iv 3, AV.ls [], AV.ls [], iv 0, sv (bstr []), sv (bstr []), AV.ls [[iv n5, AV.ls xs10, AV.ls xs11, iv n6, sv s, sv s1, AV.ls xs12]]], iv 0], [BO.set (ABlk.mk [AV.ls xs13, iv n8, AV.ls xs14, bv b10] true false)])))
 (some ((AV.tup [AV.agg [iv 0, AV.ls [], AV.ls [], iv 0, sv (bstr []), sv (bstr []), AV.ls []], iv n7], [BO.set (ABlk.mk [AV.ls xs13, iv n8, AV.ls xs14, bv b10] true false)]))))
 (askK D (Key.fn 93) [AV.ptr 0 0, sv (bstr [40])] [ABlk.mk [AV.ls xs8, iv n4, AV.ls xs9, bv b9] true false] fun r5 o5 =>
 unBool r5 fun b10 =>
 unOut o5 fun c5 l25 =>
 unSet true false c5 fun cs5 =>
 cLs cs5 fun xs10 l26 =>
 cInt IntKind.i64 l26 fun n5 l27 =>
 cLs l27 fun xs11 l28 =>
 cBool l28 fun b11 l29 =>
 unNil l29 <|
 unEnd l25 <|
 br b10
 (askK D (Key.fn 104) [AV.ptr 0 0, iv (A.add IntKind.i64 x1 1)] [ABlk.mk [AV.ls xs10, iv n5, AV.ls xs11, bv b11] true false] fun r6 o6 =>
 unTup r6 fun cs6 =>
 unCons cs6 fun c6 l30 =>
 unAgg c6 fun cs7 =>
 cInt IntKind.i64 cs7 fun n6 l31 =>
 cLs l31 fun xs12 l32 =>
 cLs l32 fun xs13 l33 =>
 cInt IntKind.i64 l33 fun n7 l34 =>
 cStr l34 fun s l35 =>
 cStr l35 fun s1 l36 =>
 cLs l36 fun xs14 l37 =>
 unNil l37 <|
 cInt IntKind.i64 l30 fun n8 l38 =>
 unNil l38 <|
 unOut o6 fun c7 l39 =>
 unSet true false c7 fun cs8 =>
 cLs cs8 fun xs15 l40 =>
 cInt IntKind.i64 l40 fun n9 l41 =>
 cLs l41 fun xs16 l42 =>
 cBool l42 fun b12 l43 =>
 unNil l43 <|
 unEnd l39 <|
 br (A.eq n8 0)
 (askK D (Key.fn 248) [AV.ptr 0 0, sv (bstr [41])] [ABlk.mk [AV.ls xs15, iv n9, AV.ls xs16, bv b12] true false] fun r7 o7 =>
 unInt IntKind.i64 r7 fun n10 =>
 unOut o7 fun c8 l44 =>
 unSet true false c8 fun cs9 =>
 cLs cs9 fun xs17 l45 =>
 cInt IntKind.i64 l45 fun n11 l46 =>
 cLs l46 fun xs18 l47 =>
 cBool l47 fun b13 l48 =>
 unNil l48 <|
 unEnd l44 <|
 br (A.eq n10 0)
 (some ((AV.tup [AV.agg [iv n6, AV.ls xs12, AV.ls xs13, iv n7, sv s, sv s1, AV.ls xs14], iv 0], [BO.set (ABlk.mk [AV.ls xs17, iv n11, AV.ls xs18, bv b13] true false)])))
 (some ((AV.tup [AV.agg [iv 0, AV.ls [], AV.ls [], iv 0, sv (bstr []), sv (bstr []), AV.ls []], iv n10], [BO.set (ABlk.mk [AV.ls xs17, iv n11, AV.ls xs18, bv b13] true false)]))))
 (br (A.eq n8 0) none (some ((AV.tup [AV.agg [iv 0, AV.ls [], AV.ls [], iv 0, sv (bstr []), sv (bstr []), AV.ls []], iv n8], [BO.set (ABlk.mk [AV.ls xs15, iv n9, AV.ls xs16, bv b12] true false)])))))
 (askK D (Key.fn 249) [AV.ptr 0 0] [ABlk.mk [AV.ls xs10, iv n5, AV.ls xs11, bv b11] true false] fun r6 o6 =>
 unTup r6 fun cs6 =>
 unCons cs6 fun c6 l30 =>
 unAgg c6 fun cs7 =>
 cInt IntKind.i64 cs7 fun n6 l31 =>
 cLs l31 fun xs12 l32 =>
 cLs l32 fun xs13 l33 =>
 cInt IntKind.i64 l33 fun n7 l34 =>
 cStr l34 fun s l35 =>
 cStr l35 fun s1 l36 =>
 cLs l36 fun xs14 l37 =>
 unNil l37 <|
 cInt IntKind.i64 l30 fun n8 l38 =>
 unNil l38 <|
 unOut o6 fun c7 l39 =>
 unSet true false c7 fun cs8 =>
 cLs cs8 fun xs15 l40 =>
 cInt IntKind.i64 l40 fun n9 l41 =>
 cLs l41 fun xs16 l42 =>
 cBool l42 fun b12 l43 =>
 unNil l43 <|
 unEnd l39 <|
 some ((AV.tup [AV.agg [iv n6, AV.ls xs12, AV.ls xs13, iv n7, sv s, sv s1, AV.ls xs14], iv n8], [BO.set (ABlk.mk [AV.ls xs15, iv n9, AV.ls xs16, bv b12] true false)]))))))))
 (askK D (Key.fn 93) [AV.ptr 0 0, sv (bstr [116, 114, 117, 101])] [ABlk.mk [AV.ls xs2, iv n1, AV.ls xs3, bv b3] true false] fun r2 o2 =>
 unBool r2 fun b4 =>
 unOut o2 fun c2 l10 =>
 unSet true false c2 fun cs2 =>
 cLs cs2 fun xs4 l11 =>
 cInt IntKind.i64 l11 fun n2 l12 =>
 cLs l12 fun xs5 l13 =>
 cBool l13 fun b5 l14 =>
 unNil l14 <|
 unEnd l10 <|
 br b4
 (some ((AV.tup [AV.agg [iv 0, AV.ls [], AV.ls [], iv 0, sv (bstr []), sv (bstr []), AV.ls []], iv 0], [BO.set (ABlk.mk [AV.ls xs4, iv n2, AV.ls xs5, bv b5] true false)])))
 (askK D (Key.fn 93) [AV.ptr 0 0, sv (bstr [102, 97, 108, 115, 101])] [ABlk.mk [AV.ls xs4, iv n2, AV.ls xs5, bv b5] true false] fun r3 o3 =>
 unBool r3 fun b6 =>
 unOut o3 fun c3 l15 =>
 unSet true false c3 fun cs3 =>
 cLs cs3 fun xs6 l16 =>
 cInt IntKind.i64 l16 fun n3 l17 =>
 cLs l17 fun xs7 l18 =>
 cBool l18 fun b7 l19 =>
 unNil l19 <|
 unEnd l15 <|
 br b6
 (some ((AV.tup [AV.agg [iv 1, AV.ls [], AV.ls [], iv 0, sv (bstr []), sv (bstr []), AV.ls []], iv 0], [BO.set (ABlk.mk [AV.ls xs6, iv n3, AV.ls xs7, bv b7] true false)])))
 (askK D (Key.fn 93) [AV.ptr 0 0, sv (bstr [33])] [ABlk.mk [AV.ls xs6, iv n3, AV.ls xs7, bv b7] true false] fun r4 o4 =>
 unBool r4 fun b8 =>
 unOut o4 fun c4 l20 =>
 unSet true false c4 fun cs4 =>
 cLs cs4 fun xs8 l21 =>
 cInt IntKind.i64 l21 fun n4 l22 =>
 cLs l22 fun xs9 l23 =>
 cBool l23 fun b9 l24 =>
 unNil l24 <|
 unEnd l20 <|
 br b8
 (askK D (Key.fn 220) [AV.ptr 0 0, iv (A.add IntKind.i64 x1 1)] [ABlk.mk [AV.ls xs8, iv n4, AV.ls xs9, bv b9] true false] fun r5 o5 =>
 unTup r5 fun cs5 =>
 unCons cs5 fun c5 l25 =>
 unAgg c5 fun cs6 =>
 cInt IntKind.i64 cs6 fun n5 l26 =>
 cLs l26 fun xs10 l27 =>
 cLs l27 fun xs11 l28 =>
 cInt IntKind.i64 l28 fun n6 l29 =>
 cStr l29 fun s l30 =>
 cStr l30 fun s1 l31 =>
 cLs l31 fun xs12 l32 =>
 unNil l32 <|
 cInt IntKind.i64 l25 fun n7 l33 =>
 unNil l33 <|
 unOut o5 fun c6 l34 =>
 unSet true false c6 fun cs7 =>
 cLs cs7 fun xs13 l35 =>
 cInt IntKind.i64 l35 fun n8 l36 =>
 cLs l36 fun xs14 l37 =>
 cBool l37 fun b10 l38 =>
 unNil l38 <|
 unEnd l34 <|
 br (A.eq n7 0)
 (some ((AV.tup [AV.agg [iv 3, AV.ls [], AV.ls [], iv 0, sv (bstr []), sv (bstr []), AV.ls [[iv n5, AV.ls xs10, AV.ls xs11, iv n6, sv s, sv s1, AV.ls xs12]]], iv 0], [BO.set (ABlk.mk [AV.ls xs13, iv n8, AV.ls xs14, bv b10] true false)])))
 (some ((AV.tup [AV.agg [iv 0, AV.ls [], AV.ls [], iv 0, sv (bstr []), sv (bstr []), AV.ls []], iv n7], [BO.set (ABlk.mk [AV.ls xs13, iv n8, AV.ls xs14, bv b10] true false)]))))
 (askK D (Key.fn 93) [AV.ptr 0 0, sv (bstr [40])] [ABlk.mk [AV.ls xs8, iv n4, AV.ls xs9, bv b9] true false] fun r5 o5 =>
 unBool r5 fun b10 =>
 unOut o5 fun c5 l25 =>
 unSet true false c5 fun cs5 =>
 cLs cs5 fun xs10 l26 =>
 cInt IntKind.i64 l26 fun n5 l27 =>
 cLs l27 fun xs11 l28 =>
 cBool l28 fun b11 l29 =>
 unNil l29 <|
 unEnd l25 <|
 br b10
 (askK D (Key.fn 104) [AV.ptr 0 0, iv (A.add IntKind.i64 x1 1)] [ABlk.mk [AV.ls xs10, iv n5, AV.ls xs11, bv b11] true false] fun r6 o6 =>
 unTup r6 fun cs6 =>
 unCons cs6 fun c6 l30 =>
 unAgg c6 fun cs7 =>
 cInt IntKind.i64 cs7 fun n6 l31 =>
 cLs l31 fun xs12 l32 =>
 cLs l32 fun xs13 l33 =>
 cInt IntKind.i64 l33 fun n7 l34 =>
 cStr l34 fun s l35 =>
 cStr l35 fun s1 l36 =>
 cLs l36 fun xs14 l37 =>
 unNil l37 <|
 cInt IntKind.i64 l30 fun n8 l38 =>
 unNil l38 <|
 unOut o6 fun c7 l39 =>
 unSet true false c7 fun cs8 =>
 cLs cs8 fun xs15 l40 =>
 cInt IntKind.i64 l40 fun n9 l41 =>
 cLs l41 fun xs16 l42 =>
 cBool l42 fun b12 l43 =>
 unNil l43 <|
 unEnd l39 <|
 br (A.eq n8 0)
 (askK D (Key.fn 248) [AV.ptr 0 0, sv (bstr [41])] [ABlk.mk [AV.ls xs15, iv n9, AV.ls xs16, bv b12] true false] fun r7 o7 =>
 unInt IntKind.i64 r7 fun n10 =>
 unOut o7 fun c8 l44 =>
 unSet true false c8 fun cs9 =>
 cLs cs9 fun xs17 l45 =>
 cInt IntKind.i64 l45 fun n11 l46 =>
 cLs l46 fun xs18 l47 =>
 cBool l47 fun b13 l48 =>
 unNil l48 <|
 unEnd l44 <|
 br (A.eq n10 0)
 (some ((AV.tup [AV.agg [iv n6, AV.ls xs12, AV.ls xs13, iv n7, sv s, sv s1, AV.ls xs14], iv 0], [BO.set (ABlk.mk [AV.ls xs17, iv n11, AV.ls xs18, bv b13] true false)])))
 (some ((AV.tup [AV.agg [iv 0, AV.ls [], AV.ls [], iv 0, sv (bstr []), sv (bstr []), AV.ls []], iv n10], [BO.set (ABlk.mk [AV.ls xs17, iv n11, AV.ls xs18, bv b13] true false)]))))
 (br (A.eq n8 0) none (some ((AV.tup [AV.agg [iv 0, AV.ls [], AV.ls [], iv 0, sv (bstr []), sv (bstr []), AV.ls []], iv n8], [BO.set (ABlk.mk [AV.ls xs15, iv n9, AV.ls xs16, bv b12] true false)])))))
 (askK D (Key.fn 249) [AV.ptr 0 0] [ABlk.mk [AV.ls xs10, iv n5, AV.ls xs11, bv b11] true false] fun r6 o6 =>
 unTup r6 fun cs6 =>
 unCons cs6 fun c6 l30 =>
 unAgg c6 fun cs7 =>
 cInt IntKind.i64 cs7 fun n6 l31 =>
 cLs l31 fun xs12 l32 =>
 cLs l32 fun xs13 l33 =>
 cInt IntKind.i64 l33 fun n7 l34 =>
 cStr l34 fun s l35 =>
 cStr l35 fun s1 l36 =>
 cLs l36 fun xs14 l37 =>
 unNil l37 <|
 cInt IntKind.i64 l30 fun n8 l38 =>
 unNil l38 <|
 unOut o6 fun c7 l39 =>
 unSet true false c7 fun cs8 =>
 cLs cs8 fun xs15 l40 =>
 cInt IntKind.i64 l40 fun n9 l41 =>
 cLs l41 fun xs16 l42 =>
 cBool l42 fun b12 l43 =>
 unNil l43 <|
 unEnd l39 <|
 some ((AV.tup [AV.agg [iv n6, AV.ls xs12, AV.ls xs13, iv n7, sv s, sv s1, AV.ls xs14], iv n8], [BO.set (ABlk.mk [AV.ls xs15, iv n9, AV.ls xs16, bv b12] true false)])))))))) := by kernel_rfl

theorem e165 (A : Ar) (D : Orc) (p0_0 : List (List AV)) (p0_1 : Int) (p0_2 : List (List AV)) (p0_3 : Bool) (x1 : Int) : fnK A D ownC hn165 .n 165 mf165 [AV.ptr 0 0, iv x1] [{ cells := [AV.ls p0_0, iv p0_1, AV.ls p0_2, bv p0_3], st := true, ex := false }] =
 askK D (Key.fn 164) [AV.ptr 0 0, sv (bstr [38]), iv 4, iv x1, AV.fn (Fn.func 220) [AV.ptr 0 0] []] [ABlk.mk [AV.ls p0_0, iv p0_1, AV.ls p0_2, bv p0_3] true false] fun r o =>
 unTup r fun cs =>
 unCons cs fun c l =>
 unAgg c fun cs1 =>
 cInt IntKind.i64 cs1 fun n l1 =>
 cLs l1 fun xs l2 =>
 cLs l2 fun xs1 l3 =>
 cInt IntKind.i64 l3 fun n1 l4 =>
 cStr l4 fun s l5 =>
 cStr l5 fun s1 l6 =>
 cLs l6 fun xs2 l7 =>
 unNil l7 <|
 cInt IntKind.i64 l fun n2 l8 =>
 unNil l8 <|
 unOut o fun c1 l9 =>
 unSet true false c1 fun cs2 =>
 cLs cs2 fun xs3 l10 =>
 cInt IntKind.i64 l10 fun n3 l11 =>
 cLs l11 fun xs4 l12 =>
 cBool l12 fun b l13 =>
 unNil l13 <|
 unEnd l9 <|
 some ((AV.tup [AV.agg [iv n, AV.ls xs, AV.ls xs1, iv n1, sv s, sv s1, AV.ls xs2], iv n2], [BO.set (ABlk.mk [AV.ls xs3, iv n3, AV.ls xs4, bv b] true false)])) := by kernel_rfl

theorem e104 (A : Ar) (D : Orc) (p0_0 : List (List AV)) (p0_1 : Int) (p0_2 : List (List AV)) (p0_3 : Bool) (x1 : Int) : fnK A D ownC hn104 .n 104 mf104 [AV.ptr 0 0, iv x1] [{ cells := [AV.ls p0_0, iv p0_1, AV.ls p0_2, bv p0_3], st := true, ex := false }] =
 askK D (Key.fn 164) [AV.ptr 0 0, sv (bstr [124]), iv 5, iv x1, AV.fn (Fn.func 165) [AV.ptr 0 0] []] [ABlk.mk [AV.ls p0_0, iv p0_1, AV.ls p0_2, bv p0_3] true false] fun r o =>
 unTup r fun cs =>
 unCons cs fun c l =>
 unAgg c fun cs1 =>
 cInt IntKind.i64 cs1 fun n l1 =>
 cLs l1 fun xs l2 =>
 cLs l2 fun xs1 l3 =>
 cInt IntKind.i64 l3 fun n1 l4 =>
 cStr l4 fun s l5 =>
 cStr l5 fun s1 l6 =>
 cLs l6 fun xs2 l7 =>
 unNil l7 <|
 cInt IntKind.i64 l fun n2 l8 =>
 unNil l8 <|
 unOut o fun c1 l9 =>
 unSet true false c1 fun cs2 =>
 cLs cs2 fun xs3 l10 =>
 cInt IntKind.i64 l10 fun n3 l11 =>
 cLs l11 fun xs4 l12 =>
 cBool l12 fun b l13 =>
 unNil l13 <|
 unEnd l9 <|
 some ((AV.tup [AV.agg [iv n, AV.ls xs, AV.ls xs1, iv n1, sv s, sv s1, AV.ls xs2], iv n2], [BO.set (ABlk.mk [AV.ls xs3, iv n3, AV.ls xs4, bv b] true false)])) := by kernel_rfl

theorem e54 (A : Ar) (D : Orc) (p0_0 : List (List AV)) (p0_1 : Int) (p0_2 : List (List AV)) (p0_3 : Bool) : fnK A D ownC hn54 .n 54 mf54 [AV.ptr 0 0] [{ cells := [AV.ls p0_0, iv p0_1, AV.ls p0_2, bv p0_3], st := true, ex := false }] =
 askK D (Key.fn 104) [AV.ptr 0 0, iv 0] [ABlk.mk [AV.ls p0_0, iv p0_1, AV.ls p0_2, bv p0_3] true false] fun r o =>
 unTup r fun cs =>
 unCons cs fun c l =>
 unAgg c fun cs1 =>
 cInt IntKind.i64 cs1 fun n l1 =>
 cLs l1 fun xs l2 =>
 cLs l2 fun xs1 l3 =>
 cInt IntKind.i64 l3 fun n1 l4 =>
 cStr l4 fun s l5 =>
 cStr l5 fun s1 l6 =>
 cLs l6 fun xs2 l7 =>
 unNil l7 <|
 cInt IntKind.i64 l fun n2 l8 =>
 unNil l8 <|
 unOut o fun c1 l9 =>
 unSet true false c1 fun cs2 =>
 cLs cs2 fun xs3 l10 =>
 cInt IntKind.i64 l10 fun n3 l11 =>
 cLs l11 fun xs4 l12 =>
 cBool l12 fun b l13 =>
 unNil l13 <|
 unEnd l9 <|
 some ((AV.tup [AV.agg [iv n, AV.ls xs, AV.ls xs1, iv n1, sv s, sv s1, AV.ls xs2], iv n2], [BO.set (ABlk.mk [AV.ls xs3, iv n3, AV.ls xs4, bv b] true false)])) := by kernel_rfl
end Go.Proofs.YtlmhajfbpplpoaaGreat
namespace Go.Proofs.YtlmhajfbpplpoaaGreat
open Go.RowKit

section
variable {D : Orc}
def eOp (s : List UInt8) : List AV := [sv (bstr s)]
theorem compares_ok (K : Knows ownC tabEa D) : D.ask (.fn 90) [] [] = some (.ls (opsL.map eOp), []) :=
 K.fn' hn90 _ rfl ((e90 ..).trans rfl)
def keepC (b : Bool) (x : ABlk) : List BO := if b then [.set x] else [.keep]
def pickR (ts : List Tk) (vars : List ByteArray) (kn : Bool) (i j : Nat) (b : Bool) : Option Nat → AV × List BO
 | some m => (.tup [bv true, iv ((j + m : Nat) : Int)], [.set (cuB ts vars kn (i + 1))])
 | none => (.tup [iv 0], keepC b (cuB ts vars kn i))
theorem pick_lp (K : Knows ownC tabEa D) (Kb : Knows ownC tabEb D) {ts : List Tk} (H : Toks ts) (vars : List ByteArray) (kn : Bool) (i : Nat) (hi : i ≤ ts.length) (xs : List (List UInt8)) (hx : xs.length < 4611686018427387904) : ∀ (k j : Nat), xs.length - j = k →
  D.ask (.lp 262 0) [.ls (xs.map eOp), .fn (.func 93) [.ptr 0 0] [], iv (xs.length : Int), iv (j : Int)] [cuB ts vars kn i] = some (pickR ts vars kn i j (decide (j < xs.length)) ((xs.drop j).findIdx? (isT ts i))) := by
 have hl := H.len
 intro k
 induction k with
 | zero =>
  intro j hj
  refine Kb.lp' hn262 _ rfl (by kernel_rfl) ((e262_0 ..).trans ?_)
  have h1 : xs.drop j = [] := List.drop_eq_nil_of_le (by omega)
  have h2 : decide ((j : Int) < (xs.length : Int)) = false := by simp; omega
  have h3 : decide (j < xs.length) = false := by simp; omega
  simp only [r_lt, h1, h2, h3, br_f]
  rfl
 | succ k ih =>
  intro j hj
  have hlt : j < xs.length := by omega
  refine Kb.lp' hn262 _ rfl (by kernel_rfl) ((e262_0 ..).trans ?_)
  have e1 : xs.drop j = xs[j] :: xs.drop (j + 1) := List.drop_eq_getElem_cons hlt
  have ih' := ih (j + 1) (by omega)
  have h2 : decide ((j : Int) < (xs.length : Int)) = true := by simp; omega
  have h3 : decide (j < xs.length) = true := by simp; omega
  simp only [r_lt, h2, h3, br_t, unI_n, nthK_map, List.getElem?_eq_getElem hlt, eOp, cStr_sv, unNil_nil, e1, List.findIdx?_cons]
  refine (askK_of (take_ok K ts vars kn i (by omega) (by omega) _) _).trans ?_
  simp only [cuB, ND]
  cases hT : isT ts i xs[j] with
  | true =>
   simp only [ND, if_true]
   rfl
  | false =>
   simp only [ND, Bool.false_eq_true, if_false, add1 (show j < 4611686018427387904 by omega)]
   refine (askK_of ih' _).trans ?_
   cases (xs.drop (j + 1)).findIdx? (isT ts i) with
   | none => cases decide (j + 1 < xs.length) <;> rfl
   | some m =>
    simp only [pickR, Option.map_some, show j + (m + 1) = j + 1 + m by omega]
    rfl
def opAt (ts : List Tk) (i : Nat) : Nat := match opP ts i with
 | some _ => i + 1
 | none => i
theorem pick_ok (K : Knows ownC tabEa D) (Kb : Knows ownC tabEb D) {ts : List Tk} (H : Toks ts) (vars : List ByteArray) (kn : Bool) (i : Nat) (hi : i ≤ ts.length) : D.ask (.fn 262) [.ls (opsL.map eOp), .fn (.func 93) [.ptr 0 0] []] [cuB ts vars kn i] = some (iv (placeI (opP ts i)), [.set (cuB ts vars kn (opAt ts i))]) := by
 refine Kb.fn' hn262 _ rfl ((e262 ..).trans ?_)
 rw [lenR_map]
 refine (askK_of (pick_lp K Kb H vars kn i hi opsL (by decide) _ 0 rfl) _).trans ?_
 rw [List.drop_zero]
 unfold opAt
 show _ = some (iv (placeI (opP ts i)), _)
 unfold opP
 cases opsL.findIdx? (isT ts i) with
 | none => rfl
 | some j => simp only [pickR, cuB, ND, Nat.zero_add]; rfl
theorem compare_ok (K : Knows ownC tabEa D) (Kb : Knows ownC tabEb D) (L : NameF D) {ts : List Tk} (H : Toks ts) (vars : List ByteArray) (kn : Bool) (hv : vars.length < 4611686018427387904) (i : Nat) (hi : i ≤ ts.length) : D.ask (.fn 249) [.ptr 0 0] [cuB ts vars kn i] = some (.tup [.agg (eTr (cmpP ts vars kn i).2.2), iv ((cmpP ts vars kn i).2.1 : Int)], [.set (cuB ts vars kn (cmpP ts vars kn i).1)]) := by
 have hl := H.len
 refine Kb.fn' hn249 _ rfl ((e249 ..).trans ?_)
 refine (askK_of (sum_ok K L ts vars kn (by omega) hv H.short i (by omega)) _).trans ?_
 have m := sumP_far H vars kn hi
 unfold cmpP
 simp only [cuB, ND, r_eq, ci0]
 by_cases h0 : (sumP ts vars kn i).2.1 = 0
 ·simp only [h0, decide_true, ND, ne_eq, not_true, if_false]
  refine (askK_of (compares_ok K) _).trans ?_
  simp only [ND]
  refine (askK_of (pick_ok K Kb H vars kn _ m.le) _).trans ?_
  simp only [cuB, ND, r_lt]
  unfold opAt
  cases ho : opP ts (sumP ts vars kn i).1 with
  | none => rfl
  | some op =>
   have h1 : decide (placeI (some op) < 0) = false := decide_eq_false (show ¬ ((op : Int) < 0) by omega)
   have h2 := opP_far H ho
   simp only [h1, ND]
   refine (askK_of (sum_ok K L ts vars kn (by omega) hv H.short ((sumP ts vars kn i).1 + 1) (by omega)) _).trans ?_
   simp only [cuB, ND, r_eq, ci0]
   by_cases h3 : (sumP ts vars kn ((sumP ts vars kn i).1 + 1)).2.1 = 0
   ·simp only [h3, decide_true, ND, ne_eq, not_true, if_false]
    rfl
   ·simp only [h3, decide_false, ND, ne_eq, not_false_eq_true, if_true]
    rfl
 ·simp only [h0, decide_false, ND, ne_eq, not_false_eq_true, if_true]
  rfl
end
end Go.Proofs.YtlmhajfbpplpoaaGreat
namespace Go.Proofs.YtlmhajfbpplpoaaGreat
open Go.RowKit

theorem br_eqT {a b : Int} (h : a = b) {x y : KR} : br (realA.eq a b) x y = x := by rw [r_eq, decide_eq_true h]; rfl
theorem br_eqF {a b : Int} (h : ¬ a = b) {x y : KR} : br (realA.eq a b) x y = y := by rw [r_eq, decide_eq_false h]; rfl
set_option linter.unusedSectionVars false
section
variable {D : Orc}
def trB (x : Tr) : ABlk := ABlk.mk (eTr x) true false
def okJ (D : Orc) (ts : List Tk) (vars : List ByteArray) (kn : Bool) : Jb → Nat → Nat → Nat × Nat × Tr → Prop
 | .one, i, d, q => D.ask (.fn 220) [.ptr 0 0, iv (d : Int)] [cuB ts vars kn i] = some (.tup [.agg (eTr q.2.2), iv (q.2.1 : Int)], [.set (cuB ts vars kn q.1)])
 | .both, i, d, q => D.ask (.fn 165) [.ptr 0 0, iv (d : Int)] [cuB ts vars kn i] = some (.tup [.agg (eTr q.2.2), iv (q.2.1 : Int)], [.set (cuB ts vars kn q.1)])
 | .cond, i, d, q => D.ask (.fn 104) [.ptr 0 0, iv (d : Int)] [cuB ts vars kn i] = some (.tup [.agg (eTr q.2.2), iv (q.2.1 : Int)], [.set (cuB ts vars kn q.1)])
 | .bothL x, i, d, q => ∃ y, (q.2.1 = 0 → y = q.2.2) ∧ D.ask (.lp 164 0) [.ptr 0 0, sv (bstr [38]), iv 4, iv (d : Int), .fn (.func 220) [.ptr 0 0] [], .ptr 1 0, .ptr 2 0, iv 0] [cuB ts vars kn i, trB T0, trB x]
   = some (.tup [iv 0, .ptr 0 0, .ptr 1 0, .ptr 2 0, iv (q.2.1 : Int)], [.set (cuB ts vars kn q.1), .set (trB T0), .set (trB y)])
 | .condL x, i, d, q => ∃ y, (q.2.1 = 0 → y = q.2.2) ∧ D.ask (.lp 164 0) [.ptr 0 0, sv (bstr [124]), iv 5, iv (d : Int), .fn (.func 165) [.ptr 0 0] [], .ptr 1 0, .ptr 2 0, iv 0] [cuB ts vars kn i, trB T0, trB x]
   = some (.tup [iv 0, .ptr 0 0, .ptr 1 0, .ptr 2 0, iv (q.2.1 : Int)], [.set (cuB ts vars kn q.1), .set (trB T0), .set (trB y)])
theorem row_erra (Kb : Knows ownC tabEb D) (ts : List Tk) (vars : List ByteArray) (kn : Bool) (i d e : Nat) (x : Tr) (he : e ≠ 0) : D.ask (.lp 164 0) [.ptr 0 0, sv (bstr [38]), iv 4, iv (d : Int), .fn (.func 220) [.ptr 0 0] [], .ptr 1 0, .ptr 2 0, iv (e : Int)] [cuB ts vars kn i, trB T0, trB x]
  = some (.tup [iv 0, .ptr 0 0, .ptr 1 0, .ptr 2 0, iv (e : Int)], [.set (cuB ts vars kn i), .set (trB T0), .set (trB x)]) := by
 obtain ⟨k, l, r, o, p, q, ks⟩ := x
 refine Kb.lp' hn164 _ rfl (by kernel_rfl) ((e164a_0 ..).trans ?_)
 refine (br_eqF (by omega)).trans ?_
 rfl
theorem row_oka (Kb : Knows ownC tabEb D) (ts : List Tk) (vars : List ByteArray) (kn : Bool) (i d j e : Nat) (x : Tr) (q : Nat × Nat × Tr)
  (h1 : D.ask (.fn 220) [.ptr 0 0, iv (d : Int)] [cuB ts vars kn i] = some (.tup [.agg (eTr x), iv (e : Int)], [.set (cuB ts vars kn j)]))
  (h2 : e ≠ 0 → q = (j, e, T0)) (h3 : e = 0 → ∃ q0 : Nat × Nat × Tr, q = (if q0.2.1 = 0 then q0 else failT q0) ∧ okJ D ts vars kn (.bothL x) j d q0) :
  D.ask (.fn 164) [.ptr 0 0, sv (bstr [38]), iv 4, iv (d : Int), .fn (.func 220) [.ptr 0 0] []] [cuB ts vars kn i] = some (.tup [.agg (eTr q.2.2), iv (q.2.1 : Int)], [.set (cuB ts vars kn q.1)]) := by
 refine Kb.fn' hn164 _ rfl ((e164a ..).trans ?_)
 refine (askK_of h1 _).trans ?_
 obtain ⟨k, l, r, o, p, v, ks⟩ := x
 simp only [eTr, cuB, ND]
 by_cases he : e = 0
 ·subst he
  obtain ⟨⟨j2, e2, t2⟩, rfl, y, hy, h4⟩ := h3 rfl
  refine (askK_of h4 _).trans ?_
  obtain ⟨k, l, r, o, p, v, ks⟩ := y
  simp only [eTr, T0, trB, cuB, ND]
  by_cases h0 : e2 = 0
  ·refine (br_eqT (by omega)).trans ?_
   rw [if_pos h0, h0, ← hy h0]
   rfl
  ·refine (br_eqF (by omega)).trans ?_
   rw [if_neg h0]
   rfl
 ·rw [h2 he]
  refine (askK_of (row_erra Kb ts vars kn j d e (.mk k l r o p v ks) he) _).trans ?_
  simp only [eTr, T0, trB, cuB, ND]
  refine (br_eqF (by omega)).trans ?_
  rfl
theorem row_errb (Kb : Knows ownC tabEb D) (ts : List Tk) (vars : List ByteArray) (kn : Bool) (i d e : Nat) (x : Tr) (he : e ≠ 0) : D.ask (.lp 164 0) [.ptr 0 0, sv (bstr [124]), iv 5, iv (d : Int), .fn (.func 165) [.ptr 0 0] [], .ptr 1 0, .ptr 2 0, iv (e : Int)] [cuB ts vars kn i, trB T0, trB x]
  = some (.tup [iv 0, .ptr 0 0, .ptr 1 0, .ptr 2 0, iv (e : Int)], [.set (cuB ts vars kn i), .set (trB T0), .set (trB x)]) := by
 obtain ⟨k, l, r, o, p, q, ks⟩ := x
 refine Kb.lp' hn164 _ rfl (by kernel_rfl) ((e164b_0 ..).trans ?_)
 refine (br_eqF (by omega)).trans ?_
 rfl
theorem row_okb (Kb : Knows ownC tabEb D) (ts : List Tk) (vars : List ByteArray) (kn : Bool) (i d j e : Nat) (x : Tr) (q : Nat × Nat × Tr)
  (h1 : D.ask (.fn 165) [.ptr 0 0, iv (d : Int)] [cuB ts vars kn i] = some (.tup [.agg (eTr x), iv (e : Int)], [.set (cuB ts vars kn j)]))
  (h2 : e ≠ 0 → q = (j, e, T0)) (h3 : e = 0 → ∃ q0 : Nat × Nat × Tr, q = (if q0.2.1 = 0 then q0 else failT q0) ∧ okJ D ts vars kn (.condL x) j d q0) :
  D.ask (.fn 164) [.ptr 0 0, sv (bstr [124]), iv 5, iv (d : Int), .fn (.func 165) [.ptr 0 0] []] [cuB ts vars kn i] = some (.tup [.agg (eTr q.2.2), iv (q.2.1 : Int)], [.set (cuB ts vars kn q.1)]) := by
 refine Kb.fn' hn164 _ rfl ((e164b ..).trans ?_)
 refine (askK_of h1 _).trans ?_
 obtain ⟨k, l, r, o, p, v, ks⟩ := x
 simp only [eTr, cuB, ND]
 by_cases he : e = 0
 ·subst he
  obtain ⟨⟨j2, e2, t2⟩, rfl, y, hy, h4⟩ := h3 rfl
  refine (askK_of h4 _).trans ?_
  obtain ⟨k, l, r, o, p, v, ks⟩ := y
  simp only [eTr, T0, trB, cuB, ND]
  by_cases h0 : e2 = 0
  ·refine (br_eqT (by omega)).trans ?_
   rw [if_pos h0, h0, ← hy h0]
   rfl
  ·refine (br_eqF (by omega)).trans ?_
   rw [if_neg h0]
   rfl
 ·rw [h2 he]
  refine (askK_of (row_errb Kb ts vars kn j d e (.mk k l r o p v ks) he) _).trans ?_
  simp only [eTr, T0, trB, cuB, ND]
  refine (br_eqF (by omega)).trans ?_
  rfl
variable (K : Knows ownC tabEa D) (Kb : Knows ownC tabEb D) (L : NameF D) {ts : List Tk} (H : Toks ts) (vars : List ByteArray) (kn : Bool) (hv : vars.length < 4611686018427387904)
include K Kb L H hv
theorem one_step (n : Nat) (ih : ∀ (j : Jb) (i d : Nat), i ≤ ts.length → d ≤ 60 → needJ ts j i ≤ n → okJ D ts vars kn j i d (jbP ts vars kn n j i d)) (i d : Nat) (hi : i ≤ ts.length) (hd : d ≤ 60) (hn : needJ ts .one i ≤ n + 1) : okJ D ts vars kn .one i d (jbP ts vars kn (n + 1) .one i d) := by
 have hl := H.len
 unfold okJ jbP
 dsimp only
 refine Kb.fn' hn220 _ rfl ((e220 ..).trans ?_)
 refine (askK_of (is_ok K ts vars kn i (by omega) (by omega) _) _).trans ?_
 simp only [cuB, ND]
 cases h33 : isT ts i [33] with
 | true =>
  refine (br_t _ _).trans ?_
  simp only [Bool.true_or, true_and]
  by_cases h60 : d = 60
  ·refine (br_eqT (by omega)).trans ?_
   simp only [h60, if_true]
   rfl
  ·refine (br_eqF (by omega)).trans ?_
   simp only [h60, if_false]
   refine (askK_of (take_ok K ts vars kn i (by omega) (by omega) _) _).trans ?_
   simp only [cuB, ND]
   cases hT : isT ts i [116, 114, 117, 101] with
   | true => simp only [ND, if_true]; rfl
   | false =>
    simp only [ND, Bool.false_eq_true, if_false]
    refine (askK_of (take_ok K ts vars kn i (by omega) (by omega) _) _).trans ?_
    simp only [cuB, ND]
    cases hF : isT ts i [102, 97, 108, 115, 101] with
    | true => simp only [ND, if_true]; rfl
    | false =>
     simp only [ND, Bool.false_eq_true, if_false]
     refine (askK_of (take_ok K ts vars kn i (by omega) (by omega) _) _).trans ?_
     simp only [cuB, ND, h33]
     simp only [ND, if_true, add1 (show d < 4611686018427387904 by omega)]
     have hlt := H.isT h33
     have g := ih .one (i + 1) (d + 1) (by omega) (by omega) (by simp only [needJ] at hn ⊢; omega)
     refine (askK_of g _).trans ?_
     rcases jbP ts vars kn n .one (i + 1) (d + 1) with ⟨j, e, ⟨k, l, r, o, p, q, ks⟩⟩
     simp only [eTr, cuB, ND, r_eq, ci0, thenT]
     by_cases he : e = 0
     ·simp only [he, decide_true, ND, if_true]; rfl
     ·simp only [he, decide_false, ND, if_false]; rfl
 | false =>
  refine (br_f _ _).trans ?_
  simp only [Bool.false_or]
  refine (askK_of (is_ok K ts vars kn i (by omega) (by omega) _) _).trans ?_
  simp only [cuB, ND]
  cases h40 : isT ts i [40] with
  | true =>
   refine (br_t _ _).trans ?_
   simp only [true_and]
   by_cases h60 : d = 60
   ·refine (br_eqT (by omega)).trans ?_
    simp only [h60, if_true]
    rfl
   ·refine (br_eqF (by omega)).trans ?_
    simp only [h60, if_false]
    refine (askK_of (take_ok K ts vars kn i (by omega) (by omega) _) _).trans ?_
    simp only [cuB, ND]
    cases hT : isT ts i [116, 114, 117, 101] with
    | true => simp only [ND, if_true]; rfl
    | false =>
     simp only [ND, Bool.false_eq_true, if_false]
     refine (askK_of (take_ok K ts vars kn i (by omega) (by omega) _) _).trans ?_
     simp only [cuB, ND]
     cases hF : isT ts i [102, 97, 108, 115, 101] with
     | true => simp only [ND, if_true]; rfl
     | false =>
      simp only [ND, Bool.false_eq_true, if_false]
      refine (askK_of (take_ok K ts vars kn i (by omega) (by omega) _) _).trans ?_
      simp only [cuB, ND, h33]
      simp only [ND, Bool.false_eq_true, if_false]
      refine (askK_of (take_ok K ts vars kn i (by omega) (by omega) _) _).trans ?_
      simp only [cuB, ND, h40]
      simp only [ND, if_true, add1 (show d < 4611686018427387904 by omega)]
      have hlt := H.isT h40
      have g := ih .cond (i + 1) (d + 1) (by omega) (by omega) (by simp only [needJ] at hn ⊢; omega)
      have f : Far ts (i + 1) _ _ := jbP_far H vars kn n .cond (i + 1) (d + 1) (by omega)
      refine (askK_of g _).trans ?_
      revert f
      rcases jbP ts vars kn n .cond (i + 1) (d + 1) with ⟨j, e, ⟨k, l, r, o, p, q, ks⟩⟩
      intro f
      have hj : j ≤ ts.length := f.le
      simp only [eTr, cuB, ND, r_eq, ci0, thenT]
      by_cases he : e = 0
      ·simp only [he, decide_true, ND, if_true]
       refine (askK_of (want_ok K ts vars kn j (by omega) (by omega) _) _).trans ?_
       cases isT ts j [41] <;> rfl
      ·simp only [he, decide_false, ND, if_false]; rfl
  | false =>
   simp only [ND, Bool.false_eq_true, false_and, if_false]
   refine (askK_of (take_ok K ts vars kn i (by omega) (by omega) _) _).trans ?_
   simp only [cuB, ND]
   cases hT : isT ts i [116, 114, 117, 101] with
   | true => simp only [ND, if_true]; rfl
   | false =>
    simp only [ND, Bool.false_eq_true, if_false]
    refine (askK_of (take_ok K ts vars kn i (by omega) (by omega) _) _).trans ?_
    simp only [cuB, ND]
    cases hF : isT ts i [102, 97, 108, 115, 101] with
    | true => simp only [ND, if_true]; rfl
    | false =>
     simp only [ND, Bool.false_eq_true, if_false]
     refine (askK_of (take_ok K ts vars kn i (by omega) (by omega) _) _).trans ?_
     simp only [cuB, ND, h33]
     simp only [ND, Bool.false_eq_true, if_false]
     refine (askK_of (take_ok K ts vars kn i (by omega) (by omega) _) _).trans ?_
     simp only [cuB, ND, h40, Bool.false_eq_true, if_false]
     refine (askK_of (compare_ok K Kb L H vars kn hv i hi) _).trans ?_
     rcases cmpP ts vars kn i with ⟨j, e, ⟨k, l, r, o, p, q, ks⟩⟩
     rfl
omit K Kb L H hv in
theorem faila (ts : List Tk) (vars : List ByteArray) (kn : Bool) : ∀ (n : Nat) (x : Tr) (i d : Nat), (if (jbP ts vars kn n (.bothL x) i d).2.1 = 0 then jbP ts vars kn n (.bothL x) i d else failT (jbP ts vars kn n (.bothL x) i d)) = jbP ts vars kn n (.bothL x) i d := by
 intro n
 induction n with
 | zero => intro x i d; rfl
 | succ n ih =>
  intro x i d
  unfold jbP
  unfold thenT
  cases isT ts i [38] with
  | false => rfl
  | true =>
   rw [if_pos rfl]
   by_cases he : (jbP ts vars kn n .one (i + 1) d).2.1 = 0
   ·rw [if_pos he]
    exact ih _ _ _
   ·rw [if_neg he]
    unfold failT
    rw [if_neg he]
theorem loop_stepa (n : Nat) (ih : ∀ (j : Jb) (i d : Nat), i ≤ ts.length → d ≤ 60 → needJ ts j i ≤ n → okJ D ts vars kn j i d (jbP ts vars kn n j i d)) (x : Tr) (i d : Nat) (hi : i ≤ ts.length) (hd : d ≤ 60) (hn : needJ ts (.bothL x) i ≤ n + 1) : okJ D ts vars kn (.bothL x) i d (jbP ts vars kn (n + 1) (.bothL x) i d) := by
 have hl := H.len
 unfold okJ jbP
 dsimp only
 obtain ⟨k1, l1, r1, o1, p1, v1, ks1⟩ := x
 cases hT : isT ts i [38] with
 | false =>
  refine ⟨_, fun _ => rfl, ?_⟩
  refine Kb.lp' hn164 _ rfl (by kernel_rfl) ((e164a_0 ..).trans ?_)
  refine (br_eqT rfl).trans ?_
  refine (askK_of (take_ok K ts vars kn i (by omega) (by omega) _) _).trans ?_
  simp only [cuB, ND, hT]
  rfl
 | true =>
  rw [if_pos rfl]
  have hlt := H.isT hT
  have g := ih .one (i + 1) d (by omega) hd (by simp only [needJ] at hn ⊢; omega)
  have f : Far ts (i + 1) _ _ := jbP_far H vars kn n .one (i + 1) d (by omega)
  revert f g
  rcases jbP ts vars kn n .one (i + 1) d with ⟨j, e, t⟩
  intro g f
  have hj : j ≤ ts.length := f.le
  have hg : i + 1 ≤ j := f.ge
  unfold thenT
  dsimp only
  unfold okJ at g
  by_cases he : e = 0
  ·subst he
   rw [if_pos rfl]
   obtain ⟨y, hy, h4⟩ := ih (.bothL (.mk 4 [] [] 0 (bstr []) (bstr []) [.mk k1 l1 r1 o1 p1 v1 ks1, t])) j d hj hd (by simp only [needJ] at hn ⊢; omega)
   refine ⟨y, hy, ?_⟩
   refine Kb.lp' hn164 _ rfl (by kernel_rfl) ((e164a_0 ..).trans ?_)
   refine (br_eqT rfl).trans ?_
   refine (askK_of (take_ok K ts vars kn i (by omega) (by omega) _) _).trans ?_
   simp only [cuB, ND, hT, if_true]
   refine (askK_of g _).trans ?_
   obtain ⟨k, l, r, o, p, v, ks⟩ := t
   simp only [eTr, cuB, ND]
   refine (br_eqT rfl).trans ?_
   refine (askK_of h4 _).trans ?_
   obtain ⟨k, l, r, o, p, v, ks⟩ := y
   rfl
  ·rw [if_neg he]
   refine ⟨.mk k1 l1 r1 o1 p1 v1 ks1, fun h => absurd h he, ?_⟩
   refine Kb.lp' hn164 _ rfl (by kernel_rfl) ((e164a_0 ..).trans ?_)
   refine (br_eqT rfl).trans ?_
   refine (askK_of (take_ok K ts vars kn i (by omega) (by omega) _) _).trans ?_
   simp only [cuB, ND, hT, if_true]
   refine (askK_of g _).trans ?_
   obtain ⟨k, l, r, o, p, v, ks⟩ := t
   simp only [eTr, cuB, ND]
   refine (br_eqF (by omega)).trans ?_
   refine (askK_of (row_erra Kb ts vars kn j d e (.mk k1 l1 r1 o1 p1 v1 ks1) he) _).trans ?_
   rfl
theorem all_stepa (n : Nat) (ih : ∀ (j : Jb) (i d : Nat), i ≤ ts.length → d ≤ 60 → needJ ts j i ≤ n → okJ D ts vars kn j i d (jbP ts vars kn n j i d)) (i d : Nat) (hi : i ≤ ts.length) (hd : d ≤ 60) (hn : needJ ts .both i ≤ n + 1) : okJ D ts vars kn .both i d (jbP ts vars kn (n + 1) .both i d) := by
 have g := ih .one i d hi hd (by simp only [needJ] at hn ⊢; omega)
 have f : Far ts i _ _ := jbP_far H vars kn n .one i d hi
 have hr : jbP ts vars kn (n + 1) .both i d = thenT (jbP ts vars kn n .one i d) fun j x => jbP ts vars kn n (.bothL x) j d := rfl
 rw [hr]
 revert f g
 rcases jbP ts vars kn n .one i d with ⟨j, e, t⟩
 intro g f
 have hj : j ≤ ts.length := f.le
 unfold okJ at g
 unfold okJ thenT
 dsimp only at g f ⊢
 refine Kb.fn' hn165 _ rfl ((e165 ..).trans ?_)
 have hrow := row_oka Kb ts vars kn i d j e t (if e = 0 then jbP ts vars kn n (.bothL t) j d else failT (j, e, t)) g (fun he => by rw [if_neg he]; rfl) (fun he => by
  have hg := f.gt he
  have g2 := ih (.bothL t) j d hj hd (by simp only [needJ] at hn ⊢; omega)
  refine ⟨jbP ts vars kn n (.bothL t) j d, ?_, g2⟩
  rw [if_pos he]
  exact (faila ts vars kn n t j d).symm)
 refine (askK_of hrow _).trans ?_
 rcases (if e = 0 then jbP ts vars kn n (.bothL t) j d else failT (j, e, t)) with ⟨j2, e2, ⟨k, l, r, o, p, v, ks⟩⟩
 rfl
omit K Kb L H hv in
theorem failb (ts : List Tk) (vars : List ByteArray) (kn : Bool) : ∀ (n : Nat) (x : Tr) (i d : Nat), (if (jbP ts vars kn n (.condL x) i d).2.1 = 0 then jbP ts vars kn n (.condL x) i d else failT (jbP ts vars kn n (.condL x) i d)) = jbP ts vars kn n (.condL x) i d := by
 intro n
 induction n with
 | zero => intro x i d; rfl
 | succ n ih =>
  intro x i d
  unfold jbP
  unfold thenT
  cases isT ts i [124] with
  | false => rfl
  | true =>
   rw [if_pos rfl]
   by_cases he : (jbP ts vars kn n .both (i + 1) d).2.1 = 0
   ·rw [if_pos he]
    exact ih _ _ _
   ·rw [if_neg he]
    unfold failT
    rw [if_neg he]
theorem loop_stepb (n : Nat) (ih : ∀ (j : Jb) (i d : Nat), i ≤ ts.length → d ≤ 60 → needJ ts j i ≤ n → okJ D ts vars kn j i d (jbP ts vars kn n j i d)) (x : Tr) (i d : Nat) (hi : i ≤ ts.length) (hd : d ≤ 60) (hn : needJ ts (.condL x) i ≤ n + 1) : okJ D ts vars kn (.condL x) i d (jbP ts vars kn (n + 1) (.condL x) i d) := by
 have hl := H.len
 unfold okJ jbP
 dsimp only
 obtain ⟨k1, l1, r1, o1, p1, v1, ks1⟩ := x
 cases hT : isT ts i [124] with
 | false =>
  refine ⟨_, fun _ => rfl, ?_⟩
  refine Kb.lp' hn164 _ rfl (by kernel_rfl) ((e164b_0 ..).trans ?_)
  refine (br_eqT rfl).trans ?_
  refine (askK_of (take_ok K ts vars kn i (by omega) (by omega) _) _).trans ?_
  simp only [cuB, ND, hT]
  rfl
 | true =>
  rw [if_pos rfl]
  have hlt := H.isT hT
  have g := ih .both (i + 1) d (by omega) hd (by simp only [needJ] at hn ⊢; omega)
  have f : Far ts (i + 1) _ _ := jbP_far H vars kn n .both (i + 1) d (by omega)
  revert f g
  rcases jbP ts vars kn n .both (i + 1) d with ⟨j, e, t⟩
  intro g f
  have hj : j ≤ ts.length := f.le
  have hg : i + 1 ≤ j := f.ge
  unfold thenT
  dsimp only
  unfold okJ at g
  by_cases he : e = 0
  ·subst he
   rw [if_pos rfl]
   obtain ⟨y, hy, h4⟩ := ih (.condL (.mk 5 [] [] 0 (bstr []) (bstr []) [.mk k1 l1 r1 o1 p1 v1 ks1, t])) j d hj hd (by simp only [needJ] at hn ⊢; omega)
   refine ⟨y, hy, ?_⟩
   refine Kb.lp' hn164 _ rfl (by kernel_rfl) ((e164b_0 ..).trans ?_)
   refine (br_eqT rfl).trans ?_
   refine (askK_of (take_ok K ts vars kn i (by omega) (by omega) _) _).trans ?_
   simp only [cuB, ND, hT, if_true]
   refine (askK_of g _).trans ?_
   obtain ⟨k, l, r, o, p, v, ks⟩ := t
   simp only [eTr, cuB, ND]
   refine (br_eqT rfl).trans ?_
   refine (askK_of h4 _).trans ?_
   obtain ⟨k, l, r, o, p, v, ks⟩ := y
   rfl
  ·rw [if_neg he]
   refine ⟨.mk k1 l1 r1 o1 p1 v1 ks1, fun h => absurd h he, ?_⟩
   refine Kb.lp' hn164 _ rfl (by kernel_rfl) ((e164b_0 ..).trans ?_)
   refine (br_eqT rfl).trans ?_
   refine (askK_of (take_ok K ts vars kn i (by omega) (by omega) _) _).trans ?_
   simp only [cuB, ND, hT, if_true]
   refine (askK_of g _).trans ?_
   obtain ⟨k, l, r, o, p, v, ks⟩ := t
   simp only [eTr, cuB, ND]
   refine (br_eqF (by omega)).trans ?_
   refine (askK_of (row_errb Kb ts vars kn j d e (.mk k1 l1 r1 o1 p1 v1 ks1) he) _).trans ?_
   rfl
theorem all_stepb (n : Nat) (ih : ∀ (j : Jb) (i d : Nat), i ≤ ts.length → d ≤ 60 → needJ ts j i ≤ n → okJ D ts vars kn j i d (jbP ts vars kn n j i d)) (i d : Nat) (hi : i ≤ ts.length) (hd : d ≤ 60) (hn : needJ ts .cond i ≤ n + 1) : okJ D ts vars kn .cond i d (jbP ts vars kn (n + 1) .cond i d) := by
 have g := ih .both i d hi hd (by simp only [needJ] at hn ⊢; omega)
 have f : Far ts i _ _ := jbP_far H vars kn n .both i d hi
 have hr : jbP ts vars kn (n + 1) .cond i d = thenT (jbP ts vars kn n .both i d) fun j x => jbP ts vars kn n (.condL x) j d := rfl
 rw [hr]
 revert f g
 rcases jbP ts vars kn n .both i d with ⟨j, e, t⟩
 intro g f
 have hj : j ≤ ts.length := f.le
 unfold okJ at g
 unfold okJ thenT
 dsimp only at g f ⊢
 refine Kb.fn' hn104 _ rfl ((e104 ..).trans ?_)
 have hrow := row_okb Kb ts vars kn i d j e t (if e = 0 then jbP ts vars kn n (.condL t) j d else failT (j, e, t)) g (fun he => by rw [if_neg he]; rfl) (fun he => by
  have hg := f.gt he
  have g2 := ih (.condL t) j d hj hd (by simp only [needJ] at hn ⊢; omega)
  refine ⟨jbP ts vars kn n (.condL t) j d, ?_, g2⟩
  rw [if_pos he]
  exact (failb ts vars kn n t j d).symm)
 refine (askK_of hrow _).trans ?_
 rcases (if e = 0 then jbP ts vars kn n (.condL t) j d else failT (j, e, t)) with ⟨j2, e2, ⟨k, l, r, o, p, v, ks⟩⟩
 rfl
theorem jb_ok : ∀ (n : Nat) (j : Jb) (i d : Nat), i ≤ ts.length → d ≤ 60 → needJ ts j i ≤ n → okJ D ts vars kn j i d (jbP ts vars kn n j i d) := by
 intro n
 induction n with
 | zero => intro j i d _ _ hn; cases j <;> simp [needJ] at hn
 | succ n ih =>
  intro j i d hi hd hn
  cases j with
  | one => exact one_step K Kb L H vars kn hv n ih i d hi hd hn
  | both => exact all_stepa K Kb L H vars kn hv n ih i d hi hd hn
  | cond => exact all_stepb K Kb L H vars kn hv n ih i d hi hd hn
  | bothL x => exact loop_stepa K Kb L H vars kn hv n ih x i d hi hd hn
  | condL x => exact loop_stepb K Kb L H vars kn hv n ih x i d hi hd hn
end
end Go.Proofs.YtlmhajfbpplpoaaGreat
namespace Go.Proofs.YtlmhajfbpplpoaaGreat
open Go.RowKit

theorem br_seqT {a b : ByteArray} (h : a = b) {x y : KR} : br (realA.seq a b) x y = x := by rw [r_seq, decide_eq_true h]; rfl
theorem br_seqF {a b : ByteArray} (h : ¬ a = b) {x y : KR} : br (realA.seq a b) x y = y := by rw [r_seq, decide_eq_false h]; rfl
section
variable {ts : List Tk} {vars : List ByteArray} {kn : Bool} {k : Nat} {out : List Mo} {neg : Bool} {i j e : Nat} {m : Mo}
theorem sumL_go (hb : begP ts i = true) (hm : monoP ts vars kn i neg = (j, 0, m)) : sumL ts vars kn (k + 1) out neg i = if isT ts j [45] then sumL ts vars kn k (out ++ [m]) true (j + 1) else if isT ts j [43] then sumL ts vars kn k (out ++ [m]) false (j + 1) else (j, 0, out ++ [m]) := by
 rw [sumL, hb, if_neg (by simp), hm, if_neg (by simp)]
theorem sumL_no (hb : begP ts i = true) (hm : monoP ts vars kn i neg = (j, e, m)) (he : e ≠ 0) : sumL ts vars kn (k + 1) out neg i = (j, e, []) := by
 rw [sumL, hb, if_neg (by simp), hm, if_pos he]
theorem row3 (out : List Mo) (neg : Bool) (num var : ByteArray) : List.drop 0 (List.take (0 + out.length * 3) (rowC eMo out)) ++ [bv neg, sv num, sv var] = rowC eMo (out ++ [⟨neg, num, var⟩]) := by
 rw [List.drop_zero, rowC_all eMo_len out (by omega)]
 exact rowC_snoc eMo out ⟨neg, num, var⟩
theorem ble3 (out : List Mo) (m : Mo) : Nat.ble (0 + (out.length + 1) * 3) (rowC eMo (out ++ [m])).length = true := ble_row eMo_len _ (by simp)
theorem chunk3 (out : List Mo) (m : Mo) : chunk (out.length + 1) 3 (List.take ((out.length + 1) * 3) (List.drop 0 (rowC eMo (out ++ [m])))) = (out ++ [m]).map eMo := by
 rw [List.drop_zero]
 exact chunk_of eMo_len _ (by simp)
end
section
variable {D : Orc}
def tz : ABlk := ABlk.mk [.ls [], iv 0, .ls [], bv false] true false
theorem rsum_lp (K : Knows ownC tabRa D) (L : RNameF D) (ts : List Tk) (vars : List ByteArray) (kn : Bool) (hts : ts.length < 4611686018427387904) (hv : vars.length < 4611686018427387904) (hs : ShortT ts) (hnum : ∀ i, (nx ts i).kind = 3 → (nx ts i).text ≠ []) : ∀ (k : Nat) (out : List Mo) (neg : Bool) (i : Nat), out.length + k = 64 → i + 4 * (k + 1) < 4611686018427387904 →
  D.ask (.lp 51 0) [.ptr 0 0, .ptr 1 0, .sl 2 0 out.length 3, bv neg] [cuB ts vars kn i, tz, ABlk.mk (rowC eMo out) true true] = some (.tup [bv true, .ptr 1 0, .ls ((sumL ts vars kn k out neg i).2.2.map eMo), iv ((sumL ts vars kn k out neg i).2.1 : Int)], [.del, .set (cuB ts vars kn (sumL ts vars kn k out neg i).1), .del]) := by
 intro k
 induction k with
 | zero =>
  intro out neg i hk hi
  refine K.lp' hn51 _ rfl (by kernel_rfl) ((e51_0 ..).trans ?_)
  refine (askK_of (next_ok K ts vars kn i hts) _).trans ?_
  simp only [eTk, ND]
  unfold sumL
  by_cases h3 : (nx ts i).kind = 3
  ·have hb : begP ts i = true := by unfold begP; simp [h3]
   refine (br_eqT (by omega)).trans ?_
   refine (br_eqT (by omega)).trans ?_
   rw [hb]
   rfl
  ·refine (br_eqF (by omega)).trans ?_
   refine (askK_of (tname_ok K L ts vars kn i hts hs) _).trans ?_
   cases hN : isN ts i with
   | false =>
    have hb : begP ts i = false := by unfold begP; simp [h3, hN]
    rw [hb]
    simp only [ND]
    rfl
   | true =>
    have hb : begP ts i = true := by unfold begP; simp [hN]
    rw [hb]
    simp only [ND]
    refine (br_eqT (by omega)).trans ?_
    rfl
 | succ k ih =>
  intro out neg i hk hi
  have hf : fitsB (out.length + 1) 40 = true := fits_small (by omega) (by omega)
  have hb1 : Nat.ble (0 + out.length * 3) (rowC eMo out).length = true := ble_row eMo_len out (by omega)
  refine K.lp' hn51 _ rfl (by kernel_rfl) ((e51_0 ..).trans ?_)
  refine (askK_of (next_ok K ts vars kn i hts) _).trans ?_
  simp only [eTk, ND]
  by_cases h3 : (nx ts i).kind = 3
  ·have hb : begP ts i = true := by unfold begP; simp [h3]
   have hne : ¬ bstr (nx ts i).text = bstr [] := fun h => hnum i h3 (bstr_inj.1 h)
   refine (br_eqT (by omega)).trans ?_
   refine (br_eqF (by omega)).trans ?_
   refine (br_eqT (by omega)).trans ?_
   refine (askK_of (on_ok K ts vars kn i (by omega)) _).trans ?_
   simp only [cuA, ND]
   refine (br_seqF hne).trans ?_
   refine (askK_of (tis_ok K ts vars kn (i + 1) hts _) _).trans ?_
   cases h42 : isT ts (i + 1) [42] with
   | false =>
    have hm : monoP ts vars kn i neg = (i + 1, 0, ⟨neg, bstr (nx ts i).text, bstr []⟩) := by unfold monoP; rw [if_pos h3, h42, if_neg (by simp)]
    simp only [ND]
    rw [sumL_go (k := k) (out := out) hb hm]
    have e3 := row3 out neg (bstr (nx ts i).text) (bstr [])
    have hb2 := ble3 out (⟨neg, (bstr (nx ts i).text), (bstr [])⟩ : Mo)
    have hc := chunk3 out (⟨neg, (bstr (nx ts i).text), (bstr [])⟩ : Mo)
    have ih1 := ih (out ++ [⟨neg, (bstr (nx ts i).text), (bstr [])⟩]) true (i+1 + 1) (by simp; omega) (by omega)
    have ih2 := ih (out ++ [⟨neg, (bstr (nx ts i).text), (bstr [])⟩]) false (i+1 + 1) (by simp; omega) (by omega)
    rw [List.length_append, List.length_singleton] at ih1 ih2
    simp only [hf, hb1, ND]
    refine (askK_of (tis_ok K ts vars kn (i+1) (by omega) _) _).trans ?_
    cases h45 : isT ts (i+1) [45] with
    | true =>
     simp only [ND, if_true]
     refine (askK_of (on_ok K ts vars kn (i+1) (by omega)) _).trans ?_
     simp only [cuA, ND, e3]
     refine (askK_of ih1 _).trans ?_
     rfl
    | false =>
     simp only [ND, Bool.false_eq_true, if_false]
     refine (askK_of (tis_ok K ts vars kn (i+1) (by omega) _) _).trans ?_
     cases h43 : isT ts (i+1) [43] with
     | true =>
      simp only [ND, if_true]
      refine (askK_of (on_ok K ts vars kn (i+1) (by omega)) _).trans ?_
      simp only [cuA, ND, e3]
      refine (askK_of ih2 _).trans ?_
      rfl
     | false =>
      simp only [ND, e3, hb2, hc, Bool.false_eq_true, if_false]
      rfl
   | true =>
    simp only [ND]
    refine (br_seqF hne).trans ?_
    refine (askK_of (on_ok K ts vars kn (i + 1) (by omega)) _).trans ?_
    simp only [cuA, ND]
    refine (askK_of (tname_ok K L ts vars kn (i + 2) hts hs) _).trans ?_
    cases hN : isN ts (i + 2) with
    | false =>
     have hv0 : varP ts vars kn (i + 2) = (i + 2, 101, bstr []) := by unfold varP; rw [if_pos hN]
     have hm : monoP ts vars kn i neg = (i + 2, 101, ⟨neg, bstr (nx ts i).text, bstr []⟩) := by unfold monoP; rw [if_pos h3, h42, if_pos rfl, hv0]
     rw [sumL_no (k := k) (out := out) hb hm (by simp)]
     simp only [ND]
     rfl
    | true =>
     simp only [ND]
     refine (askK_of (next_ok K ts vars kn (i+2) (by omega)) _).trans ?_
     cases kn with
     | false =>
      have hv0 : varP ts vars false (i+2) = (i+2 + 1, 0, bstr (nx ts (i+2)).text) := by unfold varP; rw [if_neg (by simp [hN]), if_neg (by simp)]
      have hm : monoP ts vars false i neg = (i+2 + 1, 0, ⟨neg, (bstr (nx ts i).text), bstr (nx ts (i+2)).text⟩) := by unfold monoP; rw [if_pos h3, h42, if_pos rfl, hv0]
      simp only [eTk, ND]
      refine (askK_of (on_ok K ts vars false (i+2) (by omega)) _).trans ?_
      simp only [cuA, ND]
      rw [sumL_go (k := k) (out := out) hb hm]
      have e3 := row3 out neg (bstr (nx ts i).text) (bstr (nx ts (i+2)).text)
      have hb2 := ble3 out (⟨neg, (bstr (nx ts i).text), (bstr (nx ts (i+2)).text)⟩ : Mo)
      have hc := chunk3 out (⟨neg, (bstr (nx ts i).text), (bstr (nx ts (i+2)).text)⟩ : Mo)
      have ih1 := ih (out ++ [⟨neg, (bstr (nx ts i).text), (bstr (nx ts (i+2)).text)⟩]) true (i+2+1 + 1) (by simp; omega) (by omega)
      have ih2 := ih (out ++ [⟨neg, (bstr (nx ts i).text), (bstr (nx ts (i+2)).text)⟩]) false (i+2+1 + 1) (by simp; omega) (by omega)
      rw [List.length_append, List.length_singleton] at ih1 ih2
      simp only [hf, hb1, ND]
      refine (askK_of (tis_ok K ts vars false (i+2+1) (by omega) _) _).trans ?_
      cases h45 : isT ts (i+2+1) [45] with
      | true =>
       simp only [ND, if_true]
       refine (askK_of (on_ok K ts vars false (i+2+1) (by omega)) _).trans ?_
       simp only [cuA, ND, e3]
       refine (askK_of ih1 _).trans ?_
       rfl
      | false =>
       simp only [ND, Bool.false_eq_true, if_false]
       refine (askK_of (tis_ok K ts vars false (i+2+1) (by omega) _) _).trans ?_
       cases h43 : isT ts (i+2+1) [43] with
       | true =>
        simp only [ND, if_true]
        refine (askK_of (on_ok K ts vars false (i+2+1) (by omega)) _).trans ?_
        simp only [cuA, ND, e3]
        refine (askK_of ih2 _).trans ?_
        rfl
       | false =>
        simp only [ND, e3, hb2, hc, Bool.false_eq_true, if_false]
        rfl
     | true =>
      simp only [eTk, ND]
      refine (askK_of (in_ok K vars hv _) _).trans ?_
      by_cases hmem : bstr (nx ts (i+2)).text ∈ vars
      ·have hv0 : varP ts vars true (i+2) = (i+2 + 1, 0, bstr (nx ts (i+2)).text) := by unfold varP; rw [if_neg (by simp [hN]), if_neg (by simp [hmem])]
       have hm : monoP ts vars true i neg = (i+2 + 1, 0, ⟨neg, (bstr (nx ts i).text), bstr (nx ts (i+2)).text⟩) := by unfold monoP; rw [if_pos h3, h42, if_pos rfl, hv0]
       simp only [hmem, decide_true, ND]
       refine (askK_of (on_ok K ts vars true (i+2) (by omega)) _).trans ?_
       simp only [cuA, ND]
       rw [sumL_go (k := k) (out := out) hb hm]
       have e3 := row3 out neg (bstr (nx ts i).text) (bstr (nx ts (i+2)).text)
       have hb2 := ble3 out (⟨neg, (bstr (nx ts i).text), (bstr (nx ts (i+2)).text)⟩ : Mo)
       have hc := chunk3 out (⟨neg, (bstr (nx ts i).text), (bstr (nx ts (i+2)).text)⟩ : Mo)
       have ih1 := ih (out ++ [⟨neg, (bstr (nx ts i).text), (bstr (nx ts (i+2)).text)⟩]) true (i+2+1 + 1) (by simp; omega) (by omega)
       have ih2 := ih (out ++ [⟨neg, (bstr (nx ts i).text), (bstr (nx ts (i+2)).text)⟩]) false (i+2+1 + 1) (by simp; omega) (by omega)
       rw [List.length_append, List.length_singleton] at ih1 ih2
       simp only [hf, hb1, ND]
       refine (askK_of (tis_ok K ts vars true (i+2+1) (by omega) _) _).trans ?_
       cases h45 : isT ts (i+2+1) [45] with
       | true =>
        simp only [ND, if_true]
        refine (askK_of (on_ok K ts vars true (i+2+1) (by omega)) _).trans ?_
        simp only [cuA, ND, e3]
        refine (askK_of ih1 _).trans ?_
        rfl
       | false =>
        simp only [ND, Bool.false_eq_true, if_false]
        refine (askK_of (tis_ok K ts vars true (i+2+1) (by omega) _) _).trans ?_
        cases h43 : isT ts (i+2+1) [43] with
        | true =>
         simp only [ND, if_true]
         refine (askK_of (on_ok K ts vars true (i+2+1) (by omega)) _).trans ?_
         simp only [cuA, ND, e3]
         refine (askK_of ih2 _).trans ?_
         rfl
        | false =>
         simp only [ND, e3, hb2, hc, Bool.false_eq_true, if_false]
         rfl
      ·have hv0 : varP ts vars true (i+2) = (i+2, 110, bstr []) := by unfold varP; rw [if_neg (by simp [hN]), if_pos ⟨rfl, hmem⟩]
       have hm : monoP ts vars true i neg = (i+2, 110, ⟨neg, (bstr (nx ts i).text), bstr []⟩) := by unfold monoP; rw [if_pos h3, h42, if_pos rfl, hv0]
       rw [sumL_no (k := k) (out := out) hb hm (by simp)]
       simp only [hmem, decide_false, ND]
       rfl
  ·refine (br_eqF (by omega)).trans ?_
   refine (askK_of (tname_ok K L ts vars kn i hts hs) _).trans ?_
   cases hN : isN ts i with
   | false =>
    have hb : begP ts i = false := by unfold begP; simp [h3, hN]
    have e : sumL ts vars kn (k + 1) out neg i = (i, 101, []) := by unfold sumL; rw [if_pos hb]
    rw [e]
    simp only [ND]
    rfl
   | true =>
    have hb : begP ts i = true := by unfold begP; simp [hN]
    simp only [ND]
    refine (br_eqF (by omega)).trans ?_
    refine (br_eqF (by omega)).trans ?_
    refine (br_seqT rfl).trans ?_
    refine (br_seqT rfl).trans ?_
    refine (askK_of (tname_ok K L ts vars kn i hts hs) _).trans ?_
    simp only [hN, ND]
    refine (askK_of (next_ok K ts vars kn (i) (by omega)) _).trans ?_
    cases kn with
    | false =>
     have hv0 : varP ts vars false (i) = (i + 1, 0, bstr (nx ts (i)).text) := by unfold varP; rw [if_neg (by simp [hN]), if_neg (by simp)]
     have hm : monoP ts vars false i neg = (i + 1, 0, ⟨neg, (bstr []), bstr (nx ts (i)).text⟩) := by unfold monoP; rw [if_neg h3, hv0]
     simp only [eTk, ND]
     refine (askK_of (on_ok K ts vars false (i) (by omega)) _).trans ?_
     simp only [cuA, ND]
     rw [sumL_go (k := k) (out := out) hb hm]
     have e3 := row3 out neg (bstr []) (bstr (nx ts (i)).text)
     have hb2 := ble3 out (⟨neg, (bstr []), (bstr (nx ts (i)).text)⟩ : Mo)
     have hc := chunk3 out (⟨neg, (bstr []), (bstr (nx ts (i)).text)⟩ : Mo)
     have ih1 := ih (out ++ [⟨neg, (bstr []), (bstr (nx ts (i)).text)⟩]) true (i+1 + 1) (by simp; omega) (by omega)
     have ih2 := ih (out ++ [⟨neg, (bstr []), (bstr (nx ts (i)).text)⟩]) false (i+1 + 1) (by simp; omega) (by omega)
     rw [List.length_append, List.length_singleton] at ih1 ih2
     simp only [hf, hb1, ND]
     refine (askK_of (tis_ok K ts vars false (i+1) (by omega) _) _).trans ?_
     cases h45 : isT ts (i+1) [45] with
     | true =>
      simp only [ND, if_true]
      refine (askK_of (on_ok K ts vars false (i+1) (by omega)) _).trans ?_
      simp only [cuA, ND, e3]
      refine (askK_of ih1 _).trans ?_
      rfl
     | false =>
      simp only [ND, Bool.false_eq_true, if_false]
      refine (askK_of (tis_ok K ts vars false (i+1) (by omega) _) _).trans ?_
      cases h43 : isT ts (i+1) [43] with
      | true =>
       simp only [ND, if_true]
       refine (askK_of (on_ok K ts vars false (i+1) (by omega)) _).trans ?_
       simp only [cuA, ND, e3]
       refine (askK_of ih2 _).trans ?_
       rfl
      | false =>
       simp only [ND, e3, hb2, hc, Bool.false_eq_true, if_false]
       rfl
    | true =>
     simp only [eTk, ND]
     refine (askK_of (in_ok K vars hv _) _).trans ?_
     by_cases hmem : bstr (nx ts (i)).text ∈ vars
     ·have hv0 : varP ts vars true (i) = (i + 1, 0, bstr (nx ts (i)).text) := by unfold varP; rw [if_neg (by simp [hN]), if_neg (by simp [hmem])]
      have hm : monoP ts vars true i neg = (i + 1, 0, ⟨neg, (bstr []), bstr (nx ts (i)).text⟩) := by unfold monoP; rw [if_neg h3, hv0]
      simp only [hmem, decide_true, ND]
      refine (askK_of (on_ok K ts vars true (i) (by omega)) _).trans ?_
      simp only [cuA, ND]
      rw [sumL_go (k := k) (out := out) hb hm]
      have e3 := row3 out neg (bstr []) (bstr (nx ts (i)).text)
      have hb2 := ble3 out (⟨neg, (bstr []), (bstr (nx ts (i)).text)⟩ : Mo)
      have hc := chunk3 out (⟨neg, (bstr []), (bstr (nx ts (i)).text)⟩ : Mo)
      have ih1 := ih (out ++ [⟨neg, (bstr []), (bstr (nx ts (i)).text)⟩]) true (i+1 + 1) (by simp; omega) (by omega)
      have ih2 := ih (out ++ [⟨neg, (bstr []), (bstr (nx ts (i)).text)⟩]) false (i+1 + 1) (by simp; omega) (by omega)
      rw [List.length_append, List.length_singleton] at ih1 ih2
      simp only [hf, hb1, ND]
      refine (askK_of (tis_ok K ts vars true (i+1) (by omega) _) _).trans ?_
      cases h45 : isT ts (i+1) [45] with
      | true =>
       simp only [ND, if_true]
       refine (askK_of (on_ok K ts vars true (i+1) (by omega)) _).trans ?_
       simp only [cuA, ND, e3]
       refine (askK_of ih1 _).trans ?_
       rfl
      | false =>
       simp only [ND, Bool.false_eq_true, if_false]
       refine (askK_of (tis_ok K ts vars true (i+1) (by omega) _) _).trans ?_
       cases h43 : isT ts (i+1) [43] with
       | true =>
        simp only [ND, if_true]
        refine (askK_of (on_ok K ts vars true (i+1) (by omega)) _).trans ?_
        simp only [cuA, ND, e3]
        refine (askK_of ih2 _).trans ?_
        rfl
       | false =>
        simp only [ND, e3, hb2, hc, Bool.false_eq_true, if_false]
        rfl
     ·have hv0 : varP ts vars true (i) = (i, 110, bstr []) := by unfold varP; rw [if_neg (by simp [hN]), if_pos ⟨rfl, hmem⟩]
      have hm : monoP ts vars true i neg = (i, 110, ⟨neg, (bstr []), bstr []⟩) := by unfold monoP; rw [if_neg h3, hv0]
      rw [sumL_no (k := k) (out := out) hb hm (by simp)]
      simp only [hmem, decide_false, ND]
      rfl
end
end Go.Proofs.YtlmhajfbpplpoaaGreat
namespace Go.Proofs.YtlmhajfbpplpoaaGreat
open Go.RowKit

section
variable {D : Orc}
theorem rsum_ok (K : Knows ownC tabRa D) (L : RNameF D) (ts : List Tk) (vars : List ByteArray) (kn : Bool) (hts : ts.length < 4611686018427387904) (hv : vars.length < 4611686018427387904) (hs : ShortT ts) (hnum : ∀ i, (nx ts i).kind = 3 → (nx ts i).text ≠ []) (i : Nat) (hi : i + 300 < 4611686018427387904) : D.ask (.fn 51) [cuA ts vars kn i] [] = some (.tup [cuA ts vars kn (sumP ts vars kn i).1, .ls ((sumP ts vars kn i).2.2.map eMo), iv ((sumP ts vars kn i).2.1 : Int)], []) := by
 refine K.fn' hn51 _ rfl ((e51 ..).trans ?_)
 refine (askK_of (tis_ok K ts vars kn i hts _) _).trans ?_
 unfold sumP
 cases isT ts i [45] with
 | true =>
  simp only [ND, if_true]
  refine (askK_of (on_ok K ts vars kn i (by omega)) _).trans ?_
  simp only [cuA, ND]
  refine (askK_of (rsum_lp K L ts vars kn hts hv hs hnum 64 [] true (i + 1) rfl (by omega)) _).trans ?_
  rfl
 | false =>
  simp only [ND, Bool.false_eq_true, if_false]
  refine (askK_of (rsum_lp K L ts vars kn hts hv hs hnum 64 [] false i rfl (by omega)) _).trans ?_
  rfl
theorem br_ltT {a b : Int} (h : a < b) {x y : KR} : br (realA.lt a b) x y = x := by rw [r_lt, decide_eq_true h]; rfl
theorem br_ltF {a b : Int} (h : ¬ a < b) {x y : KR} : br (realA.lt a b) x y = y := by rw [r_lt, decide_eq_false h]; rfl
def pickK (D : Orc) (ts : List Tk) (vars : List ByteArray) (kn : Bool) (i : Nat) (l : List Mo) (j : Nat) (f : Int → Int) : Prop := ∀ op : Int,
 D.ask (.lp 221 0) [.ptr 0 0, .ptr 1 0, .ptr 2 0, .ls (l.map eMo), iv op, iv (j : Int)] [cuB ts vars kn i, tz, trB T0]
  = some (.tup [iv 0, .ptr 0 0, .ptr 1 0, .ptr 2 0, .ls (l.map eMo), iv (f op)], [.set (cuB ts vars kn i), .set tz, .set (trB T0)])
theorem pickK_end (K : Knows ownC tabRa D) (ts : List Tk) (vars : List ByteArray) (kn : Bool) (i : Nat) (l : List Mo) : pickK D ts vars kn i l 6 (fun op => op) := by
 intro op
 refine K.lp' hn221 _ rfl (by kernel_rfl) ((e221_0 ..).trans ?_)
 refine (br_ltF (by omega)).trans ?_
 rfl
theorem pickK_go (K : Knows ownC tabRa D) (ts : List Tk) (vars : List ByteArray) (kn : Bool) (i : Nat) (hts : ts.length < 4611686018427387904) (l : List Mo) (j : Nat) (hj : j < 6) (s : List UInt8) (hs : D.ask (.fn 237) [iv (j : Int)] [] = some (sv (bstr s), [])) (f : Int → Int) (h : pickK D ts vars kn i l (j + 1) f) : pickK D ts vars kn i l j (fun op => f (if isT ts i s then (j : Int) else op)) := by
 intro op
 refine K.lp' hn221 _ rfl (by kernel_rfl) ((e221_0 ..).trans ?_)
 refine (br_ltT (by omega)).trans ?_
 refine (askK_of hs _).trans ?_
 simp only [ND]
 refine (askK_of (tis_ok K ts vars kn i hts _) _).trans ?_
 simp only [ND, add1 (show j < 4611686018427387904 by omega)]
 cases isT ts i s with
 | true =>
  simp only [ND, if_true]
  refine (askK_of (h _) _).trans ?_
  rfl
 | false =>
  simp only [ND, Bool.false_eq_true, if_false]
  refine (askK_of (h _) _).trans ?_
  rfl
theorem pick_eq (ts : List Tk) (i : Nat) : (if isT ts i [62, 61] then (5 : Int) else if isT ts i [62] then 4 else if isT ts i [60, 61] then 3 else if isT ts i [60] then 2 else if isT ts i [33, 61] then 1 else if isT ts i [61] then 0 else -1) = placeI (opP ts i) := by
 unfold opP opsL isT
 generalize (nx ts i).text = t
 generalize (decide ((nx ts i).kind = 1) || decide ((nx ts i).kind = 2) || decide ((nx ts i).kind = 4)) = b
 cases b with
 | false => simp [placeI, List.findIdx?_cons]
 | true =>
  by_cases h0 : t = [61]
  ·subst h0; rfl
  ·by_cases h1 : t = [33, 61]
   ·subst h1; rfl
   ·by_cases h2 : t = [60]
    ·subst h2; rfl
    ·by_cases h3 : t = [60, 61]
     ·subst h3; rfl
     ·by_cases h4 : t = [62]
      ·subst h4; rfl
      ·by_cases h5 : t = [62, 61]
       ·subst h5; rfl
       ·simp [h0, h1, h2, h3, h4, h5, placeI, List.findIdx?_cons]
theorem sign_ok (K : Knows ownC tabRa D) (j : Nat) (hj : j < 6) : D.ask (.fn 237) [iv (j : Int)] [] = some (sv (bstr (opsL[j]!)), []) := by
 refine K.fn' hn237 _ rfl ((e237 ..).trans ?_)
 simp only [r_eq]
 rcases j with _ | _ | _ | _ | _ | _ | j <;> first | rfl | omega
theorem rpick_ok (K : Knows ownC tabRa D) (ts : List Tk) (vars : List ByteArray) (kn : Bool) (i : Nat) (hts : ts.length < 4611686018427387904) (l : List Mo) :
 D.ask (.lp 221 0) [.ptr 0 0, .ptr 1 0, .ptr 2 0, .ls (l.map eMo), iv (-1), iv 0] [cuB ts vars kn i, tz, trB T0]
  = some (.tup [iv 0, .ptr 0 0, .ptr 1 0, .ptr 2 0, .ls (l.map eMo), iv (placeI (opP ts i))], [.set (cuB ts vars kn i), .set tz, .set (trB T0)]) := by
 have h6 := pickK_end K ts vars kn i l
 have h5 := pickK_go K ts vars kn i hts l 5 (by decide) [62, 61] (sign_ok K 5 (by decide)) _ h6
 have h4 := pickK_go K ts vars kn i hts l 4 (by decide) [62] (sign_ok K 4 (by decide)) _ h5
 have h3 := pickK_go K ts vars kn i hts l 3 (by decide) [60, 61] (sign_ok K 3 (by decide)) _ h4
 have h2 := pickK_go K ts vars kn i hts l 2 (by decide) [60] (sign_ok K 2 (by decide)) _ h3
 have h1 := pickK_go K ts vars kn i hts l 1 (by decide) [33, 61] (sign_ok K 1 (by decide)) _ h2
 have h0 := pickK_go K ts vars kn i hts l 0 (by decide) [61] (sign_ok K 0 (by decide)) _ h1
 rw [← pick_eq]
 exact h0 (-1)
theorem rcompare_ok (K : Knows ownC tabRa D) (L : RNameF D) {ts : List Tk} (H : Toks ts) (hnum : ∀ i, (nx ts i).kind = 3 → (nx ts i).text ≠ []) (vars : List ByteArray) (kn : Bool) (hv : vars.length < 4611686018427387904) (i : Nat) (hi : i ≤ ts.length) : D.ask (.fn 221) [cuA ts vars kn i] [] = some (.tup [cuA ts vars kn (cmpP ts vars kn i).1, .agg (eTr (cmpP ts vars kn i).2.2), iv ((cmpP ts vars kn i).2.1 : Int)], []) := by
 have hl := H.len
 refine K.fn' hn221 _ rfl ((e221 ..).trans ?_)
 refine (askK_of (rsum_ok K L ts vars kn (by omega) hv H.short hnum i (by omega)) _).trans ?_
 have m := sumP_far H vars kn hi
 unfold cmpP
 simp only [cuA, ND]
 by_cases h0 : (sumP ts vars kn i).2.1 = 0
 ·refine (br_eqT (by omega)).trans ?_
  rw [if_neg (by simp [h0])]
  refine (askK_of (rpick_ok K ts vars kn _ (by omega) _) _).trans ?_
  simp only [cuB, tz, trB, T0, eTr, eTrs, List.map_nil, ND]
  cases ho : opP ts (sumP ts vars kn i).1 with
  | none => rfl
  | some op =>
   have h2 := opP_far H ho
   refine (br_ltF (show ¬ ((op : Int) < 0) by omega)).trans ?_
   refine (askK_of (on_ok K ts vars kn _ (by omega)) _).trans ?_
   simp only [cuA, ND]
   refine (askK_of (rsum_ok K L ts vars kn (by omega) hv H.short hnum ((sumP ts vars kn i).1 + 1) (by omega)) _).trans ?_
   simp only [cuA, ND]
   by_cases h3 : (sumP ts vars kn ((sumP ts vars kn i).1 + 1)).2.1 = 0
   ·refine (br_eqT (by omega)).trans ?_
    simp only [h3, ne_eq, not_true, if_false]
    rfl
   ·refine (br_eqF (by omega)).trans ?_
    simp only [h3, ne_eq, not_false_eq_true, if_true]
    rfl
 ·refine (br_eqF (by omega)).trans ?_
  simp only [h0, ne_eq, not_false_eq_true, if_true]
  rfl
end
end Go.Proofs.YtlmhajfbpplpoaaGreat
namespace Go.Proofs.YtlmhajfbpplpoaaGreat
open Go.RowKit

set_option linter.unusedSectionVars false
section
variable {D : Orc}
def okRJ (D : Orc) (ts : List Tk) (vars : List ByteArray) (kn : Bool) : Jb → Nat → Nat → Nat × Nat × Tr → Prop
 | .one, i, d, q => D.ask (.fn 166) [cuA ts vars kn i, iv (d : Int)] [] = some (.tup [cuA ts vars kn q.1, .agg (eTr q.2.2), iv (q.2.1 : Int)], [])
 | .both, i, d, q => D.ask (.fn 105) [cuA ts vars kn i, iv (d : Int)] [] = some (.tup [cuA ts vars kn q.1, .agg (eTr q.2.2), iv (q.2.1 : Int)], [])
 | .cond, i, d, q => D.ask (.fn 55) [cuA ts vars kn i, iv (d : Int)] [] = some (.tup [cuA ts vars kn q.1, .agg (eTr q.2.2), iv (q.2.1 : Int)], [])
 | .bothL x, i, d, q => ∃ y, (q.2.1 = 0 → y = q.2.2) ∧ D.ask (.lp 105 0) [iv (d : Int), .ptr 0 0, .ptr 1 0, .ptr 2 0, .ptr 3 0, iv 0] [cuB ts vars kn i, tz, trB T0, trB x]
   = some (.tup [iv 0, .ptr 0 0, .ptr 1 0, .ptr 2 0, .ptr 3 0, iv (q.2.1 : Int)], [.set (cuB ts vars kn q.1), .set tz, .set (trB T0), .set (trB y)])
 | .condL x, i, d, q => ∃ y, (q.2.1 = 0 → y = q.2.2) ∧ D.ask (.lp 55 0) [iv (d : Int), .ptr 0 0, .ptr 1 0, .ptr 2 0, .ptr 3 0, iv 0] [cuB ts vars kn i, tz, trB T0, trB x]
   = some (.tup [iv 0, .ptr 0 0, .ptr 1 0, .ptr 2 0, .ptr 3 0, iv (q.2.1 : Int)], [.set (cuB ts vars kn q.1), .set tz, .set (trB T0), .set (trB y)])
theorem rrow_erra (K : Knows ownC tabRa D) (ts : List Tk) (vars : List ByteArray) (kn : Bool) (i d e : Nat) (x : Tr) (he : e ≠ 0) : D.ask (.lp 105 0) [iv (d : Int), .ptr 0 0, .ptr 1 0, .ptr 2 0, .ptr 3 0, iv (e : Int)] [cuB ts vars kn i, tz, trB T0, trB x]
  = some (.tup [iv 0, .ptr 0 0, .ptr 1 0, .ptr 2 0, .ptr 3 0, iv (e : Int)], [.set (cuB ts vars kn i), .set tz, .set (trB T0), .set (trB x)]) := by
 obtain ⟨k, l, r, o, p, q, ks⟩ := x
 refine K.lp' hn105 _ rfl (by kernel_rfl) ((e105_0 ..).trans ?_)
 refine (br_eqF (by omega)).trans ?_
 rfl
theorem rrow_errb (K : Knows ownC tabRa D) (ts : List Tk) (vars : List ByteArray) (kn : Bool) (i d e : Nat) (x : Tr) (he : e ≠ 0) : D.ask (.lp 55 0) [iv (d : Int), .ptr 0 0, .ptr 1 0, .ptr 2 0, .ptr 3 0, iv (e : Int)] [cuB ts vars kn i, tz, trB T0, trB x]
  = some (.tup [iv 0, .ptr 0 0, .ptr 1 0, .ptr 2 0, .ptr 3 0, iv (e : Int)], [.set (cuB ts vars kn i), .set tz, .set (trB T0), .set (trB x)]) := by
 obtain ⟨k, l, r, o, p, q, ks⟩ := x
 refine K.lp' hn55 _ rfl (by kernel_rfl) ((e55_0 ..).trans ?_)
 refine (br_eqF (by omega)).trans ?_
 rfl
variable (K : Knows ownC tabRa D) (L : RNameF D) {ts : List Tk} (H : Toks ts) (hnum : ∀ i, (nx ts i).kind = 3 → (nx ts i).text ≠ []) (vars : List ByteArray) (kn : Bool) (hv : vars.length < 4611686018427387904)
include K L H hnum hv
theorem rone_step (n : Nat) (ih : ∀ (j : Jb) (i d : Nat), i ≤ ts.length → d ≤ 60 → needJ ts j i ≤ n → okRJ D ts vars kn j i d (jbP ts vars kn n j i d)) (i d : Nat) (hi : i ≤ ts.length) (hd : d ≤ 60) (hn : needJ ts .one i ≤ n + 1) : okRJ D ts vars kn .one i d (jbP ts vars kn (n + 1) .one i d) := by
 have hl := H.len
 unfold okRJ jbP
 dsimp only
 refine K.fn' hn166 _ rfl ((e166 ..).trans ?_)
 refine (askK_of (tis_ok K ts vars kn i (by omega) _) _).trans ?_
 cases h33 : isT ts i [33] with
 | true =>
  simp only [ND, Bool.true_or, true_and]
  by_cases h60 : d = 60
  ·refine (br_eqT (by omega)).trans ?_
   simp only [h60, if_true]
   rfl
  ·refine (br_eqF (by omega)).trans ?_
   simp only [h60, if_false]
   refine (askK_of (tis_ok K ts vars kn i (by omega) _) _).trans ?_
   cases hT : isT ts i [116, 114, 117, 101] with
   | true =>
    simp only [ND, if_true]
    refine (askK_of (on_ok K ts vars kn i (by omega)) _).trans ?_
    rfl
   | false =>
    simp only [ND, Bool.false_eq_true, if_false]
    refine (askK_of (tis_ok K ts vars kn i (by omega) _) _).trans ?_
    cases hF : isT ts i [102, 97, 108, 115, 101] with
    | true =>
     simp only [ND, if_true]
     refine (askK_of (on_ok K ts vars kn i (by omega)) _).trans ?_
     rfl
    | false =>
     simp only [ND, Bool.false_eq_true, if_false]
     refine (askK_of (tis_ok K ts vars kn i (by omega) _) _).trans ?_
     simp only [h33]
     simp only [ND, if_true]
     have hlt := H.isT h33
     have g := ih .one (i + 1) (d + 1) (by omega) (by omega) (by simp only [needJ] at hn ⊢; omega)
     refine (askK_of (on_ok K ts vars kn i (by omega)) _).trans ?_
     simp only [cuA, ND, add1 (show d < 4611686018427387904 by omega)]
     refine (askK_of g _).trans ?_
     rcases jbP ts vars kn n .one (i + 1) (d + 1) with ⟨j, e, ⟨k, l, r, o, p, q, ks⟩⟩
     simp only [eTr, cuA, ND, thenT]
     by_cases he : e = 0
     ·refine (br_eqT (by omega)).trans ?_
      rw [if_pos he]; rfl
     ·refine (br_eqF (by omega)).trans ?_
      rw [if_neg he]; rfl
 | false =>
  simp only [ND, Bool.false_or]
  refine (askK_of (tis_ok K ts vars kn i (by omega) _) _).trans ?_
  cases h40 : isT ts i [40] with
  | true =>
   simp only [ND, true_and]
   by_cases h60 : d = 60
   ·refine (br_eqT (by omega)).trans ?_
    simp only [h60, if_true]
    rfl
   ·refine (br_eqF (by omega)).trans ?_
    simp only [h60, if_false]
    refine (askK_of (tis_ok K ts vars kn i (by omega) _) _).trans ?_
    cases hT : isT ts i [116, 114, 117, 101] with
    | true =>
     simp only [ND, if_true]
     refine (askK_of (on_ok K ts vars kn i (by omega)) _).trans ?_
     rfl
    | false =>
     simp only [ND, Bool.false_eq_true, if_false]
     refine (askK_of (tis_ok K ts vars kn i (by omega) _) _).trans ?_
     cases hF : isT ts i [102, 97, 108, 115, 101] with
     | true =>
      simp only [ND, if_true]
      refine (askK_of (on_ok K ts vars kn i (by omega)) _).trans ?_
      rfl
     | false =>
      simp only [ND, Bool.false_eq_true, if_false]
      refine (askK_of (tis_ok K ts vars kn i (by omega) _) _).trans ?_
      simp only [h33]
      simp only [ND, Bool.false_eq_true, if_false]
      refine (askK_of (tis_ok K ts vars kn i (by omega) _) _).trans ?_
      simp only [h40]
      simp only [ND, if_true]
      have hlt := H.isT h40
      have g := ih .cond (i + 1) (d + 1) (by omega) (by omega) (by simp only [needJ] at hn ⊢; omega)
      have f : Far ts (i + 1) _ _ := jbP_far H vars kn n .cond (i + 1) (d + 1) (by omega)
      refine (askK_of (on_ok K ts vars kn i (by omega)) _).trans ?_
      simp only [cuA, ND, add1 (show d < 4611686018427387904 by omega)]
      refine (askK_of g _).trans ?_
      revert f
      rcases jbP ts vars kn n .cond (i + 1) (d + 1) with ⟨j, e, ⟨k, l, r, o, p, q, ks⟩⟩
      intro f
      have hj : j ≤ ts.length := f.le
      simp only [eTr, cuA, ND, thenT]
      by_cases he : e = 0
      ·refine (br_eqT (by omega)).trans ?_
       rw [if_pos he]
       refine (askK_of (tis_ok K ts vars kn j (by omega) _) _).trans ?_
       cases isT ts j [41] with
       | true =>
        simp only [ND, if_true]
        refine (br_eqT (by omega)).trans ?_
        refine (askK_of (on_ok K ts vars kn j (by omega)) _).trans ?_
        rfl
       | false =>
        simp only [ND, Bool.false_eq_true, if_false]
        rfl
      ·refine (br_eqF (by omega)).trans ?_
       rw [if_neg he]
       first | rfl | (refine (br_eqF (by omega)).trans ?_; rfl)
  | false =>
   simp only [ND, Bool.false_eq_true, false_and, if_false]
   refine (askK_of (tis_ok K ts vars kn i (by omega) _) _).trans ?_
   cases hT : isT ts i [116, 114, 117, 101] with
   | true =>
    simp only [ND, if_true]
    refine (askK_of (on_ok K ts vars kn i (by omega)) _).trans ?_
    rfl
   | false =>
    simp only [ND, Bool.false_eq_true, if_false]
    refine (askK_of (tis_ok K ts vars kn i (by omega) _) _).trans ?_
    cases hF : isT ts i [102, 97, 108, 115, 101] with
    | true =>
     simp only [ND, if_true]
     refine (askK_of (on_ok K ts vars kn i (by omega)) _).trans ?_
     rfl
    | false =>
     simp only [ND, Bool.false_eq_true, if_false]
     refine (askK_of (tis_ok K ts vars kn i (by omega) _) _).trans ?_
     simp only [h33]
     simp only [ND, Bool.false_eq_true, if_false]
     refine (askK_of (tis_ok K ts vars kn i (by omega) _) _).trans ?_
     simp only [h40, ND, Bool.false_eq_true, if_false]
     refine (askK_of (rcompare_ok K L H hnum vars kn hv i hi) _).trans ?_
     rcases cmpP ts vars kn i with ⟨j, e, ⟨k, l, r, o, p, q, ks⟩⟩
     rfl
theorem rloop_stepa (n : Nat) (ih : ∀ (j : Jb) (i d : Nat), i ≤ ts.length → d ≤ 60 → needJ ts j i ≤ n → okRJ D ts vars kn j i d (jbP ts vars kn n j i d)) (x : Tr) (i d : Nat) (hi : i ≤ ts.length) (hd : d ≤ 60) (hn : needJ ts (.bothL x) i ≤ n + 1) : okRJ D ts vars kn (.bothL x) i d (jbP ts vars kn (n + 1) (.bothL x) i d) := by
 have hl := H.len
 unfold okRJ jbP
 dsimp only
 obtain ⟨k1, l1, r1, o1, p1, v1, ks1⟩ := x
 cases hT : isT ts i [38] with
 | false =>
  refine ⟨_, fun _ => rfl, ?_⟩
  refine K.lp' hn105 _ rfl (by kernel_rfl) ((e105_0 ..).trans ?_)
  refine (br_eqT rfl).trans ?_
  refine (askK_of (tis_ok K ts vars kn i (by omega) _) _).trans ?_
  simp only [ND, hT]
  rfl
 | true =>
  rw [if_pos rfl]
  have hlt := H.isT hT
  have g := ih .one (i + 1) d (by omega) hd (by simp only [needJ] at hn ⊢; omega)
  have f : Far ts (i + 1) _ _ := jbP_far H vars kn n .one (i + 1) d (by omega)
  revert f g
  rcases jbP ts vars kn n .one (i + 1) d with ⟨j, e, t⟩
  intro g f
  have hj : j ≤ ts.length := f.le
  have hg : i + 1 ≤ j := f.ge
  unfold thenT
  dsimp only
  unfold okRJ at g
  by_cases he : e = 0
  ·subst he
   rw [if_pos rfl]
   obtain ⟨y, hy, h4⟩ := ih (.bothL (.mk 4 [] [] 0 (bstr []) (bstr []) [.mk k1 l1 r1 o1 p1 v1 ks1, t])) j d hj hd (by simp only [needJ] at hn ⊢; omega)
   refine ⟨y, hy, ?_⟩
   refine K.lp' hn105 _ rfl (by kernel_rfl) ((e105_0 ..).trans ?_)
   refine (br_eqT rfl).trans ?_
   refine (askK_of (tis_ok K ts vars kn i (by omega) _) _).trans ?_
   simp only [ND, hT]
   refine (askK_of (on_ok K ts vars kn i (by omega)) _).trans ?_
   simp only [cuA, ND]
   refine (askK_of g _).trans ?_
   obtain ⟨k, l, r, o, p, v, ks⟩ := t
   simp only [eTr, cuA, ND]
   refine (askK_of h4 _).trans ?_
   obtain ⟨k, l, r, o, p, v, ks⟩ := y
   rfl
  ·rw [if_neg he]
   refine ⟨.mk 4 [] [] 0 (bstr []) (bstr []) [.mk k1 l1 r1 o1 p1 v1 ks1, t], fun h => absurd h he, ?_⟩
   refine K.lp' hn105 _ rfl (by kernel_rfl) ((e105_0 ..).trans ?_)
   refine (br_eqT rfl).trans ?_
   refine (askK_of (tis_ok K ts vars kn i (by omega) _) _).trans ?_
   simp only [ND, hT]
   refine (askK_of (on_ok K ts vars kn i (by omega)) _).trans ?_
   simp only [cuA, ND]
   refine (askK_of g _).trans ?_
   obtain ⟨k, l, r, o, p, v, ks⟩ := t
   simp only [eTr, cuA, ND]
   refine (askK_of (rrow_erra K ts vars kn j d e (.mk 4 [] [] 0 (bstr []) (bstr []) [.mk k1 l1 r1 o1 p1 v1 ks1, .mk k l r o p v ks]) he) _).trans ?_
   rfl
theorem rall_stepa (n : Nat) (ih : ∀ (j : Jb) (i d : Nat), i ≤ ts.length → d ≤ 60 → needJ ts j i ≤ n → okRJ D ts vars kn j i d (jbP ts vars kn n j i d)) (i d : Nat) (hi : i ≤ ts.length) (hd : d ≤ 60) (hn : needJ ts .both i ≤ n + 1) : okRJ D ts vars kn .both i d (jbP ts vars kn (n + 1) .both i d) := by
 have g := ih .one i d hi hd (by simp only [needJ] at hn ⊢; omega)
 have f : Far ts i _ _ := jbP_far H vars kn n .one i d hi
 have hr : jbP ts vars kn (n + 1) .both i d = thenT (jbP ts vars kn n .one i d) fun j x => jbP ts vars kn n (.bothL x) j d := rfl
 rw [hr]
 revert f g
 rcases jbP ts vars kn n .one i d with ⟨j, e, t⟩
 intro g f
 have hj : j ≤ ts.length := f.le
 unfold okRJ at g
 unfold okRJ thenT
 dsimp only at g f ⊢
 refine K.fn' hn105 _ rfl ((e105 ..).trans ?_)
 refine (askK_of g _).trans ?_
 by_cases he : e = 0
 ·subst he
  have hg := f.gt rfl
  obtain ⟨y, hy, h4⟩ := ih (.bothL t) j d hj hd (by simp only [needJ] at hn ⊢; omega)
  rw [if_pos rfl, ← faila ts vars kn n t j d]
  obtain ⟨k, l, r, o, p, v, ks⟩ := t
  simp only [eTr, cuA, ND]
  refine (askK_of h4 _).trans ?_
  revert hy
  rcases jbP ts vars kn n (.bothL (.mk k l r o p v ks)) j d with ⟨j2, e2, t2⟩
  intro hy
  obtain ⟨k, l, r, o, p, v, ks⟩ := y
  simp only [eTr, T0, tz, trB, cuB, ND]
  by_cases h0 : e2 = 0
  ·refine (br_eqT (by omega)).trans ?_
   rw [if_pos h0, h0, ← hy h0]
   rfl
  ·refine (br_eqF (by omega)).trans ?_
   rw [if_neg h0]
   rfl
 ·rw [if_neg he]
  obtain ⟨k, l, r, o, p, v, ks⟩ := t
  simp only [eTr, cuA, ND]
  refine (askK_of (rrow_erra K ts vars kn j d e (.mk k l r o p v ks) he) _).trans ?_
  simp only [eTr, T0, tz, trB, cuB, ND]
  refine (br_eqF (by omega)).trans ?_
  rfl
theorem rloop_stepb (n : Nat) (ih : ∀ (j : Jb) (i d : Nat), i ≤ ts.length → d ≤ 60 → needJ ts j i ≤ n → okRJ D ts vars kn j i d (jbP ts vars kn n j i d)) (x : Tr) (i d : Nat) (hi : i ≤ ts.length) (hd : d ≤ 60) (hn : needJ ts (.condL x) i ≤ n + 1) : okRJ D ts vars kn (.condL x) i d (jbP ts vars kn (n + 1) (.condL x) i d) := by
 have hl := H.len
 unfold okRJ jbP
 dsimp only
 obtain ⟨k1, l1, r1, o1, p1, v1, ks1⟩ := x
 cases hT : isT ts i [124] with
 | false =>
  refine ⟨_, fun _ => rfl, ?_⟩
  refine K.lp' hn55 _ rfl (by kernel_rfl) ((e55_0 ..).trans ?_)
  refine (br_eqT rfl).trans ?_
  refine (askK_of (tis_ok K ts vars kn i (by omega) _) _).trans ?_
  simp only [ND, hT]
  rfl
 | true =>
  rw [if_pos rfl]
  have hlt := H.isT hT
  have g := ih .both (i + 1) d (by omega) hd (by simp only [needJ] at hn ⊢; omega)
  have f : Far ts (i + 1) _ _ := jbP_far H vars kn n .both (i + 1) d (by omega)
  revert f g
  rcases jbP ts vars kn n .both (i + 1) d with ⟨j, e, t⟩
  intro g f
  have hj : j ≤ ts.length := f.le
  have hg : i + 1 ≤ j := f.ge
  unfold thenT
  dsimp only
  unfold okRJ at g
  by_cases he : e = 0
  ·subst he
   rw [if_pos rfl]
   obtain ⟨y, hy, h4⟩ := ih (.condL (.mk 5 [] [] 0 (bstr []) (bstr []) [.mk k1 l1 r1 o1 p1 v1 ks1, t])) j d hj hd (by simp only [needJ] at hn ⊢; omega)
   refine ⟨y, hy, ?_⟩
   refine K.lp' hn55 _ rfl (by kernel_rfl) ((e55_0 ..).trans ?_)
   refine (br_eqT rfl).trans ?_
   refine (askK_of (tis_ok K ts vars kn i (by omega) _) _).trans ?_
   simp only [ND, hT]
   refine (askK_of (on_ok K ts vars kn i (by omega)) _).trans ?_
   simp only [cuA, ND]
   refine (askK_of g _).trans ?_
   obtain ⟨k, l, r, o, p, v, ks⟩ := t
   simp only [eTr, cuA, ND]
   refine (askK_of h4 _).trans ?_
   obtain ⟨k, l, r, o, p, v, ks⟩ := y
   rfl
  ·rw [if_neg he]
   refine ⟨.mk 5 [] [] 0 (bstr []) (bstr []) [.mk k1 l1 r1 o1 p1 v1 ks1, t], fun h => absurd h he, ?_⟩
   refine K.lp' hn55 _ rfl (by kernel_rfl) ((e55_0 ..).trans ?_)
   refine (br_eqT rfl).trans ?_
   refine (askK_of (tis_ok K ts vars kn i (by omega) _) _).trans ?_
   simp only [ND, hT]
   refine (askK_of (on_ok K ts vars kn i (by omega)) _).trans ?_
   simp only [cuA, ND]
   refine (askK_of g _).trans ?_
   obtain ⟨k, l, r, o, p, v, ks⟩ := t
   simp only [eTr, cuA, ND]
   refine (askK_of (rrow_errb K ts vars kn j d e (.mk 5 [] [] 0 (bstr []) (bstr []) [.mk k1 l1 r1 o1 p1 v1 ks1, .mk k l r o p v ks]) he) _).trans ?_
   rfl
theorem rall_stepb (n : Nat) (ih : ∀ (j : Jb) (i d : Nat), i ≤ ts.length → d ≤ 60 → needJ ts j i ≤ n → okRJ D ts vars kn j i d (jbP ts vars kn n j i d)) (i d : Nat) (hi : i ≤ ts.length) (hd : d ≤ 60) (hn : needJ ts .cond i ≤ n + 1) : okRJ D ts vars kn .cond i d (jbP ts vars kn (n + 1) .cond i d) := by
 have g := ih .both i d hi hd (by simp only [needJ] at hn ⊢; omega)
 have f : Far ts i _ _ := jbP_far H vars kn n .both i d hi
 have hr : jbP ts vars kn (n + 1) .cond i d = thenT (jbP ts vars kn n .both i d) fun j x => jbP ts vars kn n (.condL x) j d := rfl
 rw [hr]
 revert f g
 rcases jbP ts vars kn n .both i d with ⟨j, e, t⟩
 intro g f
 have hj : j ≤ ts.length := f.le
 unfold okRJ at g
 unfold okRJ thenT
 dsimp only at g f ⊢
 refine K.fn' hn55 _ rfl ((e55 ..).trans ?_)
 refine (askK_of g _).trans ?_
 by_cases he : e = 0
 ·subst he
  have hg := f.gt rfl
  obtain ⟨y, hy, h4⟩ := ih (.condL t) j d hj hd (by simp only [needJ] at hn ⊢; omega)
  rw [if_pos rfl, ← failb ts vars kn n t j d]
  obtain ⟨k, l, r, o, p, v, ks⟩ := t
  simp only [eTr, cuA, ND]
  refine (askK_of h4 _).trans ?_
  revert hy
  rcases jbP ts vars kn n (.condL (.mk k l r o p v ks)) j d with ⟨j2, e2, t2⟩
  intro hy
  obtain ⟨k, l, r, o, p, v, ks⟩ := y
  simp only [eTr, T0, tz, trB, cuB, ND]
  by_cases h0 : e2 = 0
  ·refine (br_eqT (by omega)).trans ?_
   rw [if_pos h0, h0, ← hy h0]
   rfl
  ·refine (br_eqF (by omega)).trans ?_
   rw [if_neg h0]
   rfl
 ·rw [if_neg he]
  obtain ⟨k, l, r, o, p, v, ks⟩ := t
  simp only [eTr, cuA, ND]
  refine (askK_of (rrow_errb K ts vars kn j d e (.mk k l r o p v ks) he) _).trans ?_
  simp only [eTr, T0, tz, trB, cuB, ND]
  refine (br_eqF (by omega)).trans ?_
  rfl
theorem rjb_ok : ∀ (n : Nat) (j : Jb) (i d : Nat), i ≤ ts.length → d ≤ 60 → needJ ts j i ≤ n → okRJ D ts vars kn j i d (jbP ts vars kn n j i d) := by
 intro n
 induction n with
 | zero => intro j i d _ _ hn; cases j <;> simp [needJ] at hn
 | succ n ih =>
  intro j i d hi hd hn
  cases j with
  | one => exact rone_step K L H hnum vars kn hv n ih i d hi hd hn
  | both => exact rall_stepa K L H hnum vars kn hv n ih i d hi hd hn
  | cond => exact rall_stepb K L H hnum vars kn hv n ih i d hi hd hn
  | bothL x => exact rloop_stepa K L H hnum vars kn hv n ih x i d hi hd hn
  | condL x => exact rloop_stepb K L H hnum vars kn hv n ih x i d hi hd hn
end
end Go.Proofs.YtlmhajfbpplpoaaGreat
namespace Go.Proofs.YtlmhajfbpplpoaaGreat
open Go.RowKit

section
variable {ts : List Tk} (H : Toks ts) {i : Nat} (he : ts.length ≤ i)
include H he
theorem isT_end (s : List UInt8) : isT ts i s = false := by
 cases h : isT ts i s with
 | false => rfl
 | true => have := H.isT h; omega
theorem begP_end : begP ts i = false := by
 unfold begP isN
 rw [H.past he]
 rfl
theorem sumP_end (vars : List ByteArray) (kn : Bool) : sumP ts vars kn i = (i, 101, []) := by
 unfold sumP
 rw [isT_end H he, if_neg (by simp)]
 unfold sumL
 rw [if_pos (begP_end H he)]
end
def condP (ts : List Tk) (vars : List ByteArray) (kn : Bool) (i : Nat) : Nat × Nat × Tr := if i ≤ ts.length then jbP ts vars kn (4 * ts.length + 3) .cond i 0 else (i, 101, T0)
section
variable {D : Orc} {ts : List Tk} (H : Toks ts) {i : Nat} (he : ts.length ≤ i) (hi : i + 300 < 4611686018427387904) (vars : List ByteArray) (kn : Bool) (hv : vars.length < 4611686018427387904) (d : Nat)
include H he hi hv
theorem compare_end (K : Knows ownC tabEa D) (Kb : Knows ownC tabEb D) (L : NameF D) : D.ask (.fn 249) [.ptr 0 0] [cuB ts vars kn i] = some (.tup [.agg (eTr T0), iv 101], [.set (cuB ts vars kn i)]) := by
 have hl := H.len
 have g := sum_ok K L ts vars kn (by omega) hv H.short i hi
 rw [sumP_end H he vars kn] at g
 refine Kb.fn' hn249 _ rfl ((e249 ..).trans ?_)
 refine (askK_of g _).trans ?_
 rfl
theorem one_end (K : Knows ownC tabEa D) (Kb : Knows ownC tabEb D) (L : NameF D) : D.ask (.fn 220) [.ptr 0 0, iv (d : Int)] [cuB ts vars kn i] = some (.tup [.agg (eTr T0), iv 101], [.set (cuB ts vars kn i)]) := by
 have hl := H.len
 have t0 := fun s => is_ok K ts vars kn i (by omega) (by omega) s
 have t1 := fun s => take_ok K ts vars kn i (by omega) (by omega) s
 simp only [isT_end H he, Bool.false_eq_true, if_false] at t0 t1
 refine Kb.fn' hn220 _ rfl ((e220 ..).trans ?_)
 refine (askK_of (t0 _) _).trans ?_
 simp only [cuB, ND]
 refine (askK_of (t0 _) _).trans ?_
 simp only [cuB, ND]
 refine (askK_of (t1 _) _).trans ?_
 simp only [cuB, ND]
 refine (askK_of (t1 _) _).trans ?_
 simp only [cuB, ND]
 refine (askK_of (t1 _) _).trans ?_
 simp only [cuB, ND]
 refine (askK_of (t1 _) _).trans ?_
 simp only [cuB, ND]
 refine (askK_of (compare_end H he hi vars kn hv K Kb L) _).trans ?_
 rfl
theorem both_end (K : Knows ownC tabEa D) (Kb : Knows ownC tabEb D) (L : NameF D) : D.ask (.fn 165) [.ptr 0 0, iv (d : Int)] [cuB ts vars kn i] = some (.tup [.agg (eTr T0), iv 101], [.set (cuB ts vars kn i)]) := by
 refine Kb.fn' hn165 _ rfl ((e165 ..).trans ?_)
 refine (askK_of (row_oka Kb ts vars kn i d i 101 T0 (i, 101, T0) (one_end H he hi vars kn hv d K Kb L) (fun _ => rfl) (fun h => absurd h (by simp))) _).trans ?_
 rfl
theorem cond_end (K : Knows ownC tabEa D) (Kb : Knows ownC tabEb D) (L : NameF D) : D.ask (.fn 104) [.ptr 0 0, iv (d : Int)] [cuB ts vars kn i] = some (.tup [.agg (eTr T0), iv 101], [.set (cuB ts vars kn i)]) := by
 refine Kb.fn' hn104 _ rfl ((e104 ..).trans ?_)
 refine (askK_of (row_okb Kb ts vars kn i d i 101 T0 (i, 101, T0) (both_end H he hi vars kn hv d K Kb L) (fun _ => rfl) (fun h => absurd h (by simp))) _).trans ?_
 rfl
variable (hnum : ∀ i, (nx ts i).kind = 3 → (nx ts i).text ≠ [])
include hnum
theorem rcompare_end (K : Knows ownC tabRa D) (L : RNameF D) : D.ask (.fn 221) [cuA ts vars kn i] [] = some (.tup [cuA ts vars kn i, .agg (eTr T0), iv 101], []) := by
 have hl := H.len
 have g := rsum_ok K L ts vars kn (by omega) hv H.short hnum i hi
 rw [sumP_end H he vars kn] at g
 refine K.fn' hn221 _ rfl ((e221 ..).trans ?_)
 refine (askK_of g _).trans ?_
 rfl
theorem rone_end (K : Knows ownC tabRa D) (L : RNameF D) : D.ask (.fn 166) [cuA ts vars kn i, iv (d : Int)] [] = some (.tup [cuA ts vars kn i, .agg (eTr T0), iv 101], []) := by
 have hl := H.len
 have t0 := fun s => tis_ok K ts vars kn i (by omega) s
 simp only [isT_end H he] at t0
 refine K.fn' hn166 _ rfl ((e166 ..).trans ?_)
 refine (askK_of (t0 _) _).trans ?_
 simp only [ND]
 refine (askK_of (t0 _) _).trans ?_
 simp only [ND]
 refine (askK_of (t0 _) _).trans ?_
 simp only [ND]
 refine (askK_of (t0 _) _).trans ?_
 simp only [ND]
 refine (askK_of (t0 _) _).trans ?_
 simp only [ND]
 refine (askK_of (t0 _) _).trans ?_
 simp only [ND]
 refine (askK_of (rcompare_end H he hi vars kn hv hnum K L) _).trans ?_
 rfl
theorem rboth_end (K : Knows ownC tabRa D) (L : RNameF D) : D.ask (.fn 105) [cuA ts vars kn i, iv (d : Int)] [] = some (.tup [cuA ts vars kn i, .agg (eTr T0), iv 101], []) := by
 refine K.fn' hn105 _ rfl ((e105 ..).trans ?_)
 refine (askK_of (rone_end H he hi vars kn hv d hnum K L) _).trans ?_
 simp only [eTr, eTrs, T0, List.map_nil, cuA, ND]
 refine (askK_of (rrow_erra K ts vars kn i d 101 T0 (by simp)) _).trans ?_
 rfl
theorem rcond_end (K : Knows ownC tabRa D) (L : RNameF D) : D.ask (.fn 55) [cuA ts vars kn i, iv (d : Int)] [] = some (.tup [cuA ts vars kn i, .agg (eTr T0), iv 101], []) := by
 refine K.fn' hn55 _ rfl ((e55 ..).trans ?_)
 refine (askK_of (rboth_end H he hi vars kn hv d hnum K L) _).trans ?_
 simp only [eTr, eTrs, T0, List.map_nil, cuA, ND]
 refine (askK_of (rrow_errb K ts vars kn i d 101 T0 (by simp)) _).trans ?_
 rfl
end
section
variable {D : Orc} {ts : List Tk} (H : Toks ts) (i : Nat) (hi : i + 300 < 4611686018427387904) (vars : List ByteArray) (kn : Bool) (hv : vars.length < 4611686018427387904)
include H hi hv
theorem condAt_ok (K : Knows ownC tabEa D) (Kb : Knows ownC tabEb D) (L : NameF D) : D.ask (.fn 54) [.ptr 0 0] [cuB ts vars kn i] = some (.tup [.agg (eTr (condP ts vars kn i).2.2), iv ((condP ts vars kn i).2.1 : Int)], [.set (cuB ts vars kn (condP ts vars kn i).1)]) := by
 refine Kb.fn' hn54 _ rfl ((e54 ..).trans ?_)
 unfold condP
 by_cases h : i ≤ ts.length
 ·have g := jb_ok K Kb L H vars kn hv (4 * ts.length + 3) .cond i 0 h (by omega) (by simp only [needJ]; omega)
  rw [if_pos h]
  refine (askK_of g _).trans ?_
  rcases jbP ts vars kn (4 * ts.length + 3) .cond i 0 with ⟨j2, e2, ⟨k, l, r, o, p, v, ks⟩⟩
  rfl
 ·rw [if_neg h]
  refine (askK_of (cond_end H (by omega) hi vars kn hv 0 K Kb L) _).trans ?_
  rfl
theorem rcondAt_ok (hnum : ∀ i, (nx ts i).kind = 3 → (nx ts i).text ≠ []) (K : Knows ownC tabRa D) (L : RNameF D) : D.ask (.fn 55) [cuA ts vars kn i, iv 0] [] = some (.tup [cuA ts vars kn (condP ts vars kn i).1, .agg (eTr (condP ts vars kn i).2.2), iv ((condP ts vars kn i).2.1 : Int)], []) := by
 unfold condP
 by_cases h : i ≤ ts.length
 ·have g := rjb_ok K L H hnum vars kn hv (4 * ts.length + 3) .cond i 0 h (by omega) (by simp only [needJ]; omega)
  rw [if_pos h]
  exact g
 ·rw [if_neg h]
  exact rcond_end H (by omega) hi vars kn hv 0 hnum K L
end
end Go.Proofs.YtlmhajfbpplpoaaGreat
namespace Go.Proofs.YtlmhajfbpplpoaaGreat
open Go.RowKit
def hs21 : Hints := [⟨31, [false, true, true, false, false, true, true], [], [2], [(1, ([false, false, false, false, false, true], ([], [2])))]⟩]
noncomputable def mf21 : MFn := mfD Tryz.prog entsC hs21 false false 21
def hn21 : Hnt := ⟨[(21, (.int .i64, []))], [(0, [(1, ([.int .i64], [.del]))])], [(9, [.ls]), (21, [.ls]), (23, [.int .i64, .ls, .ls, .int .i64, .str, .str, .ls]), (24, [.int .i64, .ls, .ls, .int .i64, .str, .str, .ls])]⟩
def hs19 : Hints := [⟨26, [true, true, false, false, false, true], [], [], [(0, ([false, false, false, false, true], ([], []))), (1, ([], ([], [])))]⟩]
noncomputable def mf19 : MFn := mfD Tryz.prog entsC hs19 false false 19
def hn19 : Hnt := ⟨[], [(0, [(0, ([.bool], [])), (1, ([], []))])], [(19, [.bool, .str, .str]), (20, [.bool, .str, .str]), (23, [.bool, .str, .str]), (24, [.bool, .str, .str])]⟩
def hs20 : Hints := [⟨76, [false, false, true, true, false, true], [], [2, 3], [(0, ([false, false, false, false, true], ([], [2, 3]))), (1, ([], ([], [2, 3])))]⟩]
noncomputable def mf20 : MFn := mfD Tryz.prog entsC hs20 false false 20
def hn20 : Hnt := ⟨[(19, (.bool, [])), (20, (.bool, []))], [(0, [(0, ([.bool], [.del, .del])), (1, ([], [.del, .del]))])], [(7, [.int .i64]), (9, [.int .i64]), (13, [.int .i64]), (15, [.int .i64]), (20, [.str]), (22, [.str]), (27, [.str]), (29, [.str]), (34, [.ls]), (36, [.ls]), (42, [.ls]), (44, [.ls]), (50, [.ls]), (53, [.ls]), (59, [.ls]), (65, [.ls]), (67, [.int .i64, .ls, .ls, .int .i64, .str, .str, .ls]), (68, [.int .i64, .ls, .ls, .int .i64, .str, .str, .ls]), (70, [.ls]), (72, [.int .i64, .ls, .ls, .int .i64, .str, .str, .ls]), (73, [.int .i64, .ls, .ls, .int .i64, .str, .str, .ls])]⟩
noncomputable def tabSa : List (Nat × MFn) := [(21, mf21), (19, mf19), (20, mf20)]
theorem e21 (A : Ar) (D : Orc) (x0_0 : Int) (x0_1 : List (List AV)) (x0_2 : List (List AV)) (x0_3 : Int) (x0_4 : ByteArray) (x0_5 : ByteArray) (x0_6 : List (List AV)) (x1 : Int) : fnK A D ownC hn21 .n 21 mf21 [AV.agg [iv x0_0, AV.ls x0_1, AV.ls x0_2, iv x0_3, sv x0_4, sv x0_5, AV.ls x0_6], iv x1] [] =
 askK D (Key.lp 21 0) [iv x1, AV.ptr 0 0, iv 1, iv 0] [ABlk.mk [iv x0_0, AV.ls x0_1, AV.ls x0_2, iv x0_3, sv x0_4, sv x0_5, AV.ls x0_6] true false] fun r o =>
 unTup r fun cs =>
 unCons cs fun c l =>
 br (axIs 1 c)
 (cInt IntKind.i64 l fun n l1 =>
 unNil l1 <|
 unOut o fun c1 l2 =>
 unDel c1 <|
 unEnd l2 <|
 some ((iv n, [])))
 (none) := by kernel_rfl

theorem e19 (A : Ar) (D : Orc) (x0 : List (List AV)) (x1 : List (List AV)) : fnK A D ownC hn19 .n 19 mf19 [AV.ls x0, AV.ls x1] [] =
 br (A.eq ↑(lenR x0) ↑(lenR x1))
 (askK D (Key.lp 19 0) [AV.ls x0, AV.ls x1, iv 0] [] fun r o =>
 unTup r fun cs =>
 unCons cs fun c l =>
 br (axIs 0 c)
 (cBool l fun b l1 =>
 unNil l1 <|
 unEnd o <|
 some ((bv b, [])))
 (br (axIs 1 c)
 (unNil l <|
 unEnd o <|
 some ((bv true, [])))
 (none)))
 (some ((bv false, []))) := by kernel_rfl

theorem e19_0 (A : Ar) (D : Orc) (t0 : List (List AV)) (t1 : List (List AV)) (t5 : Int) : lpK A D ownC hn19 .n 19 0 (lpAt mf19 0).fst (lpAt mf19 0).snd [AV.ls t0, AV.ls t1, iv t5] [] =
 br (A.lt t5 ↑(lenR t0))
 (unI t5 fun i =>
 nthK t0 i fun cs =>
 cBool cs fun b l =>
 cStr l fun s l1 =>
 cStr l1 fun s1 l2 =>
 unNil l2 <|
 unI t5 fun i1 =>
 nthK t1 i1 fun cs1 =>
 cBool cs1 fun b1 l3 =>
 cStr l3 fun s2 l4 =>
 cStr l4 fun s3 l5 =>
 unNil l5 <|
 br (A.not (A.band (A.beq b b1) (A.band (A.seq s s2) (A.band (A.seq s1 s3) true))))
 (some ((AV.tup [bv true, bv false], [])))
 (askK D (Key.lp 19 0) [AV.ls t0, AV.ls t1, iv (A.add IntKind.i64 t5 1)] [] fun r o =>
 tailK 0 [] (AH.mk [] 0 none) [] r o))
 (some ((AV.tup [iv 0], []))) := by kernel_rfl

theorem e20 (A : Ar) (D : Orc) (x0_0 : Int) (x0_1 : List (List AV)) (x0_2 : List (List AV)) (x0_3 : Int) (x0_4 : ByteArray) (x0_5 : ByteArray) (x0_6 : List (List AV)) (x1_0 : Int) (x1_1 : List (List AV)) (x1_2 : List (List AV)) (x1_3 : Int) (x1_4 : ByteArray) (x1_5 : ByteArray) (x1_6 : List (List AV)) : fnK A D ownC hn20 .n 20 mf20 [AV.agg [iv x0_0, AV.ls x0_1, AV.ls x0_2, iv x0_3, sv x0_4, sv x0_5, AV.ls x0_6], AV.agg [iv x1_0, AV.ls x1_1, AV.ls x1_2, iv x1_3, sv x1_4, sv x1_5, AV.ls x1_6]] [] =
 br (A.eq x0_0 x1_0)
 (br (A.eq x0_3 x1_3)
 (br (A.seq x0_4 x1_4)
 (br (A.seq x0_5 x1_5)
 (askK D (Key.fn 19) [AV.ls x0_1, AV.ls x1_1] [] fun r o =>
 unBool r fun b =>
 unEnd o <|
 br b
 (askK D (Key.fn 19) [AV.ls x0_2, AV.ls x1_2] [] fun r1 o1 =>
 unBool r1 fun b1 =>
 unEnd o1 <|
 br b1
 (br (A.eq ↑(lenR x0_6) ↑(lenR x1_6))
 (askK D (Key.lp 20 0) [AV.ptr 0 0, AV.ptr 1 0, iv 0] [ABlk.mk [iv x0_0, AV.ls x0_1, AV.ls x0_2, iv x0_3, sv x0_4, sv x0_5, AV.ls x0_6] true false, ABlk.mk [iv x1_0, AV.ls x1_1, AV.ls x1_2, iv x1_3, sv x1_4, sv x1_5, AV.ls x1_6] true false] fun r2 o2 =>
 unTup r2 fun cs =>
 unCons cs fun c l =>
 br (axIs 0 c)
 (cBool l fun b2 l1 =>
 unNil l1 <|
 unOut o2 fun c1 l2 =>
 unDel c1 <|
 unOut l2 fun c2 l3 =>
 unDel c2 <|
 unEnd l3 <|
 some ((bv b2, [])))
 (br (axIs 1 c)
 (unNil l <|
 unOut o2 fun c1 l1 =>
 unDel c1 <|
 unOut l1 fun c2 l2 =>
 unDel c2 <|
 unEnd l2 <|
 some ((bv true, [])))
 (none)))
 (some ((bv false, []))))
 (some ((bv false, []))))
 (some ((bv false, []))))
 (some ((bv false, []))))
 (some ((bv false, []))))
 (some ((bv false, []))))
 (some ((bv false, []))) := by kernel_rfl

theorem e20_0 (A : Ar) (D : Orc) (b2_0 : Int) (b2_1 : List (List AV)) (b2_2 : List (List AV)) (b2_3 : Int) (b2_4 : ByteArray) (b2_5 : ByteArray) (b2_6 : List (List AV)) (b3_0 : Int) (b3_1 : List (List AV)) (b3_2 : List (List AV)) (b3_3 : Int) (b3_4 : ByteArray) (b3_5 : ByteArray) (b3_6 : List (List AV)) (t5 : Int) : lpK A D ownC hn20 .n 20 0 (lpAt mf20 0).fst (lpAt mf20 0).snd [AV.ptr 0 0, AV.ptr 1 0, iv t5] [{ cells := [iv b2_0, AV.ls b2_1, AV.ls b2_2, iv b2_3, sv b2_4, sv b2_5, AV.ls b2_6], st := true, ex := false }, { cells := [iv b3_0, AV.ls b3_1, AV.ls b3_2, iv b3_3, sv b3_4, sv b3_5, AV.ls b3_6], st := true, ex := false }] =
 br (A.lt t5 ↑(lenR b2_6))
 (unI t5 fun i =>
 nthK b2_6 i fun cs =>
 cInt IntKind.i64 cs fun n l =>
 cLs l fun xs l1 =>
 cLs l1 fun xs1 l2 =>
 cInt IntKind.i64 l2 fun n1 l3 =>
 cStr l3 fun s l4 =>
 cStr l4 fun s1 l5 =>
 cLs l5 fun xs2 l6 =>
 unNil l6 <|
 unI t5 fun i1 =>
 nthK b3_6 i1 fun cs1 =>
 cInt IntKind.i64 cs1 fun n2 l7 =>
 cLs l7 fun xs3 l8 =>
 cLs l8 fun xs4 l9 =>
 cInt IntKind.i64 l9 fun n3 l10 =>
 cStr l10 fun s2 l11 =>
 cStr l11 fun s3 l12 =>
 cLs l12 fun xs5 l13 =>
 unNil l13 <|
 askK D (Key.fn 20) [AV.agg [iv n, AV.ls xs, AV.ls xs1, iv n1, sv s, sv s1, AV.ls xs2], AV.agg [iv n2, AV.ls xs3, AV.ls xs4, iv n3, sv s2, sv s3, AV.ls xs5]] [] fun r o =>
 unBool r fun b =>
 unEnd o <|
 br b
 (askK D (Key.lp 20 0) [AV.ptr 0 0, AV.ptr 1 0, iv (A.add IntKind.i64 t5 1)] [ABlk.mk [iv b2_0, AV.ls b2_1, AV.ls b2_2, iv b2_3, sv b2_4, sv b2_5, AV.ls b2_6] true false, ABlk.mk [iv b3_0, AV.ls b3_1, AV.ls b3_2, iv b3_3, sv b3_4, sv b3_5, AV.ls b3_6] true false] fun r1 o1 =>
 tailK 2 [0, 1] (AH.mk [(1, ABlk.mk [iv b3_0, AV.ls b3_1, AV.ls b3_2, iv b3_3, sv b3_4, sv b3_5, AV.ls b3_6] true false), (0, ABlk.mk [iv b2_0, AV.ls b2_1, AV.ls b2_2, iv b2_3, sv b2_4, sv b2_5, AV.ls b2_6] true false)] 2 none) [0, 1] r1 o1)
 (some ((AV.tup [bv true, bv false], [BO.del, BO.del]))))
 (some ((AV.tup [iv 0], [BO.del, BO.del]))) := by kernel_rfl
end Go.Proofs.YtlmhajfbpplpoaaGreat
