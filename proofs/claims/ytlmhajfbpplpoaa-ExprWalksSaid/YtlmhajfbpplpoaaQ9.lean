/-
  What the cursor's small functions come to.
  What the cursor's sums come to.
  How far a cursor comes. No program in sight.
  What the cursor's conditions come to.
  What the cursor's jobs come to.
  What the reference's small functions over a tape come to.
  What the reference's sums come to.
  What the reference's comparisons come to.
  What the reference's conditions come to.
  Sums and conditions from any place on, behind the end too: the cursor's and the reference's.
  A sum is the same as itself, and so is a tree; which trees come out of a text.
  What a whole text comes to: the program's and the reference's.
  A contract of the world as an answer of D: functions that hand back what is new. No program in sight.
  Tokens in new cells, read as rows. No program in sight.
  ExprWalks: what the law answers, of what is known of the lexer.
  Facts of the tokens of a text. No program in sight.
  What D answers, the program does. No program in sight.
  The seat of ExprWalks: its functions, and what is told from elsewhere (the lexer, walking).
  ExprWalks: for every input true, of the five contracts.
  The contracts in the form that the hand-walked texts have.
  ExprWalks' row, of the five contracts.
-/
import Derived.Test.YtlmhajfbpplpoaaQK
import Derived.Test.YtlmhajfbpplpoaaQ8
import Derived.Test.YtlmhajfbpplpoaaQ7
import Derived.Test.YtlmhajfbpplpoaaQ1
import Derived.ProofKit
set_option linter.unusedSectionVars false
set_option linter.unusedSimpArgs false
set_option linter.unusedVariables false
namespace Go.Proofs.Ytlmhajfbpplpoaa
open Go.RowKit

section
variable {D : Orc}
theorem nth_last {α : Type} (l : List α) (h : l ≠ []) (d : α) : l[l.length - 1]? = some (l.getLastD d) := by
  rw [← List.getLast?_eq_getElem?, List.getLast?_eq_some_getLast h, List.getLastD_eq_getLast?, List.getLast?_eq_some_getLast h]
  rfl
theorem at_ok (K : Knows ownC tabEa D) (ts : List Tk) (vars : List ByteArray) (kn : Bool) (i : Nat) (hts : ts.length < 4611686018427387904) (hi : i < 4611686018427387904) : D.ask (.fn 16) [.ptr 0 0] [cuB ts vars kn i] = some (.agg (eTk (nx ts i)), [.set (cuB ts vars kn i)]) := by
  refine K.fn' hn16 _ rfl ((e16 ..).trans ?_)
  simp only [r_eq, lenR_map, br_if]
  by_cases h0 : ts = []
  · subst h0
    rw [if_pos (by simp)]
    rfl
  · have hl : 0 < ts.length := List.length_pos_iff.2 h0
    rw [if_neg (by simp [h0])]
    have e1 : realA.sub .i64 (ts.length : Int) 1 = ((ts.length - 1 : Nat) : Int) := by rw [r_sub (by omega) (by omega)]; omega
    obtain ⟨k, e2, e3⟩ : ∃ k : Nat, realA.min (realA.max (i : Int) 0) (realA.sub .i64 (ts.length : Int) 1) = (k : Int) ∧ ts[k]? = some (nx ts i) := by
      rw [e1, r_max, r_min]
      unfold nx
      by_cases h : i < ts.length
      · exact ⟨i, by omega, by rw [List.getElem?_eq_getElem h]⟩
      · exact ⟨ts.length - 1, by omega, by rw [List.getElem?_eq_none (show ts.length ≤ i by omega), nth_last ts h0 ⟨5, [], 0, 0⟩]⟩
    rw [e2, unI_n]
    rw [nthK_some e3]
    simp only [eTk, unInt_iv, unBool_bv, unStr_sv, unLs_ls, unAgg_agg, unTup_tup, cInt_iv, cBool_bv, cStr_sv, cLs_ls, unNil_nil, unCons_cons, unEnd_nil, unOut_cons, unSet_set, unDel_del, unKeep_keep, unPtr_ptr, unSl_sl, ax_t, ax_i, ax_1, br_t, br_f]
    rfl
theorem is_ok (K : Knows ownC tabEa D) (ts : List Tk) (vars : List ByteArray) (kn : Bool) (i : Nat) (hts : ts.length < 4611686018427387904) (hi : i < 4611686018427387904) (s : List UInt8) : D.ask (.fn 27) [.ptr 0 0, sv (bstr s)] [cuB ts vars kn i] = some (bv (isT ts i s), [.set (cuB ts vars kn i)]) := by
  refine K.fn' hn27 _ rfl ((e27 ..).trans ?_)
  refine (askK_of (at_ok K ts vars kn i hts hi) _).trans ?_
  unfold isT
  simp only [eTk, cuB, unInt_iv, unBool_bv, unStr_sv, unLs_ls, unAgg_agg, unTup_tup, cInt_iv, cBool_bv, cStr_sv, cLs_ls, unNil_nil, unCons_cons, unEnd_nil, unOut_cons, unSet_set, unDel_del, unKeep_keep, unPtr_ptr, unSl_sl, ax_t, ax_i, ax_1, br_t, br_f, ci0, ci1, ci2, ci3, ci4, ci5, ci6, r_lt, r_le, r_eq, r_seq, r_slen, r_cat, r_beq, br_if, bstr_inj]
  by_cases h1 : (nx ts i).text = s <;> by_cases h2 : (nx ts i).kind = 1 <;> by_cases h3 : (nx ts i).kind = 2 <;> by_cases h4 : (nx ts i).kind = 4 <;> simp [h1, h2, h3, h4]
theorem take_ok (K : Knows ownC tabEa D) (ts : List Tk) (vars : List ByteArray) (kn : Bool) (i : Nat) (hts : ts.length < 4611686018427387904) (hi : i < 4611686018427387904) (s : List UInt8) : D.ask (.fn 19) [.ptr 0 0, sv (bstr s)] [cuB ts vars kn i] = some (bv (isT ts i s), [.set (cuB ts vars kn (if isT ts i s then i + 1 else i))]) := by
  refine K.fn' hn19 _ rfl ((e19 ..).trans ?_)
  refine (askK_of (is_ok K ts vars kn i hts hi s) _).trans ?_
  simp only [cuB, unInt_iv, unBool_bv, unStr_sv, unLs_ls, unAgg_agg, unTup_tup, cInt_iv, cBool_bv, cStr_sv, cLs_ls, unNil_nil, unCons_cons, unEnd_nil, unOut_cons, unSet_set, unDel_del, unKeep_keep, unPtr_ptr, unSl_sl, ax_t, ax_i, ax_1, br_t, br_f, add1 hi]
  cases isT ts i s <;> rfl
theorem want_ok (K : Knows ownC tabEa D) (ts : List Tk) (vars : List ByteArray) (kn : Bool) (i : Nat) (hts : ts.length < 4611686018427387904) (hi : i < 4611686018427387904) (s : List UInt8) : D.ask (.fn 17) [.ptr 0 0, sv (bstr s)] [cuB ts vars kn i] = some (iv (if isT ts i s then 0 else 101), [.set (cuB ts vars kn (if isT ts i s then i + 1 else i))]) := by
  refine K.fn' hn17 _ rfl ((e17 ..).trans ?_)
  refine (askK_of (take_ok K ts vars kn i hts hi s) _).trans ?_
  simp only [cuB, unInt_iv, unBool_bv, unStr_sv, unLs_ls, unAgg_agg, unTup_tup, cInt_iv, cBool_bv, cStr_sv, cLs_ls, unNil_nil, unCons_cons, unEnd_nil, unOut_cons, unSet_set, unDel_del, unKeep_keep, unPtr_ptr, unSl_sl, ax_t, ax_i, ax_1, br_t, br_f]
  cases isT ts i s <;> rfl
/-- What is known of names. -/
structure NameF (D : Orc) : Prop where
  name : ∀ s : List UInt8, s.length < 4611686018427387904 → D.ask (.fn 54) [sv (bstr s)] [] = some (bv (nameB s), [])
/-- The texts are not longer than can be. -/
def ShortT (ts : List Tk) : Prop := ∀ i, (nx ts i).text.length < 4611686018427387904
theorem name_ok (K : Knows ownC tabEa D) (L : NameF D) (ts : List Tk) (vars : List ByteArray) (kn : Bool) (i : Nat) (hts : ts.length < 4611686018427387904) (hs : ShortT ts) (hi : i < 4611686018427387904) : D.ask (.fn 42) [.ptr 0 0] [cuB ts vars kn i] = some (bv (isN ts i), [.set (cuB ts vars kn i)]) := by
  refine K.fn' hn42 _ rfl ((e42 ..).trans ?_)
  refine (askK_of (at_ok K ts vars kn i hts hi) _).trans ?_
  unfold isN
  simp only [eTk, cuB, unInt_iv, unBool_bv, unStr_sv, unLs_ls, unAgg_agg, unTup_tup, cInt_iv, cBool_bv, cStr_sv, cLs_ls, unNil_nil, unCons_cons, unEnd_nil, unOut_cons, unSet_set, unDel_del, unKeep_keep, unPtr_ptr, unSl_sl, ax_t, ax_i, ax_1, br_t, br_f, ci0, ci1, ci2, ci3, ci4, ci5, ci6, r_lt, r_le, r_eq, r_seq, r_slen, r_cat, r_beq]
  by_cases h : (nx ts i).kind = 1
  · simp only [h, decide_true, unInt_iv, unBool_bv, unStr_sv, unLs_ls, unAgg_agg, unTup_tup, cInt_iv, cBool_bv, cStr_sv, cLs_ls, unNil_nil, unCons_cons, unEnd_nil, unOut_cons, unSet_set, unDel_del, unKeep_keep, unPtr_ptr, unSl_sl, ax_t, ax_i, ax_1, br_t, br_f]
    refine (askK_of (L.name _ (hs i)) _).trans ?_
    simp only [unInt_iv, unBool_bv, unStr_sv, unLs_ls, unAgg_agg, unTup_tup, cInt_iv, cBool_bv, cStr_sv, cLs_ls, unNil_nil, unCons_cons, unEnd_nil, unOut_cons, unSet_set, unDel_del, unKeep_keep, unPtr_ptr, unSl_sl, ax_t, ax_i, ax_1, br_t, br_f]
    cases nameB (nx ts i).text <;> rfl
  · simp only [h, decide_false, unInt_iv, unBool_bv, unStr_sv, unLs_ls, unAgg_agg, unTup_tup, cInt_iv, cBool_bv, cStr_sv, cLs_ls, unNil_nil, unCons_cons, unEnd_nil, unOut_cons, unSet_set, unDel_del, unKeep_keep, unPtr_ptr, unSl_sl, ax_t, ax_i, ax_1, br_t, br_f]
    rfl
theorem begins_ok (K : Knows ownC tabEa D) (L : NameF D) (ts : List Tk) (vars : List ByteArray) (kn : Bool) (i : Nat) (hts : ts.length < 4611686018427387904) (hs : ShortT ts) (hi : i < 4611686018427387904) : D.ask (.fn 25) [.ptr 0 0] [cuB ts vars kn i] = some (bv (begP ts i), [.set (cuB ts vars kn i)]) := by
  refine K.fn' hn25 _ rfl ((e25 ..).trans ?_)
  refine (askK_of (at_ok K ts vars kn i hts hi) _).trans ?_
  unfold begP
  simp only [eTk, cuB, unInt_iv, unBool_bv, unStr_sv, unLs_ls, unAgg_agg, unTup_tup, cInt_iv, cBool_bv, cStr_sv, cLs_ls, unNil_nil, unCons_cons, unEnd_nil, unOut_cons, unSet_set, unDel_del, unKeep_keep, unPtr_ptr, unSl_sl, ax_t, ax_i, ax_1, br_t, br_f, ci0, ci1, ci2, ci3, ci4, ci5, ci6, r_lt, r_le, r_eq, r_seq, r_slen, r_cat, r_beq]
  by_cases h : (nx ts i).kind = 3
  · simp only [h, decide_true, unInt_iv, unBool_bv, unStr_sv, unLs_ls, unAgg_agg, unTup_tup, cInt_iv, cBool_bv, cStr_sv, cLs_ls, unNil_nil, unCons_cons, unEnd_nil, unOut_cons, unSet_set, unDel_del, unKeep_keep, unPtr_ptr, unSl_sl, ax_t, ax_i, ax_1, br_t, br_f]
    rfl
  · simp only [h, decide_false, unInt_iv, unBool_bv, unStr_sv, unLs_ls, unAgg_agg, unTup_tup, cInt_iv, cBool_bv, cStr_sv, cLs_ls, unNil_nil, unCons_cons, unEnd_nil, unOut_cons, unSet_set, unDel_del, unKeep_keep, unPtr_ptr, unSl_sl, ax_t, ax_i, ax_1, br_t, br_f]
    refine (askK_of (name_ok K L ts vars kn i hts hs hi) _).trans ?_
    simp only [cuB, unInt_iv, unBool_bv, unStr_sv, unLs_ls, unAgg_agg, unTup_tup, cInt_iv, cBool_bv, cStr_sv, cLs_ls, unNil_nil, unCons_cons, unEnd_nil, unOut_cons, unSet_set, unDel_del, unKeep_keep, unPtr_ptr, unSl_sl, ax_t, ax_i, ax_1, br_t, br_f]
    cases isN ts i <;> rfl
def placeI : Option Nat → Int
  | some j => j
  | none => -1
def placeR (i : Nat) : Option Nat → AV
  | some j => .tup [bv true, iv ((i + j : Nat) : Int)]
  | none => .tup [iv 0]
theorem index_lp (K : Knows ownC tabEa D) (xs : List ByteArray) (hx : xs.length < 4611686018427387904) (s : ByteArray) : ∀ (k i : Nat), xs.length - i = k → D.ask (.lp 63 0) [.ls (xs.map eS), sv s, iv (xs.length : Int), iv (i : Int)] [] = some (placeR i ((xs.drop i).findIdx? (s = ·)), []) := by
  intro k
  induction k with
  | zero =>
    intro i hi
    refine K.lp' hn63 _ rfl (by kernel_rfl) ((e63_0 ..).trans ?_)
    have : xs.drop i = [] := List.drop_eq_nil_of_le (by omega)
    simp only [r_lt, this, br_if]
    rw [if_neg (by simp; omega)]
    rfl
  | succ k ih =>
    intro i hi
    have hlt : i < xs.length := by omega
    refine K.lp' hn63 _ rfl (by kernel_rfl) ((e63_0 ..).trans ?_)
    have e1 : xs.drop i = xs[i] :: xs.drop (i + 1) := List.drop_eq_getElem_cons hlt
    have ih' := ih (i + 1) (by omega)
    have e2 : realA.add .i64 (i : Int) 1 = ((i + 1 : Nat) : Int) := add1 (by omega)
    simp only [r_lt, unI_n, nthK_map, List.getElem?_eq_getElem hlt, eS, cStr_sv, unNil_nil, r_seq, e2, br_if]
    rw [if_pos (by simpa using hlt), e1, List.findIdx?_cons]
    by_cases h : s = xs[i]
    · simp [← h, placeR]
    · rw [if_neg (by simpa using h), if_neg (by simpa using h)]
      refine (askK_of ih' _).trans ?_
      cases (xs.drop (i + 1)).findIdx? (s = ·) with
      | none => rfl
      | some j =>
        simp only [placeR, Option.map_some, show i + (j + 1) = i + 1 + j by omega]
        rfl
theorem index_ok (K : Knows ownC tabEa D) (xs : List ByteArray) (hx : xs.length < 4611686018427387904) (s : ByteArray) : D.ask (.fn 63) [.ls (xs.map eS), sv s] [] = some (iv (placeI (xs.findIdx? (s = ·))), []) := by
  refine K.fn' hn63 _ rfl ((e63 ..).trans ?_)
  rw [lenR_map]
  refine (askK_of (index_lp K xs hx s _ 0 rfl) _).trans ?_
  rw [List.drop_zero]
  cases xs.findIdx? (s = ·) with
  | none => rfl
  | some j => simp only [placeR, unInt_iv, unBool_bv, unStr_sv, unLs_ls, unAgg_agg, unTup_tup, cInt_iv, cBool_bv, cStr_sv, cLs_ls, unNil_nil, unCons_cons, unEnd_nil, unOut_cons, unSet_set, unDel_del, unKeep_keep, unPtr_ptr, unSl_sl, ax_t, ax_i, ax_1, br_t, br_f, Nat.zero_add]; rfl
theorem placeI_mem (xs : List ByteArray) (s : ByteArray) : decide (0 ≤ placeI (xs.findIdx? (s = ·))) = decide (s ∈ xs) := by
  cases e : xs.findIdx? (s = ·) with
  | none =>
    have := List.findIdx?_eq_none_iff.1 e
    have h : s ∉ xs := fun h => by simpa using this s h
    simp [placeI, h]
  | some j =>
    obtain ⟨h, h2, _⟩ := List.findIdx?_eq_some_iff_getElem.1 e
    have : s ∈ xs := by
      have h2 : s = xs[j] := by simpa using h2
      rw [h2]; exact List.getElem_mem h
    simp [placeI, this]
theorem contains_ok (K : Knows ownC tabEa D) (xs : List ByteArray) (hx : xs.length < 4611686018427387904) (s : ByteArray) : D.ask (.fn 55) [.ls (xs.map eS), sv s] [] = some (bv (decide (s ∈ xs)), []) := by
  refine K.fn' hn55 _ rfl ((e55 ..).trans ?_)
  refine (askK_of (index_ok K xs hx s) _).trans ?_
  simp only [unInt_iv, unBool_bv, unStr_sv, unLs_ls, unAgg_agg, unTup_tup, cInt_iv, cBool_bv, cStr_sv, cLs_ls, unNil_nil, unCons_cons, unEnd_nil, unOut_cons, unSet_set, unDel_del, unKeep_keep, unPtr_ptr, unSl_sl, ax_t, ax_i, ax_1, br_t, br_f, r_le, placeI_mem]
  cases decide (s ∈ xs) <;> rfl
theorem variable_ok (K : Knows ownC tabEa D) (L : NameF D) (ts : List Tk) (vars : List ByteArray) (kn : Bool) (i : Nat) (hts : ts.length < 4611686018427387904) (hv : vars.length < 4611686018427387904) (hs : ShortT ts) (hi : i < 4611686018427387904) : D.ask (.fn 43) [.ptr 0 0] [cuB ts vars kn i] = some (.tup [sv (varP ts vars kn i).2.2, iv ((varP ts vars kn i).2.1 : Int)], [.set (cuB ts vars kn (varP ts vars kn i).1)]) := by
  refine K.fn' hn43 _ rfl ((e43 ..).trans ?_)
  refine (askK_of (at_ok K ts vars kn i hts hi) _).trans ?_
  simp only [eTk, cuB, unInt_iv, unBool_bv, unStr_sv, unLs_ls, unAgg_agg, unTup_tup, cInt_iv, cBool_bv, cStr_sv, cLs_ls, unNil_nil, unCons_cons, unEnd_nil, unOut_cons, unSet_set, unDel_del, unKeep_keep, unPtr_ptr, unSl_sl, ax_t, ax_i, ax_1, br_t, br_f]
  refine (askK_of (name_ok K L ts vars kn i hts hs hi) _).trans ?_
  unfold varP
  simp only [cuB, unInt_iv, unBool_bv, unStr_sv, unLs_ls, unAgg_agg, unTup_tup, cInt_iv, cBool_bv, cStr_sv, cLs_ls, unNil_nil, unCons_cons, unEnd_nil, unOut_cons, unSet_set, unDel_del, unKeep_keep, unPtr_ptr, unSl_sl, ax_t, ax_i, ax_1, br_t, br_f, add1 hi]
  cases isN ts i with
  | false => rfl
  | true =>
    cases kn with
    | false => rfl
    | true =>
      simp only [unInt_iv, unBool_bv, unStr_sv, unLs_ls, unAgg_agg, unTup_tup, cInt_iv, cBool_bv, cStr_sv, cLs_ls, unNil_nil, unCons_cons, unEnd_nil, unOut_cons, unSet_set, unDel_del, unKeep_keep, unPtr_ptr, unSl_sl, ax_t, ax_i, ax_1, br_t, br_f, Bool.true_eq_false, if_false, true_and]
      refine (askK_of (contains_ok K vars hv _) _).trans ?_
      simp only [unInt_iv, unBool_bv, unStr_sv, unLs_ls, unAgg_agg, unTup_tup, cInt_iv, cBool_bv, cStr_sv, cLs_ls, unNil_nil, unCons_cons, unEnd_nil, unOut_cons, unSet_set, unDel_del, unKeep_keep, unPtr_ptr, unSl_sl, ax_t, ax_i, ax_1, br_t, br_f]
      by_cases h : bstr (nx ts i).text ∈ vars <;> simp only [h, decide_true, decide_false, unInt_iv, unBool_bv, unStr_sv, unLs_ls, unAgg_agg, unTup_tup, cInt_iv, cBool_bv, cStr_sv, cLs_ls, unNil_nil, unCons_cons, unEnd_nil, unOut_cons, unSet_set, unDel_del, unKeep_keep, unPtr_ptr, unSl_sl, ax_t, ax_i, ax_1, br_t, br_f, not_true, not_false_eq_true, if_true, if_false] <;> rfl
theorem varP_le (ts : List Tk) (vars : List ByteArray) (kn : Bool) (i : Nat) : i ≤ (varP ts vars kn i).1 ∧ (varP ts vars kn i).1 ≤ i + 1 := by
  unfold varP
  split
  · simp
  · split <;> simp
theorem monoP_le (ts : List Tk) (vars : List ByteArray) (kn : Bool) (i : Nat) (neg : Bool) : i ≤ (monoP ts vars kn i neg).1 ∧ (monoP ts vars kn i neg).1 ≤ i + 3 := by
  unfold monoP
  have h1 := varP_le ts vars kn i
  have h2 := varP_le ts vars kn (i + 2)
  split
  · split
    · simp only; omega
    · simp
  · simp only; omega
theorem mono_ok (K : Knows ownC tabEa D) (L : NameF D) (ts : List Tk) (vars : List ByteArray) (kn : Bool) (i : Nat) (hts : ts.length < 4611686018427387904) (hv : vars.length < 4611686018427387904) (hs : ShortT ts) (hi : i + 3 < 4611686018427387904) (neg : Bool) : D.ask (.fn 26) [.ptr 0 0, bv neg] [cuB ts vars kn i] = some (.tup [.agg (eMo (monoP ts vars kn i neg).2.2), iv ((monoP ts vars kn i neg).2.1 : Int)], [.set (cuB ts vars kn (monoP ts vars kn i neg).1)]) := by
  refine K.fn' hn26 _ rfl ((e26 ..).trans ?_)
  refine (askK_of (at_ok K ts vars kn i hts (by omega)) _).trans ?_
  unfold monoP eMo
  simp only [eTk, cuB, unInt_iv, unBool_bv, unStr_sv, unLs_ls, unAgg_agg, unTup_tup, cInt_iv, cBool_bv, cStr_sv, cLs_ls, unNil_nil, unCons_cons, unEnd_nil, unOut_cons, unSet_set, unDel_del, unKeep_keep, unPtr_ptr, unSl_sl, ax_t, ax_i, ax_1, br_t, br_f, ci0, ci1, ci2, ci3, ci4, ci5, ci6, r_lt, r_le, r_eq, r_seq, r_slen, r_cat, r_beq]
  by_cases h : (nx ts i).kind = 3
  · simp only [h, decide_true, unInt_iv, unBool_bv, unStr_sv, unLs_ls, unAgg_agg, unTup_tup, cInt_iv, cBool_bv, cStr_sv, cLs_ls, unNil_nil, unCons_cons, unEnd_nil, unOut_cons, unSet_set, unDel_del, unKeep_keep, unPtr_ptr, unSl_sl, ax_t, ax_i, ax_1, br_t, br_f, add1 (show i < 4611686018427387904 by omega), if_true]
    refine (askK_of (take_ok K ts vars kn (i + 1) hts (by omega) _) _).trans ?_
    simp only [cuB, unInt_iv, unBool_bv, unStr_sv, unLs_ls, unAgg_agg, unTup_tup, cInt_iv, cBool_bv, cStr_sv, cLs_ls, unNil_nil, unCons_cons, unEnd_nil, unOut_cons, unSet_set, unDel_del, unKeep_keep, unPtr_ptr, unSl_sl, ax_t, ax_i, ax_1, br_t, br_f]
    cases isT ts (i + 1) [42] with
    | false => rfl
    | true =>
      simp only [if_true, unInt_iv, unBool_bv, unStr_sv, unLs_ls, unAgg_agg, unTup_tup, cInt_iv, cBool_bv, cStr_sv, cLs_ls, unNil_nil, unCons_cons, unEnd_nil, unOut_cons, unSet_set, unDel_del, unKeep_keep, unPtr_ptr, unSl_sl, ax_t, ax_i, ax_1, br_t, br_f]
      refine (askK_of (variable_ok K L ts vars kn (i + 2) hts hv hs (by omega)) _).trans ?_
      simp only [cuB, unInt_iv, unBool_bv, unStr_sv, unLs_ls, unAgg_agg, unTup_tup, cInt_iv, cBool_bv, cStr_sv, cLs_ls, unNil_nil, unCons_cons, unEnd_nil, unOut_cons, unSet_set, unDel_del, unKeep_keep, unPtr_ptr, unSl_sl, ax_t, ax_i, ax_1, br_t, br_f]
  · simp only [h, decide_false, unInt_iv, unBool_bv, unStr_sv, unLs_ls, unAgg_agg, unTup_tup, cInt_iv, cBool_bv, cStr_sv, cLs_ls, unNil_nil, unCons_cons, unEnd_nil, unOut_cons, unSet_set, unDel_del, unKeep_keep, unPtr_ptr, unSl_sl, ax_t, ax_i, ax_1, br_t, br_f, if_false]
    refine (askK_of (variable_ok K L ts vars kn i hts hv hs (by omega)) _).trans ?_
    simp only [cuB, unInt_iv, unBool_bv, unStr_sv, unLs_ls, unAgg_agg, unTup_tup, cInt_iv, cBool_bv, cStr_sv, cLs_ls, unNil_nil, unCons_cons, unEnd_nil, unOut_cons, unSet_set, unDel_del, unKeep_keep, unPtr_ptr, unSl_sl, ax_t, ax_i, ax_1, br_t, br_f]
end
end Go.Proofs.Ytlmhajfbpplpoaa
namespace Go.Proofs.Ytlmhajfbpplpoaa
open Go.RowKit

section
variable {D : Orc}
theorem eMo_len (m : Mo) : (eMo m).length = 3 := rfl
theorem begP_mono {ts : List Tk} {vars : List ByteArray} {kn : Bool} {i : Nat} {neg : Bool} (h : begP ts i = false) : (monoP ts vars kn i neg).1 = i ∧ (monoP ts vars kn i neg).2.1 = 101 := by
  unfold begP at h
  simp only [Bool.or_eq_false_iff, decide_eq_false_iff_not] at h
  unfold monoP varP
  rw [if_neg h.1, if_pos h.2]
  exact ⟨rfl, rfl⟩
theorem sum_lp (K : Knows ownC tabEa D) (L : NameF D) (ts : List Tk) (vars : List ByteArray) (kn : Bool) (hts : ts.length < 4611686018427387904) (hv : vars.length < 4611686018427387904) (hs : ShortT ts) : ∀ (k : Nat) (out : List Mo) (neg : Bool) (i : Nat), out.length + k = 64 → i + 4 * (k + 1) < 4611686018427387904 →
    D.ask (.lp 7 0) [.ptr 0 0, .sl 1 0 out.length 3, bv neg] [cuB ts vars kn i, ABlk.mk (rowC eMo out) true true] = some (.tup [bv true, .ptr 0 0, .ls ((sumL ts vars kn k out neg i).2.2.map eMo), iv ((sumL ts vars kn k out neg i).2.1 : Int)], [.set (cuB ts vars kn (sumL ts vars kn k out neg i).1), .del]) := by
  intro k
  induction k with
  | zero =>
    intro out neg i hk hi
    refine K.lp' hn7 _ rfl (by kernel_rfl) ((e7_0 ..).trans ?_)
    have h64 : decide ((out.length : Int) = 64) = true := by simp; omega
    simp only [r_eq, h64, br_t]
    refine (askK_of (begins_ok K L ts vars kn i hts hs (by omega)) _).trans ?_
    simp only [cuB, unInt_iv, unBool_bv, unStr_sv, unLs_ls, unAgg_agg, unTup_tup, cInt_iv, cBool_bv, cStr_sv, cLs_ls, unNil_nil, unCons_cons, unEnd_nil, unOut_cons, unSet_set, unDel_del, unKeep_keep, unPtr_ptr, unSl_sl, ax_t, ax_i, ax_1, br_t, br_f]
    unfold sumL
    cases hb : begP ts i with
    | true => rfl
    | false =>
      simp only [unInt_iv, unBool_bv, unStr_sv, unLs_ls, unAgg_agg, unTup_tup, cInt_iv, cBool_bv, cStr_sv, cLs_ls, unNil_nil, unCons_cons, unEnd_nil, unOut_cons, unSet_set, unDel_del, unKeep_keep, unPtr_ptr, unSl_sl, ax_t, ax_i, ax_1, br_t, br_f]
      refine (askK_of (mono_ok K L ts vars kn i hts hv hs (by omega) neg) _).trans ?_
      obtain ⟨h1, h2⟩ := begP_mono (vars := vars) (kn := kn) (neg := neg) hb
      simp only [cuB, eMo, unInt_iv, unBool_bv, unStr_sv, unLs_ls, unAgg_agg, unTup_tup, cInt_iv, cBool_bv, cStr_sv, cLs_ls, unNil_nil, unCons_cons, unEnd_nil, unOut_cons, unSet_set, unDel_del, unKeep_keep, unPtr_ptr, unSl_sl, ax_t, ax_i, ax_1, br_t, br_f, h1, h2]
      rfl
  | succ k ih =>
    intro out neg i hk hi
    refine K.lp' hn7 _ rfl (by kernel_rfl) ((e7_0 ..).trans ?_)
    have h64 : decide ((out.length : Int) = 64) = false := by simp; omega
    simp only [r_eq, h64, br_f]
    refine (askK_of (mono_ok K L ts vars kn i hts hv hs (by omega) neg) _).trans ?_
    have hle := monoP_le ts vars kn i neg
    cases hb : begP ts i with
    | false =>
      obtain ⟨h1, h2⟩ := begP_mono (vars := vars) (kn := kn) (neg := neg) hb
      have e : sumL ts vars kn (k + 1) out neg i = (i, 101, []) := by unfold sumL; rw [if_pos hb]
      rw [e]
      simp only [cuB, eMo, unInt_iv, unBool_bv, unStr_sv, unLs_ls, unAgg_agg, unTup_tup, cInt_iv, cBool_bv, cStr_sv, cLs_ls, unNil_nil, unCons_cons, unEnd_nil, unOut_cons, unSet_set, unDel_del, unKeep_keep, unPtr_ptr, unSl_sl, ax_t, ax_i, ax_1, br_t, br_f, h1, h2]
      rfl
    | true =>
      by_cases he : (monoP ts vars kn i neg).2.1 = 0
      · have e3 : List.drop 0 (List.take (0 + out.length * 3) (rowC eMo out)) ++ [bv (monoP ts vars kn i neg).2.2.neg, sv (monoP ts vars kn i neg).2.2.num, sv (monoP ts vars kn i neg).2.2.var] = rowC eMo (out ++ [(monoP ts vars kn i neg).2.2]) := by
          rw [List.drop_zero, rowC_all eMo_len out (by omega)]
          exact rowC_snoc eMo out _
        have hf : fitsB (out.length + 1) 40 = true := fits_small (by omega) (by omega)
        have hb1 : Nat.ble (0 + out.length * 3) (rowC eMo out).length = true := ble_row eMo_len out (by omega)
        have hd : decide (((monoP ts vars kn i neg).2.1 : Int) = 0) = true := by rw [he]; rfl
        have hb2 : Nat.ble (0 + (out.length + 1) * 3) (rowC eMo (out ++ [(monoP ts vars kn i neg).2.2])).length = true := ble_row eMo_len _ (by simp)
        have hc : chunk (out.length + 1) 3 (List.take ((out.length + 1) * 3) (List.drop 0 (rowC eMo (out ++ [(monoP ts vars kn i neg).2.2])))) = (out ++ [(monoP ts vars kn i neg).2.2]).map eMo := by
          rw [List.drop_zero]
          exact chunk_of eMo_len _ (by simp)
        simp only [cuB, eMo, unInt_iv, unBool_bv, unStr_sv, unLs_ls, unAgg_agg, unTup_tup, cInt_iv, cBool_bv, cStr_sv, cLs_ls, unNil_nil, unCons_cons, unEnd_nil, unOut_cons, unSet_set, unDel_del, unKeep_keep, unPtr_ptr, unSl_sl, ax_t, ax_i, ax_1, br_t, br_f, r_eq, hd, hf, hb1, e3, hb2, hc]
        refine (askK_of (is_ok K ts vars kn _ hts (by omega) _) _).trans ?_
        have ih1 := ih (out ++ [(monoP ts vars kn i neg).2.2]) true ((monoP ts vars kn i neg).1 + 1) (by simp; omega) (by omega)
        have ih2 := ih (out ++ [(monoP ts vars kn i neg).2.2]) false ((monoP ts vars kn i neg).1 + 1) (by simp; omega) (by omega)
        rw [List.length_append, List.length_singleton] at ih1 ih2
        have e : sumL ts vars kn (k + 1) out neg i = if isT ts (monoP ts vars kn i neg).1 [45] then sumL ts vars kn k (out ++ [(monoP ts vars kn i neg).2.2]) true ((monoP ts vars kn i neg).1 + 1)
            else if isT ts (monoP ts vars kn i neg).1 [43] then sumL ts vars kn k (out ++ [(monoP ts vars kn i neg).2.2]) false ((monoP ts vars kn i neg).1 + 1)
            else ((monoP ts vars kn i neg).1, 0, out ++ [(monoP ts vars kn i neg).2.2]) := by
          rw [sumL, hb, if_neg (by simp)]
          rw [if_neg (by simp [he])]
        rw [e]
        simp only [cuB, unInt_iv, unBool_bv, unStr_sv, unLs_ls, unAgg_agg, unTup_tup, cInt_iv, cBool_bv, cStr_sv, cLs_ls, unNil_nil, unCons_cons, unEnd_nil, unOut_cons, unSet_set, unDel_del, unKeep_keep, unPtr_ptr, unSl_sl, ax_t, ax_i, ax_1, br_t, br_f]
        have tk := take_ok K ts vars kn (monoP ts vars kn i neg).1 hts (by omega) [45]
        have tp := take_ok K ts vars kn (monoP ts vars kn i neg).1 hts (by omega) [43]
        cases h45 : isT ts (monoP ts vars kn i neg).1 [45] with
        | true =>
          rw [h45] at tk
          simp only [unInt_iv, unBool_bv, unStr_sv, unLs_ls, unAgg_agg, unTup_tup, cInt_iv, cBool_bv, cStr_sv, cLs_ls, unNil_nil, unCons_cons, unEnd_nil, unOut_cons, unSet_set, unDel_del, unKeep_keep, unPtr_ptr, unSl_sl, ax_t, ax_i, ax_1, br_t, br_f, if_true]
          refine (askK_of tk _).trans ?_
          simp only [cuB, unInt_iv, unBool_bv, unStr_sv, unLs_ls, unAgg_agg, unTup_tup, cInt_iv, cBool_bv, cStr_sv, cLs_ls, unNil_nil, unCons_cons, unEnd_nil, unOut_cons, unSet_set, unDel_del, unKeep_keep, unPtr_ptr, unSl_sl, ax_t, ax_i, ax_1, br_t, br_f, if_true]
          refine (askK_of ih1 _).trans ?_
          rfl
        | false =>
          rw [h45] at tk
          simp only [unInt_iv, unBool_bv, unStr_sv, unLs_ls, unAgg_agg, unTup_tup, cInt_iv, cBool_bv, cStr_sv, cLs_ls, unNil_nil, unCons_cons, unEnd_nil, unOut_cons, unSet_set, unDel_del, unKeep_keep, unPtr_ptr, unSl_sl, ax_t, ax_i, ax_1, br_t, br_f]
          refine (askK_of tk _).trans ?_
          simp only [cuB, unInt_iv, unBool_bv, unStr_sv, unLs_ls, unAgg_agg, unTup_tup, cInt_iv, cBool_bv, cStr_sv, cLs_ls, unNil_nil, unCons_cons, unEnd_nil, unOut_cons, unSet_set, unDel_del, unKeep_keep, unPtr_ptr, unSl_sl, ax_t, ax_i, ax_1, br_t, br_f, Bool.false_eq_true, if_false]
          refine (askK_of tp _).trans ?_
          simp only [cuB, unInt_iv, unBool_bv, unStr_sv, unLs_ls, unAgg_agg, unTup_tup, cInt_iv, cBool_bv, cStr_sv, cLs_ls, unNil_nil, unCons_cons, unEnd_nil, unOut_cons, unSet_set, unDel_del, unKeep_keep, unPtr_ptr, unSl_sl, ax_t, ax_i, ax_1, br_t, br_f]
          cases h43 : isT ts (monoP ts vars kn i neg).1 [43] with
          | true =>
            simp only [unInt_iv, unBool_bv, unStr_sv, unLs_ls, unAgg_agg, unTup_tup, cInt_iv, cBool_bv, cStr_sv, cLs_ls, unNil_nil, unCons_cons, unEnd_nil, unOut_cons, unSet_set, unDel_del, unKeep_keep, unPtr_ptr, unSl_sl, ax_t, ax_i, ax_1, br_t, br_f, if_true]
            refine (askK_of ih2 _).trans ?_
            rfl
          | false => rfl
      · have e : sumL ts vars kn (k + 1) out neg i = ((monoP ts vars kn i neg).1, (monoP ts vars kn i neg).2.1, []) := by
          rw [sumL, hb, if_neg (by simp)]
          rw [if_pos he]
        rw [e]
        have hd : decide (((monoP ts vars kn i neg).2.1 : Int) = 0) = false := by simp; exact he
        simp only [cuB, eMo, unInt_iv, unBool_bv, unStr_sv, unLs_ls, unAgg_agg, unTup_tup, cInt_iv, cBool_bv, cStr_sv, cLs_ls, unNil_nil, unCons_cons, unEnd_nil, unOut_cons, unSet_set, unDel_del, unKeep_keep, unPtr_ptr, unSl_sl, ax_t, ax_i, ax_1, br_t, br_f, r_eq, hd]
        rfl
theorem sum_ok (K : Knows ownC tabEa D) (L : NameF D) (ts : List Tk) (vars : List ByteArray) (kn : Bool) (hts : ts.length < 4611686018427387904) (hv : vars.length < 4611686018427387904) (hs : ShortT ts) (i : Nat) (hi : i + 300 < 4611686018427387904) : D.ask (.fn 7) [.ptr 0 0] [cuB ts vars kn i] = some (.tup [.ls ((sumP ts vars kn i).2.2.map eMo), iv ((sumP ts vars kn i).2.1 : Int)], [.set (cuB ts vars kn (sumP ts vars kn i).1)]) := by
  refine K.fn' hn7 _ rfl ((e7 ..).trans ?_)
  refine (askK_of (take_ok K ts vars kn i hts (by omega) _) _).trans ?_
  unfold sumP
  simp only [cuB, unInt_iv, unBool_bv, unStr_sv, unLs_ls, unAgg_agg, unTup_tup, cInt_iv, cBool_bv, cStr_sv, cLs_ls, unNil_nil, unCons_cons, unEnd_nil, unOut_cons, unSet_set, unDel_del, unKeep_keep, unPtr_ptr, unSl_sl, ax_t, ax_i, ax_1, br_t, br_f]
  cases isT ts i [45] with
  | true =>
    simp only [unInt_iv, unBool_bv, unStr_sv, unLs_ls, unAgg_agg, unTup_tup, cInt_iv, cBool_bv, cStr_sv, cLs_ls, unNil_nil, unCons_cons, unEnd_nil, unOut_cons, unSet_set, unDel_del, unKeep_keep, unPtr_ptr, unSl_sl, ax_t, ax_i, ax_1, br_t, br_f, if_true]
    refine (askK_of (sum_lp K L ts vars kn hts hv hs 64 [] true (i + 1) rfl (by omega)) _).trans ?_
    rfl
  | false =>
    simp only [unInt_iv, unBool_bv, unStr_sv, unLs_ls, unAgg_agg, unTup_tup, cInt_iv, cBool_bv, cStr_sv, cLs_ls, unNil_nil, unCons_cons, unEnd_nil, unOut_cons, unSet_set, unDel_del, unKeep_keep, unPtr_ptr, unSl_sl, ax_t, ax_i, ax_1, br_t, br_f, Bool.false_eq_true, if_false]
    refine (askK_of (sum_lp K L ts vars kn hts hv hs 64 [] false i rfl (by omega)) _).trans ?_
    rfl
end
end Go.Proofs.Ytlmhajfbpplpoaa
namespace Go.Proofs.Ytlmhajfbpplpoaa
open Go.RowKit

/-- Tokens that end in one of kind 5 and are not too many. -/
structure Toks (ts : List Tk) : Prop where
  len : ts.length + 300 < 4611686018427387904
  short : ∀ i, (nx ts i).text.length < 4611686018427387904
  fin : (ts.getLastD ⟨5, [], 0, 0⟩).kind = 5
theorem Toks.past {ts : List Tk} (H : Toks ts) {i : Nat} (h : ts.length ≤ i) : (nx ts i).kind = 5 := by
  unfold nx
  rw [List.getElem?_eq_none h]
  exact H.fin
theorem Toks.isT {ts : List Tk} (H : Toks ts) {i : Nat} {s : List UInt8} (h : isT ts i s = true) : i < ts.length := by
  by_cases hi : i < ts.length
  · exact hi
  · unfold Go.Proofs.Ytlmhajfbpplpoaa.isT at h
    rw [H.past (by omega)] at h
    simp at h
theorem Toks.isN {ts : List Tk} (H : Toks ts) {i : Nat} (h : isN ts i = true) : i < ts.length := by
  by_cases hi : i < ts.length
  · exact hi
  · unfold Go.Proofs.Ytlmhajfbpplpoaa.isN at h
    rw [H.past (by omega)] at h
    simp at h
theorem Toks.num {ts : List Tk} (H : Toks ts) {i : Nat} (h : (nx ts i).kind = 3) : i < ts.length := by
  by_cases hi : i < ts.length
  · exact hi
  · rw [H.past (by omega)] at h
    simp at h
/-- From i on to j, no farther than the end; without an error, at least one. -/
structure Far (ts : List Tk) (i j e : Nat) : Prop where
  ge : i ≤ j
  le : j ≤ ts.length
  gt : e = 0 → i < j
theorem Far.trans {ts : List Tk} {i j e k e2 : Nat} (h : Far ts i j e) (h2 : Far ts j k e2) : Far ts i k e2 := ⟨by have := h.ge; have := h2.ge; omega, h2.le, fun he => by have := h.ge; have := h2.gt he; omega⟩
section
variable {ts : List Tk} (H : Toks ts) (vars : List ByteArray) (kn : Bool)
include H
theorem varP_far {i : Nat} (hi : i ≤ ts.length) : Far ts i (varP ts vars kn i).1 (varP ts vars kn i).2.1 := by
  unfold varP
  cases h : isN ts i with
  | false => rw [if_pos rfl]; exact ⟨Nat.le_refl _, hi, fun h => absurd h (by simp)⟩
  | true =>
    have := H.isN h
    rw [if_neg (by simp)]
    split
    · exact ⟨Nat.le_refl _, hi, fun h => absurd h (by simp)⟩
    · exact ⟨Nat.le_succ _, this, fun _ => Nat.lt_succ_self _⟩
theorem monoP_far {i : Nat} (hi : i ≤ ts.length) (neg : Bool) : Far ts i (monoP ts vars kn i neg).1 (monoP ts vars kn i neg).2.1 := by
  unfold monoP
  split
  · rename_i h3
    have := H.num h3
    cases h : isT ts (i + 1) [42] with
    | true =>
      have h1 := H.isT h
      have h2 := varP_far H vars kn (show i + 2 ≤ ts.length by omega)
      rw [if_pos rfl]
      exact ⟨by have := h2.ge; simp only; omega, h2.le, fun _ => by have := h2.ge; simp only; omega⟩
    | false =>
      rw [if_neg (by simp)]
      exact ⟨Nat.le_succ _, this, fun _ => Nat.lt_succ_self _⟩
  · exact varP_far H vars kn hi
theorem sumL_far : ∀ (k : Nat) (out : List Mo) (neg : Bool) (i : Nat), i ≤ ts.length → Far ts i (sumL ts vars kn k out neg i).1 (sumL ts vars kn k out neg i).2.1 := by
  intro k
  induction k with
  | zero =>
    intro out neg i hi
    unfold sumL
    split
    · exact ⟨Nat.le_refl _, hi, fun h => absurd h (by simp)⟩
    · exact ⟨Nat.le_refl _, hi, fun h => absurd h (by simp)⟩
  | succ k ih =>
    intro out neg i hi
    unfold sumL
    dsimp only
    have m := monoP_far H vars kn hi neg
    split
    · exact ⟨Nat.le_refl _, hi, fun h => absurd h (by simp)⟩
    · split
      · exact m
      · split
        · rename_i h
          have h1 := H.isT h
          have m2 := ih (out ++ [(monoP ts vars kn i neg).2.2]) true ((monoP ts vars kn i neg).1 + 1) (by omega)
          exact ⟨by have := m.ge; have := m2.ge; omega, m2.le, fun he => by have := m.ge; have := m2.gt he; omega⟩
        · split
          · rename_i h
            have h1 := H.isT h
            have m2 := ih (out ++ [(monoP ts vars kn i neg).2.2]) false ((monoP ts vars kn i neg).1 + 1) (by omega)
            exact ⟨by have := m.ge; have := m2.ge; omega, m2.le, fun he => by have := m.ge; have := m2.gt he; omega⟩
          · rename_i h _ _
            exact ⟨m.ge, m.le, fun _ => m.gt (by simpa using h)⟩
theorem sumP_far {i : Nat} (hi : i ≤ ts.length) : Far ts i (sumP ts vars kn i).1 (sumP ts vars kn i).2.1 := by
  unfold sumP
  split
  · rename_i h
    have h1 := H.isT h
    have m2 := sumL_far H vars kn 64 [] true (i + 1) (by omega)
    exact ⟨by have := m2.ge; omega, m2.le, fun he => by have := m2.gt he; omega⟩
  · exact sumL_far H vars kn 64 [] false i hi
theorem opP_far {i op : Nat} (h : opP ts i = some op) : i < ts.length := by
  unfold opP at h
  obtain ⟨h1, h2, _⟩ := List.findIdx?_eq_some_iff_getElem.1 h
  exact H.isT h2
theorem cmpP_far {i : Nat} (hi : i ≤ ts.length) : Far ts i (cmpP ts vars kn i).1 (cmpP ts vars kn i).2.1 := by
  unfold cmpP
  have m := sumP_far H vars kn hi
  split
  · exact m
  · rename_i h0
    have h0 : (sumP ts vars kn i).2.1 = 0 := by simpa using h0
    rw [h0] at m
    split
    · exact ⟨m.ge, m.le, fun h => absurd h (by simp)⟩
    · rename_i op h
      have h1 := opP_far H h
      have m2 := sumP_far H vars kn (show (sumP ts vars kn i).1 + 1 ≤ ts.length by omega)
      have h2 := m.gt rfl
      have h3 := m2.ge
      split
      · exact ⟨by simp only; omega, m2.le, fun _ => by simp only; omega⟩
      · exact ⟨by simp only; omega, m2.le, fun _ => by simp only; omega⟩
/-- What a job leaves behind it. -/
def farJ (ts : List Tk) : Jb → Nat → Nat → Nat → Prop
  | .one, i, j, e => Far ts i j e
  | .both, i, j, e => Far ts i j e
  | .cond, i, j, e => Far ts i j e
  | _, i, j, _ => i ≤ j ∧ j ≤ ts.length
theorem jbP_far : ∀ (n : Nat) (j : Jb) (i d : Nat), i ≤ ts.length → farJ ts j i (jbP ts vars kn n j i d).1 (jbP ts vars kn n j i d).2.1 := by
  intro n
  induction n with
  | zero => intro j i d hi; cases j <;> first | exact ⟨Nat.le_refl _, hi, fun h => absurd h (by simp [jbP])⟩ | exact ⟨Nat.le_refl _, hi⟩
  | succ n ih =>
    intro j i d hi
    have stay : ∀ e : Nat, e ≠ 0 → Far ts i i e := fun e he => ⟨Nat.le_refl _, hi, fun h => absurd h he⟩
    cases j with
    | one =>
      unfold jbP farJ
      dsimp only
      split
      · exact stay _ (by simp)
      · split
        · rename_i h; exact ⟨Nat.le_succ _, H.isT h, fun _ => Nat.lt_succ_self _⟩
        · split
          · rename_i h; exact ⟨Nat.le_succ _, H.isT h, fun _ => Nat.lt_succ_self _⟩
          · split
            · rename_i h
              have m : Far ts (i + 1) _ _ := ih .one (i + 1) (d + 1) (H.isT h)
              have := m.ge
              unfold thenT failT
              split
              · exact ⟨by simp only; omega, m.le, fun _ => by simp only; omega⟩
              · exact ⟨by simp only; omega, m.le, fun _ => by simp only; omega⟩
            · split
              · rename_i h
                have m : Far ts (i + 1) _ _ := ih .cond (i + 1) (d + 1) (H.isT h)
                have := m.ge
                unfold thenT failT
                split
                · dsimp only
                  split
                  · rename_i h2
                    have := H.isT h2
                    exact ⟨by simp only; omega, by simp only; omega, fun _ => by simp only; omega⟩
                  · exact ⟨by simp only; omega, m.le, fun _ => by simp only; omega⟩
                · exact ⟨by simp only; omega, m.le, fun _ => by simp only; omega⟩
              · exact cmpP_far H vars kn hi
    | both =>
      unfold jbP farJ thenT
      dsimp only
      have m : Far ts i _ _ := ih .one i d hi
      split
      · rename_i h
        have m2 : _ ∧ _ := ih (.bothL (jbP ts vars kn n .one i d).2.2) _ d m.le
        have := m.gt h
        exact ⟨by omega, m2.2, fun _ => by omega⟩
      · exact m
    | cond =>
      unfold jbP farJ thenT
      dsimp only
      have m : Far ts i _ _ := ih .both i d hi
      split
      · rename_i h
        have m2 : _ ∧ _ := ih (.condL (jbP ts vars kn n .both i d).2.2) _ d m.le
        have := m.gt h
        exact ⟨by omega, m2.2, fun _ => by omega⟩
      · exact m
    | bothL x =>
      unfold jbP farJ thenT
      dsimp only
      split
      · rename_i h
        have m : Far ts (i + 1) _ _ := ih .one (i + 1) d (H.isT h)
        have := m.ge
        split
        · have m2 : _ ∧ _ := ih (.bothL (.mk 4 [] [] 0 (bstr []) (bstr []) [x, (jbP ts vars kn n .one (i + 1) d).2.2])) _ d m.le
          exact ⟨by omega, m2.2⟩
        · exact ⟨by unfold failT; simp only; omega, m.le⟩
      · exact ⟨Nat.le_refl _, hi⟩
    | condL x =>
      unfold jbP farJ thenT
      dsimp only
      split
      · rename_i h
        have m : Far ts (i + 1) _ _ := ih .both (i + 1) d (H.isT h)
        have := m.ge
        split
        · have m2 : _ ∧ _ := ih (.condL (.mk 5 [] [] 0 (bstr []) (bstr []) [x, (jbP ts vars kn n .both (i + 1) d).2.2])) _ d m.le
          exact ⟨by omega, m2.2⟩
        · exact ⟨by unfold failT; simp only; omega, m.le⟩
      · exact ⟨Nat.le_refl _, hi⟩
/-- How much a job needs. -/
def needJ (ts : List Tk) : Jb → Nat → Nat
  | .one, i => 4 * (ts.length - i) + 1
  | .both, i => 4 * (ts.length - i) + 2
  | .bothL _, i => 4 * (ts.length - i) + 2
  | .cond, i => 4 * (ts.length - i) + 3
  | .condL _, i => 4 * (ts.length - i) + 3
end
end Go.Proofs.Ytlmhajfbpplpoaa
namespace Go.Proofs.Ytlmhajfbpplpoaa
open Go.RowKit

section
variable {D : Orc}
def eOp (s : List UInt8) : List AV := [sv (bstr s)]
theorem compares_ok (K : Knows ownC tabEa D) : D.ask (.fn 68) [] [] = some (.ls (opsL.map eOp), []) :=
  K.fn' hn68 _ rfl ((e68 ..).trans rfl)
def keepC (b : Bool) (x : ABlk) : List BO := if b then [.set x] else [.keep]
def pickR (ts : List Tk) (vars : List ByteArray) (kn : Bool) (i j : Nat) (b : Bool) : Option Nat → AV × List BO
  | some m => (.tup [bv true, iv ((j + m : Nat) : Int)], [.set (cuB ts vars kn (i + 1))])
  | none => (.tup [iv 0], keepC b (cuB ts vars kn i))
theorem pick_lp (K : Knows ownC tabEa D) (Kb : Knows ownC tabEb D) {ts : List Tk} (H : Toks ts) (vars : List ByteArray) (kn : Bool) (i : Nat) (hi : i ≤ ts.length) (xs : List (List UInt8)) (hx : xs.length < 4611686018427387904) : ∀ (k j : Nat), xs.length - j = k →
    D.ask (.lp 67 0) [.ls (xs.map eOp), .fn (.func 19) [.ptr 0 0] [], iv (xs.length : Int), iv (j : Int)] [cuB ts vars kn i] = some (pickR ts vars kn i j (decide (j < xs.length)) ((xs.drop j).findIdx? (isT ts i))) := by
  have hl := H.len
  intro k
  induction k with
  | zero =>
    intro j hj
    refine Kb.lp' hn67 _ rfl (by kernel_rfl) ((e67_0 ..).trans ?_)
    have h1 : xs.drop j = [] := List.drop_eq_nil_of_le (by omega)
    have h2 : decide ((j : Int) < (xs.length : Int)) = false := by simp; omega
    have h3 : decide (j < xs.length) = false := by simp; omega
    simp only [r_lt, h1, h2, h3, br_f]
    rfl
  | succ k ih =>
    intro j hj
    have hlt : j < xs.length := by omega
    refine Kb.lp' hn67 _ rfl (by kernel_rfl) ((e67_0 ..).trans ?_)
    have e1 : xs.drop j = xs[j] :: xs.drop (j + 1) := List.drop_eq_getElem_cons hlt
    have ih' := ih (j + 1) (by omega)
    have h2 : decide ((j : Int) < (xs.length : Int)) = true := by simp; omega
    have h3 : decide (j < xs.length) = true := by simp; omega
    simp only [r_lt, h2, h3, br_t, unI_n, nthK_map, List.getElem?_eq_getElem hlt, eOp, cStr_sv, unNil_nil, e1, List.findIdx?_cons]
    refine (askK_of (take_ok K ts vars kn i (by omega) (by omega) _) _).trans ?_
    simp only [cuB, unInt_iv, unBool_bv, unStr_sv, unLs_ls, unAgg_agg, unTup_tup, cInt_iv, cBool_bv, cStr_sv, cLs_ls, unNil_nil, unCons_cons, unEnd_nil, unOut_cons, unSet_set, unDel_del, unKeep_keep, unPtr_ptr, unSl_sl, ax_t, ax_i, ax_1, br_t, br_f]
    cases hT : isT ts i xs[j] with
    | true =>
      simp only [unInt_iv, unBool_bv, unStr_sv, unLs_ls, unAgg_agg, unTup_tup, cInt_iv, cBool_bv, cStr_sv, cLs_ls, unNil_nil, unCons_cons, unEnd_nil, unOut_cons, unSet_set, unDel_del, unKeep_keep, unPtr_ptr, unSl_sl, ax_t, ax_i, ax_1, br_t, br_f, if_true]
      rfl
    | false =>
      simp only [unInt_iv, unBool_bv, unStr_sv, unLs_ls, unAgg_agg, unTup_tup, cInt_iv, cBool_bv, cStr_sv, cLs_ls, unNil_nil, unCons_cons, unEnd_nil, unOut_cons, unSet_set, unDel_del, unKeep_keep, unPtr_ptr, unSl_sl, ax_t, ax_i, ax_1, br_t, br_f, Bool.false_eq_true, if_false, add1 (show j < 4611686018427387904 by omega)]
      refine (askK_of ih' _).trans ?_
      cases (xs.drop (j + 1)).findIdx? (isT ts i) with
      | none => cases decide (j + 1 < xs.length) <;> rfl
      | some m =>
        simp only [pickR, Option.map_some, show j + (m + 1) = j + 1 + m by omega]
        rfl
def opAt (ts : List Tk) (i : Nat) : Nat := match opP ts i with
  | some _ => i + 1
  | none => i
theorem pick_ok (K : Knows ownC tabEa D) (Kb : Knows ownC tabEb D) {ts : List Tk} (H : Toks ts) (vars : List ByteArray) (kn : Bool) (i : Nat) (hi : i ≤ ts.length) : D.ask (.fn 67) [.ls (opsL.map eOp), .fn (.func 19) [.ptr 0 0] []] [cuB ts vars kn i] = some (iv (placeI (opP ts i)), [.set (cuB ts vars kn (opAt ts i))]) := by
  refine Kb.fn' hn67 _ rfl ((e67 ..).trans ?_)
  rw [lenR_map]
  refine (askK_of (pick_lp K Kb H vars kn i hi opsL (by decide) _ 0 rfl) _).trans ?_
  rw [List.drop_zero]
  unfold opAt
  show _ = some (iv (placeI (opP ts i)), _)
  unfold opP
  cases opsL.findIdx? (isT ts i) with
  | none => rfl
  | some j => simp only [pickR, cuB, unInt_iv, unBool_bv, unStr_sv, unLs_ls, unAgg_agg, unTup_tup, cInt_iv, cBool_bv, cStr_sv, cLs_ls, unNil_nil, unCons_cons, unEnd_nil, unOut_cons, unSet_set, unDel_del, unKeep_keep, unPtr_ptr, unSl_sl, ax_t, ax_i, ax_1, br_t, br_f, Nat.zero_add]; rfl
theorem compare_ok (K : Knows ownC tabEa D) (Kb : Knows ownC tabEb D) (L : NameF D) {ts : List Tk} (H : Toks ts) (vars : List ByteArray) (kn : Bool) (hv : vars.length < 4611686018427387904) (i : Nat) (hi : i ≤ ts.length) : D.ask (.fn 64) [.ptr 0 0] [cuB ts vars kn i] = some (.tup [.agg (eTr (cmpP ts vars kn i).2.2), iv ((cmpP ts vars kn i).2.1 : Int)], [.set (cuB ts vars kn (cmpP ts vars kn i).1)]) := by
  have hl := H.len
  refine Kb.fn' hn64 _ rfl ((e64 ..).trans ?_)
  refine (askK_of (sum_ok K L ts vars kn (by omega) hv H.short i (by omega)) _).trans ?_
  have m := sumP_far H vars kn hi
  unfold cmpP
  simp only [cuB, unInt_iv, unBool_bv, unStr_sv, unLs_ls, unAgg_agg, unTup_tup, cInt_iv, cBool_bv, cStr_sv, cLs_ls, unNil_nil, unCons_cons, unEnd_nil, unOut_cons, unSet_set, unDel_del, unKeep_keep, unPtr_ptr, unSl_sl, ax_t, ax_i, ax_1, br_t, br_f, r_eq, ci0]
  by_cases h0 : (sumP ts vars kn i).2.1 = 0
  · simp only [h0, decide_true, unInt_iv, unBool_bv, unStr_sv, unLs_ls, unAgg_agg, unTup_tup, cInt_iv, cBool_bv, cStr_sv, cLs_ls, unNil_nil, unCons_cons, unEnd_nil, unOut_cons, unSet_set, unDel_del, unKeep_keep, unPtr_ptr, unSl_sl, ax_t, ax_i, ax_1, br_t, br_f, ne_eq, not_true, if_false]
    refine (askK_of (compares_ok K) _).trans ?_
    simp only [unInt_iv, unBool_bv, unStr_sv, unLs_ls, unAgg_agg, unTup_tup, cInt_iv, cBool_bv, cStr_sv, cLs_ls, unNil_nil, unCons_cons, unEnd_nil, unOut_cons, unSet_set, unDel_del, unKeep_keep, unPtr_ptr, unSl_sl, ax_t, ax_i, ax_1, br_t, br_f]
    refine (askK_of (pick_ok K Kb H vars kn _ m.le) _).trans ?_
    simp only [cuB, unInt_iv, unBool_bv, unStr_sv, unLs_ls, unAgg_agg, unTup_tup, cInt_iv, cBool_bv, cStr_sv, cLs_ls, unNil_nil, unCons_cons, unEnd_nil, unOut_cons, unSet_set, unDel_del, unKeep_keep, unPtr_ptr, unSl_sl, ax_t, ax_i, ax_1, br_t, br_f, r_lt]
    unfold opAt
    cases ho : opP ts (sumP ts vars kn i).1 with
    | none => rfl
    | some op =>
      have h1 : decide (placeI (some op) < 0) = false := decide_eq_false (show ¬ ((op : Int) < 0) by omega)
      have h2 := opP_far H ho
      simp only [h1, unInt_iv, unBool_bv, unStr_sv, unLs_ls, unAgg_agg, unTup_tup, cInt_iv, cBool_bv, cStr_sv, cLs_ls, unNil_nil, unCons_cons, unEnd_nil, unOut_cons, unSet_set, unDel_del, unKeep_keep, unPtr_ptr, unSl_sl, ax_t, ax_i, ax_1, br_t, br_f]
      refine (askK_of (sum_ok K L ts vars kn (by omega) hv H.short ((sumP ts vars kn i).1 + 1) (by omega)) _).trans ?_
      simp only [cuB, unInt_iv, unBool_bv, unStr_sv, unLs_ls, unAgg_agg, unTup_tup, cInt_iv, cBool_bv, cStr_sv, cLs_ls, unNil_nil, unCons_cons, unEnd_nil, unOut_cons, unSet_set, unDel_del, unKeep_keep, unPtr_ptr, unSl_sl, ax_t, ax_i, ax_1, br_t, br_f, r_eq, ci0]
      by_cases h3 : (sumP ts vars kn ((sumP ts vars kn i).1 + 1)).2.1 = 0
      · simp only [h3, decide_true, unInt_iv, unBool_bv, unStr_sv, unLs_ls, unAgg_agg, unTup_tup, cInt_iv, cBool_bv, cStr_sv, cLs_ls, unNil_nil, unCons_cons, unEnd_nil, unOut_cons, unSet_set, unDel_del, unKeep_keep, unPtr_ptr, unSl_sl, ax_t, ax_i, ax_1, br_t, br_f, ne_eq, not_true, if_false]
        rfl
      · simp only [h3, decide_false, unInt_iv, unBool_bv, unStr_sv, unLs_ls, unAgg_agg, unTup_tup, cInt_iv, cBool_bv, cStr_sv, cLs_ls, unNil_nil, unCons_cons, unEnd_nil, unOut_cons, unSet_set, unDel_del, unKeep_keep, unPtr_ptr, unSl_sl, ax_t, ax_i, ax_1, br_t, br_f, ne_eq, not_false_eq_true, if_true]
        rfl
  · simp only [h0, decide_false, unInt_iv, unBool_bv, unStr_sv, unLs_ls, unAgg_agg, unTup_tup, cInt_iv, cBool_bv, cStr_sv, cLs_ls, unNil_nil, unCons_cons, unEnd_nil, unOut_cons, unSet_set, unDel_del, unKeep_keep, unPtr_ptr, unSl_sl, ax_t, ax_i, ax_1, br_t, br_f, ne_eq, not_false_eq_true, if_true]
    rfl
end
end Go.Proofs.Ytlmhajfbpplpoaa
namespace Go.Proofs.Ytlmhajfbpplpoaa
open Go.RowKit

theorem br_eqT {a b : Int} (h : a = b) {x y : KR} : br (realA.eq a b) x y = x := by rw [r_eq, decide_eq_true h]; rfl
theorem br_eqF {a b : Int} (h : ¬ a = b) {x y : KR} : br (realA.eq a b) x y = y := by rw [r_eq, decide_eq_false h]; rfl
set_option linter.unusedSectionVars false
section
variable {D : Orc}
/-- A tree's block. -/
def trB (x : Tr) : ABlk := ABlk.mk (eTr x) true false
/-- A job's call and what is to come back. -/
def okJ (D : Orc) (ts : List Tk) (vars : List ByteArray) (kn : Bool) : Jb → Nat → Nat → Nat × Nat × Tr → Prop
  | .one, i, d, q => D.ask (.fn 57) [.ptr 0 0, iv (d : Int)] [cuB ts vars kn i] = some (.tup [.agg (eTr q.2.2), iv (q.2.1 : Int)], [.set (cuB ts vars kn q.1)])
  | .both, i, d, q => D.ask (.fn 47) [.ptr 0 0, iv (d : Int)] [cuB ts vars kn i] = some (.tup [.agg (eTr q.2.2), iv (q.2.1 : Int)], [.set (cuB ts vars kn q.1)])
  | .cond, i, d, q => D.ask (.fn 31) [.ptr 0 0, iv (d : Int)] [cuB ts vars kn i] = some (.tup [.agg (eTr q.2.2), iv (q.2.1 : Int)], [.set (cuB ts vars kn q.1)])
  | .bothL x, i, d, q => ∃ y, (q.2.1 = 0 → y = q.2.2) ∧ D.ask (.lp 46 0) [.ptr 0 0, sv (bstr [38]), iv 4, iv (d : Int), .fn (.func 57) [.ptr 0 0] [], .ptr 1 0, .ptr 2 0, iv 0] [cuB ts vars kn i, trB T0, trB x]
      = some (.tup [iv 0, .ptr 0 0, .ptr 1 0, .ptr 2 0, iv (q.2.1 : Int)], [.set (cuB ts vars kn q.1), .set (trB T0), .set (trB y)])
  | .condL x, i, d, q => ∃ y, (q.2.1 = 0 → y = q.2.2) ∧ D.ask (.lp 46 0) [.ptr 0 0, sv (bstr [124]), iv 5, iv (d : Int), .fn (.func 47) [.ptr 0 0] [], .ptr 1 0, .ptr 2 0, iv 0] [cuB ts vars kn i, trB T0, trB x]
      = some (.tup [iv 0, .ptr 0 0, .ptr 1 0, .ptr 2 0, iv (q.2.1 : Int)], [.set (cuB ts vars kn q.1), .set (trB T0), .set (trB y)])
/-- After an error no more is taken. -/
theorem row_erra (Kb : Knows ownC tabEb D) (ts : List Tk) (vars : List ByteArray) (kn : Bool) (i d e : Nat) (x : Tr) (he : e ≠ 0) : D.ask (.lp 46 0) [.ptr 0 0, sv (bstr [38]), iv 4, iv (d : Int), .fn (.func 57) [.ptr 0 0] [], .ptr 1 0, .ptr 2 0, iv (e : Int)] [cuB ts vars kn i, trB T0, trB x]
    = some (.tup [iv 0, .ptr 0 0, .ptr 1 0, .ptr 2 0, iv (e : Int)], [.set (cuB ts vars kn i), .set (trB T0), .set (trB x)]) := by
  obtain ⟨k, l, r, o, p, q, ks⟩ := x
  refine Kb.lp' hn46 _ rfl (by kernel_rfl) ((e46a_0 ..).trans ?_)
  refine (br_eqF (by omega)).trans ?_
  rfl
/-- The row, of what it takes and what its loop then does. -/
theorem row_oka (Kb : Knows ownC tabEb D) (ts : List Tk) (vars : List ByteArray) (kn : Bool) (i d j e : Nat) (x : Tr) (q : Nat × Nat × Tr)
    (h1 : D.ask (.fn 57) [.ptr 0 0, iv (d : Int)] [cuB ts vars kn i] = some (.tup [.agg (eTr x), iv (e : Int)], [.set (cuB ts vars kn j)]))
    (h2 : e ≠ 0 → q = (j, e, T0)) (h3 : e = 0 → ∃ q0 : Nat × Nat × Tr, q = (if q0.2.1 = 0 then q0 else failT q0) ∧ okJ D ts vars kn (.bothL x) j d q0) :
    D.ask (.fn 46) [.ptr 0 0, sv (bstr [38]), iv 4, iv (d : Int), .fn (.func 57) [.ptr 0 0] []] [cuB ts vars kn i] = some (.tup [.agg (eTr q.2.2), iv (q.2.1 : Int)], [.set (cuB ts vars kn q.1)]) := by
  refine Kb.fn' hn46 _ rfl ((e46a ..).trans ?_)
  refine (askK_of h1 _).trans ?_
  obtain ⟨k, l, r, o, p, v, ks⟩ := x
  simp only [eTr, cuB, unInt_iv, unBool_bv, unStr_sv, unLs_ls, unAgg_agg, unTup_tup, cInt_iv, cBool_bv, cStr_sv, cLs_ls, unNil_nil, unCons_cons, unEnd_nil, unOut_cons, unSet_set, unDel_del, unKeep_keep, unPtr_ptr, unSl_sl, ax_t, ax_i, ax_1, br_t, br_f]
  by_cases he : e = 0
  · subst he
    obtain ⟨⟨j2, e2, t2⟩, rfl, y, hy, h4⟩ := h3 rfl
    refine (askK_of h4 _).trans ?_
    obtain ⟨k, l, r, o, p, v, ks⟩ := y
    simp only [eTr, T0, trB, cuB, unInt_iv, unBool_bv, unStr_sv, unLs_ls, unAgg_agg, unTup_tup, cInt_iv, cBool_bv, cStr_sv, cLs_ls, unNil_nil, unCons_cons, unEnd_nil, unOut_cons, unSet_set, unDel_del, unKeep_keep, unPtr_ptr, unSl_sl, ax_t, ax_i, ax_1, br_t, br_f]
    by_cases h0 : e2 = 0
    · refine (br_eqT (by omega)).trans ?_
      rw [if_pos h0, h0, ← hy h0]
      rfl
    · refine (br_eqF (by omega)).trans ?_
      rw [if_neg h0]
      rfl
  · rw [h2 he]
    refine (askK_of (row_erra Kb ts vars kn j d e (.mk k l r o p v ks) he) _).trans ?_
    simp only [eTr, T0, trB, cuB, unInt_iv, unBool_bv, unStr_sv, unLs_ls, unAgg_agg, unTup_tup, cInt_iv, cBool_bv, cStr_sv, cLs_ls, unNil_nil, unCons_cons, unEnd_nil, unOut_cons, unSet_set, unDel_del, unKeep_keep, unPtr_ptr, unSl_sl, ax_t, ax_i, ax_1, br_t, br_f]
    refine (br_eqF (by omega)).trans ?_
    rfl
/-- After an error no more is taken. -/
theorem row_errb (Kb : Knows ownC tabEb D) (ts : List Tk) (vars : List ByteArray) (kn : Bool) (i d e : Nat) (x : Tr) (he : e ≠ 0) : D.ask (.lp 46 0) [.ptr 0 0, sv (bstr [124]), iv 5, iv (d : Int), .fn (.func 47) [.ptr 0 0] [], .ptr 1 0, .ptr 2 0, iv (e : Int)] [cuB ts vars kn i, trB T0, trB x]
    = some (.tup [iv 0, .ptr 0 0, .ptr 1 0, .ptr 2 0, iv (e : Int)], [.set (cuB ts vars kn i), .set (trB T0), .set (trB x)]) := by
  obtain ⟨k, l, r, o, p, q, ks⟩ := x
  refine Kb.lp' hn46 _ rfl (by kernel_rfl) ((e46b_0 ..).trans ?_)
  refine (br_eqF (by omega)).trans ?_
  rfl
/-- The row, of what it takes and what its loop then does. -/
theorem row_okb (Kb : Knows ownC tabEb D) (ts : List Tk) (vars : List ByteArray) (kn : Bool) (i d j e : Nat) (x : Tr) (q : Nat × Nat × Tr)
    (h1 : D.ask (.fn 47) [.ptr 0 0, iv (d : Int)] [cuB ts vars kn i] = some (.tup [.agg (eTr x), iv (e : Int)], [.set (cuB ts vars kn j)]))
    (h2 : e ≠ 0 → q = (j, e, T0)) (h3 : e = 0 → ∃ q0 : Nat × Nat × Tr, q = (if q0.2.1 = 0 then q0 else failT q0) ∧ okJ D ts vars kn (.condL x) j d q0) :
    D.ask (.fn 46) [.ptr 0 0, sv (bstr [124]), iv 5, iv (d : Int), .fn (.func 47) [.ptr 0 0] []] [cuB ts vars kn i] = some (.tup [.agg (eTr q.2.2), iv (q.2.1 : Int)], [.set (cuB ts vars kn q.1)]) := by
  refine Kb.fn' hn46 _ rfl ((e46b ..).trans ?_)
  refine (askK_of h1 _).trans ?_
  obtain ⟨k, l, r, o, p, v, ks⟩ := x
  simp only [eTr, cuB, unInt_iv, unBool_bv, unStr_sv, unLs_ls, unAgg_agg, unTup_tup, cInt_iv, cBool_bv, cStr_sv, cLs_ls, unNil_nil, unCons_cons, unEnd_nil, unOut_cons, unSet_set, unDel_del, unKeep_keep, unPtr_ptr, unSl_sl, ax_t, ax_i, ax_1, br_t, br_f]
  by_cases he : e = 0
  · subst he
    obtain ⟨⟨j2, e2, t2⟩, rfl, y, hy, h4⟩ := h3 rfl
    refine (askK_of h4 _).trans ?_
    obtain ⟨k, l, r, o, p, v, ks⟩ := y
    simp only [eTr, T0, trB, cuB, unInt_iv, unBool_bv, unStr_sv, unLs_ls, unAgg_agg, unTup_tup, cInt_iv, cBool_bv, cStr_sv, cLs_ls, unNil_nil, unCons_cons, unEnd_nil, unOut_cons, unSet_set, unDel_del, unKeep_keep, unPtr_ptr, unSl_sl, ax_t, ax_i, ax_1, br_t, br_f]
    by_cases h0 : e2 = 0
    · refine (br_eqT (by omega)).trans ?_
      rw [if_pos h0, h0, ← hy h0]
      rfl
    · refine (br_eqF (by omega)).trans ?_
      rw [if_neg h0]
      rfl
  · rw [h2 he]
    refine (askK_of (row_errb Kb ts vars kn j d e (.mk k l r o p v ks) he) _).trans ?_
    simp only [eTr, T0, trB, cuB, unInt_iv, unBool_bv, unStr_sv, unLs_ls, unAgg_agg, unTup_tup, cInt_iv, cBool_bv, cStr_sv, cLs_ls, unNil_nil, unCons_cons, unEnd_nil, unOut_cons, unSet_set, unDel_del, unKeep_keep, unPtr_ptr, unSl_sl, ax_t, ax_i, ax_1, br_t, br_f]
    refine (br_eqF (by omega)).trans ?_
    rfl
variable (K : Knows ownC tabEa D) (Kb : Knows ownC tabEb D) (L : NameF D) {ts : List Tk} (H : Toks ts) (vars : List ByteArray) (kn : Bool) (hv : vars.length < 4611686018427387904)
include K Kb L H hv
theorem one_step (n : Nat) (ih : ∀ (j : Jb) (i d : Nat), i ≤ ts.length → d ≤ 60 → needJ ts j i ≤ n → okJ D ts vars kn j i d (jbP ts vars kn n j i d)) (i d : Nat) (hi : i ≤ ts.length) (hd : d ≤ 60) (hn : needJ ts .one i ≤ n + 1) : okJ D ts vars kn .one i d (jbP ts vars kn (n + 1) .one i d) := by
  have hl := H.len
  unfold okJ jbP
  dsimp only
  refine Kb.fn' hn57 _ rfl ((e57 ..).trans ?_)
  refine (askK_of (is_ok K ts vars kn i (by omega) (by omega) _) _).trans ?_
  simp only [cuB, unInt_iv, unBool_bv, unStr_sv, unLs_ls, unAgg_agg, unTup_tup, cInt_iv, cBool_bv, cStr_sv, cLs_ls, unNil_nil, unCons_cons, unEnd_nil, unOut_cons, unSet_set, unDel_del, unKeep_keep, unPtr_ptr, unSl_sl, ax_t, ax_i, ax_1, br_t, br_f]
  cases h33 : isT ts i [33] with
  | true =>
    refine (br_t _ _).trans ?_
    simp only [Bool.true_or, true_and]
    by_cases h60 : d = 60
    · refine (br_eqT (by omega)).trans ?_
      simp only [h60, if_true]
      rfl
    · refine (br_eqF (by omega)).trans ?_
      simp only [h60, if_false]
      refine (askK_of (take_ok K ts vars kn i (by omega) (by omega) _) _).trans ?_
      simp only [cuB, unInt_iv, unBool_bv, unStr_sv, unLs_ls, unAgg_agg, unTup_tup, cInt_iv, cBool_bv, cStr_sv, cLs_ls, unNil_nil, unCons_cons, unEnd_nil, unOut_cons, unSet_set, unDel_del, unKeep_keep, unPtr_ptr, unSl_sl, ax_t, ax_i, ax_1, br_t, br_f]
      cases hT : isT ts i [116, 114, 117, 101] with
      | true => simp only [unInt_iv, unBool_bv, unStr_sv, unLs_ls, unAgg_agg, unTup_tup, cInt_iv, cBool_bv, cStr_sv, cLs_ls, unNil_nil, unCons_cons, unEnd_nil, unOut_cons, unSet_set, unDel_del, unKeep_keep, unPtr_ptr, unSl_sl, ax_t, ax_i, ax_1, br_t, br_f, if_true]; rfl
      | false =>
        simp only [unInt_iv, unBool_bv, unStr_sv, unLs_ls, unAgg_agg, unTup_tup, cInt_iv, cBool_bv, cStr_sv, cLs_ls, unNil_nil, unCons_cons, unEnd_nil, unOut_cons, unSet_set, unDel_del, unKeep_keep, unPtr_ptr, unSl_sl, ax_t, ax_i, ax_1, br_t, br_f, Bool.false_eq_true, if_false]
        refine (askK_of (take_ok K ts vars kn i (by omega) (by omega) _) _).trans ?_
        simp only [cuB, unInt_iv, unBool_bv, unStr_sv, unLs_ls, unAgg_agg, unTup_tup, cInt_iv, cBool_bv, cStr_sv, cLs_ls, unNil_nil, unCons_cons, unEnd_nil, unOut_cons, unSet_set, unDel_del, unKeep_keep, unPtr_ptr, unSl_sl, ax_t, ax_i, ax_1, br_t, br_f]
        cases hF : isT ts i [102, 97, 108, 115, 101] with
        | true => simp only [unInt_iv, unBool_bv, unStr_sv, unLs_ls, unAgg_agg, unTup_tup, cInt_iv, cBool_bv, cStr_sv, cLs_ls, unNil_nil, unCons_cons, unEnd_nil, unOut_cons, unSet_set, unDel_del, unKeep_keep, unPtr_ptr, unSl_sl, ax_t, ax_i, ax_1, br_t, br_f, if_true]; rfl
        | false =>
          simp only [unInt_iv, unBool_bv, unStr_sv, unLs_ls, unAgg_agg, unTup_tup, cInt_iv, cBool_bv, cStr_sv, cLs_ls, unNil_nil, unCons_cons, unEnd_nil, unOut_cons, unSet_set, unDel_del, unKeep_keep, unPtr_ptr, unSl_sl, ax_t, ax_i, ax_1, br_t, br_f, Bool.false_eq_true, if_false]
          refine (askK_of (take_ok K ts vars kn i (by omega) (by omega) _) _).trans ?_
          simp only [cuB, unInt_iv, unBool_bv, unStr_sv, unLs_ls, unAgg_agg, unTup_tup, cInt_iv, cBool_bv, cStr_sv, cLs_ls, unNil_nil, unCons_cons, unEnd_nil, unOut_cons, unSet_set, unDel_del, unKeep_keep, unPtr_ptr, unSl_sl, ax_t, ax_i, ax_1, br_t, br_f, h33]
          simp only [unInt_iv, unBool_bv, unStr_sv, unLs_ls, unAgg_agg, unTup_tup, cInt_iv, cBool_bv, cStr_sv, cLs_ls, unNil_nil, unCons_cons, unEnd_nil, unOut_cons, unSet_set, unDel_del, unKeep_keep, unPtr_ptr, unSl_sl, ax_t, ax_i, ax_1, br_t, br_f, if_true, add1 (show d < 4611686018427387904 by omega)]
          have hlt := H.isT h33
          have g := ih .one (i + 1) (d + 1) (by omega) (by omega) (by simp only [needJ] at hn ⊢; omega)
          refine (askK_of g _).trans ?_
          rcases jbP ts vars kn n .one (i + 1) (d + 1) with ⟨j, e, ⟨k, l, r, o, p, q, ks⟩⟩
          simp only [eTr, cuB, unInt_iv, unBool_bv, unStr_sv, unLs_ls, unAgg_agg, unTup_tup, cInt_iv, cBool_bv, cStr_sv, cLs_ls, unNil_nil, unCons_cons, unEnd_nil, unOut_cons, unSet_set, unDel_del, unKeep_keep, unPtr_ptr, unSl_sl, ax_t, ax_i, ax_1, br_t, br_f, r_eq, ci0, thenT]
          by_cases he : e = 0
          · simp only [he, decide_true, unInt_iv, unBool_bv, unStr_sv, unLs_ls, unAgg_agg, unTup_tup, cInt_iv, cBool_bv, cStr_sv, cLs_ls, unNil_nil, unCons_cons, unEnd_nil, unOut_cons, unSet_set, unDel_del, unKeep_keep, unPtr_ptr, unSl_sl, ax_t, ax_i, ax_1, br_t, br_f, if_true]; rfl
          · simp only [he, decide_false, unInt_iv, unBool_bv, unStr_sv, unLs_ls, unAgg_agg, unTup_tup, cInt_iv, cBool_bv, cStr_sv, cLs_ls, unNil_nil, unCons_cons, unEnd_nil, unOut_cons, unSet_set, unDel_del, unKeep_keep, unPtr_ptr, unSl_sl, ax_t, ax_i, ax_1, br_t, br_f, if_false]; rfl
  | false =>
    refine (br_f _ _).trans ?_
    simp only [Bool.false_or]
    refine (askK_of (is_ok K ts vars kn i (by omega) (by omega) _) _).trans ?_
    simp only [cuB, unInt_iv, unBool_bv, unStr_sv, unLs_ls, unAgg_agg, unTup_tup, cInt_iv, cBool_bv, cStr_sv, cLs_ls, unNil_nil, unCons_cons, unEnd_nil, unOut_cons, unSet_set, unDel_del, unKeep_keep, unPtr_ptr, unSl_sl, ax_t, ax_i, ax_1, br_t, br_f]
    cases h40 : isT ts i [40] with
    | true =>
      refine (br_t _ _).trans ?_
      simp only [true_and]
      by_cases h60 : d = 60
      · refine (br_eqT (by omega)).trans ?_
        simp only [h60, if_true]
        rfl
      · refine (br_eqF (by omega)).trans ?_
        simp only [h60, if_false]
        refine (askK_of (take_ok K ts vars kn i (by omega) (by omega) _) _).trans ?_
        simp only [cuB, unInt_iv, unBool_bv, unStr_sv, unLs_ls, unAgg_agg, unTup_tup, cInt_iv, cBool_bv, cStr_sv, cLs_ls, unNil_nil, unCons_cons, unEnd_nil, unOut_cons, unSet_set, unDel_del, unKeep_keep, unPtr_ptr, unSl_sl, ax_t, ax_i, ax_1, br_t, br_f]
        cases hT : isT ts i [116, 114, 117, 101] with
        | true => simp only [unInt_iv, unBool_bv, unStr_sv, unLs_ls, unAgg_agg, unTup_tup, cInt_iv, cBool_bv, cStr_sv, cLs_ls, unNil_nil, unCons_cons, unEnd_nil, unOut_cons, unSet_set, unDel_del, unKeep_keep, unPtr_ptr, unSl_sl, ax_t, ax_i, ax_1, br_t, br_f, if_true]; rfl
        | false =>
          simp only [unInt_iv, unBool_bv, unStr_sv, unLs_ls, unAgg_agg, unTup_tup, cInt_iv, cBool_bv, cStr_sv, cLs_ls, unNil_nil, unCons_cons, unEnd_nil, unOut_cons, unSet_set, unDel_del, unKeep_keep, unPtr_ptr, unSl_sl, ax_t, ax_i, ax_1, br_t, br_f, Bool.false_eq_true, if_false]
          refine (askK_of (take_ok K ts vars kn i (by omega) (by omega) _) _).trans ?_
          simp only [cuB, unInt_iv, unBool_bv, unStr_sv, unLs_ls, unAgg_agg, unTup_tup, cInt_iv, cBool_bv, cStr_sv, cLs_ls, unNil_nil, unCons_cons, unEnd_nil, unOut_cons, unSet_set, unDel_del, unKeep_keep, unPtr_ptr, unSl_sl, ax_t, ax_i, ax_1, br_t, br_f]
          cases hF : isT ts i [102, 97, 108, 115, 101] with
          | true => simp only [unInt_iv, unBool_bv, unStr_sv, unLs_ls, unAgg_agg, unTup_tup, cInt_iv, cBool_bv, cStr_sv, cLs_ls, unNil_nil, unCons_cons, unEnd_nil, unOut_cons, unSet_set, unDel_del, unKeep_keep, unPtr_ptr, unSl_sl, ax_t, ax_i, ax_1, br_t, br_f, if_true]; rfl
          | false =>
            simp only [unInt_iv, unBool_bv, unStr_sv, unLs_ls, unAgg_agg, unTup_tup, cInt_iv, cBool_bv, cStr_sv, cLs_ls, unNil_nil, unCons_cons, unEnd_nil, unOut_cons, unSet_set, unDel_del, unKeep_keep, unPtr_ptr, unSl_sl, ax_t, ax_i, ax_1, br_t, br_f, Bool.false_eq_true, if_false]
            refine (askK_of (take_ok K ts vars kn i (by omega) (by omega) _) _).trans ?_
            simp only [cuB, unInt_iv, unBool_bv, unStr_sv, unLs_ls, unAgg_agg, unTup_tup, cInt_iv, cBool_bv, cStr_sv, cLs_ls, unNil_nil, unCons_cons, unEnd_nil, unOut_cons, unSet_set, unDel_del, unKeep_keep, unPtr_ptr, unSl_sl, ax_t, ax_i, ax_1, br_t, br_f, h33]
            simp only [unInt_iv, unBool_bv, unStr_sv, unLs_ls, unAgg_agg, unTup_tup, cInt_iv, cBool_bv, cStr_sv, cLs_ls, unNil_nil, unCons_cons, unEnd_nil, unOut_cons, unSet_set, unDel_del, unKeep_keep, unPtr_ptr, unSl_sl, ax_t, ax_i, ax_1, br_t, br_f, Bool.false_eq_true, if_false]
            refine (askK_of (take_ok K ts vars kn i (by omega) (by omega) _) _).trans ?_
            simp only [cuB, unInt_iv, unBool_bv, unStr_sv, unLs_ls, unAgg_agg, unTup_tup, cInt_iv, cBool_bv, cStr_sv, cLs_ls, unNil_nil, unCons_cons, unEnd_nil, unOut_cons, unSet_set, unDel_del, unKeep_keep, unPtr_ptr, unSl_sl, ax_t, ax_i, ax_1, br_t, br_f, h40]
            simp only [unInt_iv, unBool_bv, unStr_sv, unLs_ls, unAgg_agg, unTup_tup, cInt_iv, cBool_bv, cStr_sv, cLs_ls, unNil_nil, unCons_cons, unEnd_nil, unOut_cons, unSet_set, unDel_del, unKeep_keep, unPtr_ptr, unSl_sl, ax_t, ax_i, ax_1, br_t, br_f, if_true, add1 (show d < 4611686018427387904 by omega)]
            have hlt := H.isT h40
            have g := ih .cond (i + 1) (d + 1) (by omega) (by omega) (by simp only [needJ] at hn ⊢; omega)
            have f : Far ts (i + 1) _ _ := jbP_far H vars kn n .cond (i + 1) (d + 1) (by omega)
            refine (askK_of g _).trans ?_
            revert f
            rcases jbP ts vars kn n .cond (i + 1) (d + 1) with ⟨j, e, ⟨k, l, r, o, p, q, ks⟩⟩
            intro f
            have hj : j ≤ ts.length := f.le
            simp only [eTr, cuB, unInt_iv, unBool_bv, unStr_sv, unLs_ls, unAgg_agg, unTup_tup, cInt_iv, cBool_bv, cStr_sv, cLs_ls, unNil_nil, unCons_cons, unEnd_nil, unOut_cons, unSet_set, unDel_del, unKeep_keep, unPtr_ptr, unSl_sl, ax_t, ax_i, ax_1, br_t, br_f, r_eq, ci0, thenT]
            by_cases he : e = 0
            · simp only [he, decide_true, unInt_iv, unBool_bv, unStr_sv, unLs_ls, unAgg_agg, unTup_tup, cInt_iv, cBool_bv, cStr_sv, cLs_ls, unNil_nil, unCons_cons, unEnd_nil, unOut_cons, unSet_set, unDel_del, unKeep_keep, unPtr_ptr, unSl_sl, ax_t, ax_i, ax_1, br_t, br_f, if_true]
              refine (askK_of (want_ok K ts vars kn j (by omega) (by omega) _) _).trans ?_
              cases isT ts j [41] <;> rfl
            · simp only [he, decide_false, unInt_iv, unBool_bv, unStr_sv, unLs_ls, unAgg_agg, unTup_tup, cInt_iv, cBool_bv, cStr_sv, cLs_ls, unNil_nil, unCons_cons, unEnd_nil, unOut_cons, unSet_set, unDel_del, unKeep_keep, unPtr_ptr, unSl_sl, ax_t, ax_i, ax_1, br_t, br_f, if_false]; rfl
    | false =>
      simp only [unInt_iv, unBool_bv, unStr_sv, unLs_ls, unAgg_agg, unTup_tup, cInt_iv, cBool_bv, cStr_sv, cLs_ls, unNil_nil, unCons_cons, unEnd_nil, unOut_cons, unSet_set, unDel_del, unKeep_keep, unPtr_ptr, unSl_sl, ax_t, ax_i, ax_1, br_t, br_f, Bool.false_eq_true, false_and, if_false]
      refine (askK_of (take_ok K ts vars kn i (by omega) (by omega) _) _).trans ?_
      simp only [cuB, unInt_iv, unBool_bv, unStr_sv, unLs_ls, unAgg_agg, unTup_tup, cInt_iv, cBool_bv, cStr_sv, cLs_ls, unNil_nil, unCons_cons, unEnd_nil, unOut_cons, unSet_set, unDel_del, unKeep_keep, unPtr_ptr, unSl_sl, ax_t, ax_i, ax_1, br_t, br_f]
      cases hT : isT ts i [116, 114, 117, 101] with
      | true => simp only [unInt_iv, unBool_bv, unStr_sv, unLs_ls, unAgg_agg, unTup_tup, cInt_iv, cBool_bv, cStr_sv, cLs_ls, unNil_nil, unCons_cons, unEnd_nil, unOut_cons, unSet_set, unDel_del, unKeep_keep, unPtr_ptr, unSl_sl, ax_t, ax_i, ax_1, br_t, br_f, if_true]; rfl
      | false =>
        simp only [unInt_iv, unBool_bv, unStr_sv, unLs_ls, unAgg_agg, unTup_tup, cInt_iv, cBool_bv, cStr_sv, cLs_ls, unNil_nil, unCons_cons, unEnd_nil, unOut_cons, unSet_set, unDel_del, unKeep_keep, unPtr_ptr, unSl_sl, ax_t, ax_i, ax_1, br_t, br_f, Bool.false_eq_true, if_false]
        refine (askK_of (take_ok K ts vars kn i (by omega) (by omega) _) _).trans ?_
        simp only [cuB, unInt_iv, unBool_bv, unStr_sv, unLs_ls, unAgg_agg, unTup_tup, cInt_iv, cBool_bv, cStr_sv, cLs_ls, unNil_nil, unCons_cons, unEnd_nil, unOut_cons, unSet_set, unDel_del, unKeep_keep, unPtr_ptr, unSl_sl, ax_t, ax_i, ax_1, br_t, br_f]
        cases hF : isT ts i [102, 97, 108, 115, 101] with
        | true => simp only [unInt_iv, unBool_bv, unStr_sv, unLs_ls, unAgg_agg, unTup_tup, cInt_iv, cBool_bv, cStr_sv, cLs_ls, unNil_nil, unCons_cons, unEnd_nil, unOut_cons, unSet_set, unDel_del, unKeep_keep, unPtr_ptr, unSl_sl, ax_t, ax_i, ax_1, br_t, br_f, if_true]; rfl
        | false =>
          simp only [unInt_iv, unBool_bv, unStr_sv, unLs_ls, unAgg_agg, unTup_tup, cInt_iv, cBool_bv, cStr_sv, cLs_ls, unNil_nil, unCons_cons, unEnd_nil, unOut_cons, unSet_set, unDel_del, unKeep_keep, unPtr_ptr, unSl_sl, ax_t, ax_i, ax_1, br_t, br_f, Bool.false_eq_true, if_false]
          refine (askK_of (take_ok K ts vars kn i (by omega) (by omega) _) _).trans ?_
          simp only [cuB, unInt_iv, unBool_bv, unStr_sv, unLs_ls, unAgg_agg, unTup_tup, cInt_iv, cBool_bv, cStr_sv, cLs_ls, unNil_nil, unCons_cons, unEnd_nil, unOut_cons, unSet_set, unDel_del, unKeep_keep, unPtr_ptr, unSl_sl, ax_t, ax_i, ax_1, br_t, br_f, h33]
          simp only [unInt_iv, unBool_bv, unStr_sv, unLs_ls, unAgg_agg, unTup_tup, cInt_iv, cBool_bv, cStr_sv, cLs_ls, unNil_nil, unCons_cons, unEnd_nil, unOut_cons, unSet_set, unDel_del, unKeep_keep, unPtr_ptr, unSl_sl, ax_t, ax_i, ax_1, br_t, br_f, Bool.false_eq_true, if_false]
          refine (askK_of (take_ok K ts vars kn i (by omega) (by omega) _) _).trans ?_
          simp only [cuB, unInt_iv, unBool_bv, unStr_sv, unLs_ls, unAgg_agg, unTup_tup, cInt_iv, cBool_bv, cStr_sv, cLs_ls, unNil_nil, unCons_cons, unEnd_nil, unOut_cons, unSet_set, unDel_del, unKeep_keep, unPtr_ptr, unSl_sl, ax_t, ax_i, ax_1, br_t, br_f, h40, Bool.false_eq_true, if_false]
          refine (askK_of (compare_ok K Kb L H vars kn hv i hi) _).trans ?_
          rcases cmpP ts vars kn i with ⟨j, e, ⟨k, l, r, o, p, q, ks⟩⟩
          rfl
omit K Kb L H hv in
theorem faila (ts : List Tk) (vars : List ByteArray) (kn : Bool) : ∀ (n : Nat) (x : Tr) (i d : Nat), (if (jbP ts vars kn n (.bothL x) i d).2.1 = 0 then jbP ts vars kn n (.bothL x) i d else failT (jbP ts vars kn n (.bothL x) i d)) = jbP ts vars kn n (.bothL x) i d := by
  intro n
  induction n with
  | zero => intro x i d; rfl
  | succ n ih =>
    intro x i d
    unfold jbP
    unfold thenT
    cases isT ts i [38] with
    | false => rfl
    | true =>
      rw [if_pos rfl]
      by_cases he : (jbP ts vars kn n .one (i + 1) d).2.1 = 0
      · rw [if_pos he]
        exact ih _ _ _
      · rw [if_neg he]
        unfold failT
        rw [if_neg he]
theorem loop_stepa (n : Nat) (ih : ∀ (j : Jb) (i d : Nat), i ≤ ts.length → d ≤ 60 → needJ ts j i ≤ n → okJ D ts vars kn j i d (jbP ts vars kn n j i d)) (x : Tr) (i d : Nat) (hi : i ≤ ts.length) (hd : d ≤ 60) (hn : needJ ts (.bothL x) i ≤ n + 1) : okJ D ts vars kn (.bothL x) i d (jbP ts vars kn (n + 1) (.bothL x) i d) := by
  have hl := H.len
  unfold okJ jbP
  dsimp only
  obtain ⟨k1, l1, r1, o1, p1, v1, ks1⟩ := x
  cases hT : isT ts i [38] with
  | false =>
    refine ⟨_, fun _ => rfl, ?_⟩
    refine Kb.lp' hn46 _ rfl (by kernel_rfl) ((e46a_0 ..).trans ?_)
    refine (br_eqT rfl).trans ?_
    refine (askK_of (take_ok K ts vars kn i (by omega) (by omega) _) _).trans ?_
    simp only [cuB, unInt_iv, unBool_bv, unStr_sv, unLs_ls, unAgg_agg, unTup_tup, cInt_iv, cBool_bv, cStr_sv, cLs_ls, unNil_nil, unCons_cons, unEnd_nil, unOut_cons, unSet_set, unDel_del, unKeep_keep, unPtr_ptr, unSl_sl, ax_t, ax_i, ax_1, br_t, br_f, hT]
    rfl
  | true =>
    rw [if_pos rfl]
    have hlt := H.isT hT
    have g := ih .one (i + 1) d (by omega) hd (by simp only [needJ] at hn ⊢; omega)
    have f : Far ts (i + 1) _ _ := jbP_far H vars kn n .one (i + 1) d (by omega)
    revert f g
    rcases jbP ts vars kn n .one (i + 1) d with ⟨j, e, t⟩
    intro g f
    have hj : j ≤ ts.length := f.le
    have hg : i + 1 ≤ j := f.ge
    unfold thenT
    dsimp only
    unfold okJ at g
    by_cases he : e = 0
    · subst he
      rw [if_pos rfl]
      obtain ⟨y, hy, h4⟩ := ih (.bothL (.mk 4 [] [] 0 (bstr []) (bstr []) [.mk k1 l1 r1 o1 p1 v1 ks1, t])) j d hj hd (by simp only [needJ] at hn ⊢; omega)
      refine ⟨y, hy, ?_⟩
      refine Kb.lp' hn46 _ rfl (by kernel_rfl) ((e46a_0 ..).trans ?_)
      refine (br_eqT rfl).trans ?_
      refine (askK_of (take_ok K ts vars kn i (by omega) (by omega) _) _).trans ?_
      simp only [cuB, unInt_iv, unBool_bv, unStr_sv, unLs_ls, unAgg_agg, unTup_tup, cInt_iv, cBool_bv, cStr_sv, cLs_ls, unNil_nil, unCons_cons, unEnd_nil, unOut_cons, unSet_set, unDel_del, unKeep_keep, unPtr_ptr, unSl_sl, ax_t, ax_i, ax_1, br_t, br_f, hT, if_true]
      refine (askK_of g _).trans ?_
      obtain ⟨k, l, r, o, p, v, ks⟩ := t
      simp only [eTr, cuB, unInt_iv, unBool_bv, unStr_sv, unLs_ls, unAgg_agg, unTup_tup, cInt_iv, cBool_bv, cStr_sv, cLs_ls, unNil_nil, unCons_cons, unEnd_nil, unOut_cons, unSet_set, unDel_del, unKeep_keep, unPtr_ptr, unSl_sl, ax_t, ax_i, ax_1, br_t, br_f]
      refine (br_eqT rfl).trans ?_
      refine (askK_of h4 _).trans ?_
      obtain ⟨k, l, r, o, p, v, ks⟩ := y
      rfl
    · rw [if_neg he]
      refine ⟨.mk k1 l1 r1 o1 p1 v1 ks1, fun h => absurd h he, ?_⟩
      refine Kb.lp' hn46 _ rfl (by kernel_rfl) ((e46a_0 ..).trans ?_)
      refine (br_eqT rfl).trans ?_
      refine (askK_of (take_ok K ts vars kn i (by omega) (by omega) _) _).trans ?_
      simp only [cuB, unInt_iv, unBool_bv, unStr_sv, unLs_ls, unAgg_agg, unTup_tup, cInt_iv, cBool_bv, cStr_sv, cLs_ls, unNil_nil, unCons_cons, unEnd_nil, unOut_cons, unSet_set, unDel_del, unKeep_keep, unPtr_ptr, unSl_sl, ax_t, ax_i, ax_1, br_t, br_f, hT, if_true]
      refine (askK_of g _).trans ?_
      obtain ⟨k, l, r, o, p, v, ks⟩ := t
      simp only [eTr, cuB, unInt_iv, unBool_bv, unStr_sv, unLs_ls, unAgg_agg, unTup_tup, cInt_iv, cBool_bv, cStr_sv, cLs_ls, unNil_nil, unCons_cons, unEnd_nil, unOut_cons, unSet_set, unDel_del, unKeep_keep, unPtr_ptr, unSl_sl, ax_t, ax_i, ax_1, br_t, br_f]
      refine (br_eqF (by omega)).trans ?_
      refine (askK_of (row_erra Kb ts vars kn j d e (.mk k1 l1 r1 o1 p1 v1 ks1) he) _).trans ?_
      rfl
theorem all_stepa (n : Nat) (ih : ∀ (j : Jb) (i d : Nat), i ≤ ts.length → d ≤ 60 → needJ ts j i ≤ n → okJ D ts vars kn j i d (jbP ts vars kn n j i d)) (i d : Nat) (hi : i ≤ ts.length) (hd : d ≤ 60) (hn : needJ ts .both i ≤ n + 1) : okJ D ts vars kn .both i d (jbP ts vars kn (n + 1) .both i d) := by
  have g := ih .one i d hi hd (by simp only [needJ] at hn ⊢; omega)
  have f : Far ts i _ _ := jbP_far H vars kn n .one i d hi
  have hr : jbP ts vars kn (n + 1) .both i d = thenT (jbP ts vars kn n .one i d) fun j x => jbP ts vars kn n (.bothL x) j d := rfl
  rw [hr]
  revert f g
  rcases jbP ts vars kn n .one i d with ⟨j, e, t⟩
  intro g f
  have hj : j ≤ ts.length := f.le
  unfold okJ at g
  unfold okJ thenT
  dsimp only at g f ⊢
  refine Kb.fn' hn47 _ rfl ((e47 ..).trans ?_)
  have hrow := row_oka Kb ts vars kn i d j e t (if e = 0 then jbP ts vars kn n (.bothL t) j d else failT (j, e, t)) g (fun he => by rw [if_neg he]; rfl) (fun he => by
    have hg := f.gt he
    have g2 := ih (.bothL t) j d hj hd (by simp only [needJ] at hn ⊢; omega)
    refine ⟨jbP ts vars kn n (.bothL t) j d, ?_, g2⟩
    rw [if_pos he]
    exact (faila ts vars kn n t j d).symm)
  refine (askK_of hrow _).trans ?_
  rcases (if e = 0 then jbP ts vars kn n (.bothL t) j d else failT (j, e, t)) with ⟨j2, e2, ⟨k, l, r, o, p, v, ks⟩⟩
  rfl
omit K Kb L H hv in
theorem failb (ts : List Tk) (vars : List ByteArray) (kn : Bool) : ∀ (n : Nat) (x : Tr) (i d : Nat), (if (jbP ts vars kn n (.condL x) i d).2.1 = 0 then jbP ts vars kn n (.condL x) i d else failT (jbP ts vars kn n (.condL x) i d)) = jbP ts vars kn n (.condL x) i d := by
  intro n
  induction n with
  | zero => intro x i d; rfl
  | succ n ih =>
    intro x i d
    unfold jbP
    unfold thenT
    cases isT ts i [124] with
    | false => rfl
    | true =>
      rw [if_pos rfl]
      by_cases he : (jbP ts vars kn n .both (i + 1) d).2.1 = 0
      · rw [if_pos he]
        exact ih _ _ _
      · rw [if_neg he]
        unfold failT
        rw [if_neg he]
theorem loop_stepb (n : Nat) (ih : ∀ (j : Jb) (i d : Nat), i ≤ ts.length → d ≤ 60 → needJ ts j i ≤ n → okJ D ts vars kn j i d (jbP ts vars kn n j i d)) (x : Tr) (i d : Nat) (hi : i ≤ ts.length) (hd : d ≤ 60) (hn : needJ ts (.condL x) i ≤ n + 1) : okJ D ts vars kn (.condL x) i d (jbP ts vars kn (n + 1) (.condL x) i d) := by
  have hl := H.len
  unfold okJ jbP
  dsimp only
  obtain ⟨k1, l1, r1, o1, p1, v1, ks1⟩ := x
  cases hT : isT ts i [124] with
  | false =>
    refine ⟨_, fun _ => rfl, ?_⟩
    refine Kb.lp' hn46 _ rfl (by kernel_rfl) ((e46b_0 ..).trans ?_)
    refine (br_eqT rfl).trans ?_
    refine (askK_of (take_ok K ts vars kn i (by omega) (by omega) _) _).trans ?_
    simp only [cuB, unInt_iv, unBool_bv, unStr_sv, unLs_ls, unAgg_agg, unTup_tup, cInt_iv, cBool_bv, cStr_sv, cLs_ls, unNil_nil, unCons_cons, unEnd_nil, unOut_cons, unSet_set, unDel_del, unKeep_keep, unPtr_ptr, unSl_sl, ax_t, ax_i, ax_1, br_t, br_f, hT]
    rfl
  | true =>
    rw [if_pos rfl]
    have hlt := H.isT hT
    have g := ih .both (i + 1) d (by omega) hd (by simp only [needJ] at hn ⊢; omega)
    have f : Far ts (i + 1) _ _ := jbP_far H vars kn n .both (i + 1) d (by omega)
    revert f g
    rcases jbP ts vars kn n .both (i + 1) d with ⟨j, e, t⟩
    intro g f
    have hj : j ≤ ts.length := f.le
    have hg : i + 1 ≤ j := f.ge
    unfold thenT
    dsimp only
    unfold okJ at g
    by_cases he : e = 0
    · subst he
      rw [if_pos rfl]
      obtain ⟨y, hy, h4⟩ := ih (.condL (.mk 5 [] [] 0 (bstr []) (bstr []) [.mk k1 l1 r1 o1 p1 v1 ks1, t])) j d hj hd (by simp only [needJ] at hn ⊢; omega)
      refine ⟨y, hy, ?_⟩
      refine Kb.lp' hn46 _ rfl (by kernel_rfl) ((e46b_0 ..).trans ?_)
      refine (br_eqT rfl).trans ?_
      refine (askK_of (take_ok K ts vars kn i (by omega) (by omega) _) _).trans ?_
      simp only [cuB, unInt_iv, unBool_bv, unStr_sv, unLs_ls, unAgg_agg, unTup_tup, cInt_iv, cBool_bv, cStr_sv, cLs_ls, unNil_nil, unCons_cons, unEnd_nil, unOut_cons, unSet_set, unDel_del, unKeep_keep, unPtr_ptr, unSl_sl, ax_t, ax_i, ax_1, br_t, br_f, hT, if_true]
      refine (askK_of g _).trans ?_
      obtain ⟨k, l, r, o, p, v, ks⟩ := t
      simp only [eTr, cuB, unInt_iv, unBool_bv, unStr_sv, unLs_ls, unAgg_agg, unTup_tup, cInt_iv, cBool_bv, cStr_sv, cLs_ls, unNil_nil, unCons_cons, unEnd_nil, unOut_cons, unSet_set, unDel_del, unKeep_keep, unPtr_ptr, unSl_sl, ax_t, ax_i, ax_1, br_t, br_f]
      refine (br_eqT rfl).trans ?_
      refine (askK_of h4 _).trans ?_
      obtain ⟨k, l, r, o, p, v, ks⟩ := y
      rfl
    · rw [if_neg he]
      refine ⟨.mk k1 l1 r1 o1 p1 v1 ks1, fun h => absurd h he, ?_⟩
      refine Kb.lp' hn46 _ rfl (by kernel_rfl) ((e46b_0 ..).trans ?_)
      refine (br_eqT rfl).trans ?_
      refine (askK_of (take_ok K ts vars kn i (by omega) (by omega) _) _).trans ?_
      simp only [cuB, unInt_iv, unBool_bv, unStr_sv, unLs_ls, unAgg_agg, unTup_tup, cInt_iv, cBool_bv, cStr_sv, cLs_ls, unNil_nil, unCons_cons, unEnd_nil, unOut_cons, unSet_set, unDel_del, unKeep_keep, unPtr_ptr, unSl_sl, ax_t, ax_i, ax_1, br_t, br_f, hT, if_true]
      refine (askK_of g _).trans ?_
      obtain ⟨k, l, r, o, p, v, ks⟩ := t
      simp only [eTr, cuB, unInt_iv, unBool_bv, unStr_sv, unLs_ls, unAgg_agg, unTup_tup, cInt_iv, cBool_bv, cStr_sv, cLs_ls, unNil_nil, unCons_cons, unEnd_nil, unOut_cons, unSet_set, unDel_del, unKeep_keep, unPtr_ptr, unSl_sl, ax_t, ax_i, ax_1, br_t, br_f]
      refine (br_eqF (by omega)).trans ?_
      refine (askK_of (row_errb Kb ts vars kn j d e (.mk k1 l1 r1 o1 p1 v1 ks1) he) _).trans ?_
      rfl
theorem all_stepb (n : Nat) (ih : ∀ (j : Jb) (i d : Nat), i ≤ ts.length → d ≤ 60 → needJ ts j i ≤ n → okJ D ts vars kn j i d (jbP ts vars kn n j i d)) (i d : Nat) (hi : i ≤ ts.length) (hd : d ≤ 60) (hn : needJ ts .cond i ≤ n + 1) : okJ D ts vars kn .cond i d (jbP ts vars kn (n + 1) .cond i d) := by
  have g := ih .both i d hi hd (by simp only [needJ] at hn ⊢; omega)
  have f : Far ts i _ _ := jbP_far H vars kn n .both i d hi
  have hr : jbP ts vars kn (n + 1) .cond i d = thenT (jbP ts vars kn n .both i d) fun j x => jbP ts vars kn n (.condL x) j d := rfl
  rw [hr]
  revert f g
  rcases jbP ts vars kn n .both i d with ⟨j, e, t⟩
  intro g f
  have hj : j ≤ ts.length := f.le
  unfold okJ at g
  unfold okJ thenT
  dsimp only at g f ⊢
  refine Kb.fn' hn31 _ rfl ((e31 ..).trans ?_)
  have hrow := row_okb Kb ts vars kn i d j e t (if e = 0 then jbP ts vars kn n (.condL t) j d else failT (j, e, t)) g (fun he => by rw [if_neg he]; rfl) (fun he => by
    have hg := f.gt he
    have g2 := ih (.condL t) j d hj hd (by simp only [needJ] at hn ⊢; omega)
    refine ⟨jbP ts vars kn n (.condL t) j d, ?_, g2⟩
    rw [if_pos he]
    exact (failb ts vars kn n t j d).symm)
  refine (askK_of hrow _).trans ?_
  rcases (if e = 0 then jbP ts vars kn n (.condL t) j d else failT (j, e, t)) with ⟨j2, e2, ⟨k, l, r, o, p, v, ks⟩⟩
  rfl
theorem jb_ok : ∀ (n : Nat) (j : Jb) (i d : Nat), i ≤ ts.length → d ≤ 60 → needJ ts j i ≤ n → okJ D ts vars kn j i d (jbP ts vars kn n j i d) := by
  intro n
  induction n with
  | zero => intro j i d _ _ hn; cases j <;> simp [needJ] at hn
  | succ n ih =>
    intro j i d hi hd hn
    cases j with
    | one => exact one_step K Kb L H vars kn hv n ih i d hi hd hn
    | both => exact all_stepa K Kb L H vars kn hv n ih i d hi hd hn
    | cond => exact all_stepb K Kb L H vars kn hv n ih i d hi hd hn
    | bothL x => exact loop_stepa K Kb L H vars kn hv n ih x i d hi hd hn
    | condL x => exact loop_stepb K Kb L H vars kn hv n ih x i d hi hd hn
end
end Go.Proofs.Ytlmhajfbpplpoaa
namespace Go.Proofs.Ytlmhajfbpplpoaa
open Go.RowKit

section
variable {D : Orc}
/-- What is known of the reference's names. -/
structure RNameF (D : Orc) : Prop where
  name : ∀ s : List UInt8, s.length < 4611686018427387904 → D.ask (.fn 44) [sv (bstr s)] [] = some (bv (nameB s), [])
theorem place_lp (K : Knows ownC tabRa D) (xs : List ByteArray) (hx : xs.length < 4611686018427387904) (s : ByteArray) : ∀ (k i : Nat), xs.length - i = k → D.ask (.lp 45 0) [.ls (xs.map eS), sv s, iv (i : Int)] [] = some (placeR i ((xs.drop i).findIdx? (s = ·)), []) := by
  intro k
  induction k with
  | zero =>
    intro i hi
    refine K.lp' hn45 _ rfl (by kernel_rfl) ((e45_0 ..).trans ?_)
    have : xs.drop i = [] := List.drop_eq_nil_of_le (by omega)
    simp only [r_lt, lenR_map, this, br_if]
    rw [if_neg (by simp; omega)]
    rfl
  | succ k ih =>
    intro i hi
    have hlt : i < xs.length := by omega
    refine K.lp' hn45 _ rfl (by kernel_rfl) ((e45_0 ..).trans ?_)
    have e1 : xs.drop i = xs[i] :: xs.drop (i + 1) := List.drop_eq_getElem_cons hlt
    have ih' := ih (i + 1) (by omega)
    have e2 : realA.add .i64 (i : Int) 1 = ((i + 1 : Nat) : Int) := add1 (by omega)
    simp only [r_lt, lenR_map, unI_n, nthK_map, List.getElem?_eq_getElem hlt, eS, cStr_sv, unNil_nil, r_seq, e2, br_if]
    rw [if_pos (by simpa using hlt), e1, List.findIdx?_cons]
    by_cases h : s = xs[i]
    · simp [← h, placeR]
    · rw [if_neg (by simpa using fun e => h e.symm), if_neg (by simpa using h)]
      refine (askK_of ih' _).trans ?_
      cases (xs.drop (i + 1)).findIdx? (s = ·) with
      | none => rfl
      | some j =>
        simp only [placeR, Option.map_some, show i + (j + 1) = i + 1 + j by omega]
        rfl
theorem place_ok (K : Knows ownC tabRa D) (xs : List ByteArray) (hx : xs.length < 4611686018427387904) (s : ByteArray) : D.ask (.fn 45) [.ls (xs.map eS), sv s] [] = some (iv (placeI (xs.findIdx? (s = ·))), []) := by
  refine K.fn' hn45 _ rfl ((e45 ..).trans ?_)
  refine (askK_of (place_lp K xs hx s _ 0 rfl) _).trans ?_
  rw [List.drop_zero]
  cases xs.findIdx? (s = ·) with
  | none => rfl
  | some j => simp only [placeR, unInt_iv, unBool_bv, unStr_sv, unLs_ls, unAgg_agg, unTup_tup, cInt_iv, cBool_bv, cStr_sv, cLs_ls, unNil_nil, unCons_cons, unEnd_nil, unOut_cons, unSet_set, unDel_del, unKeep_keep, unPtr_ptr, unSl_sl, ax_t, ax_i, ax_1, br_t, br_f, Nat.zero_add]; rfl
theorem in_ok (K : Knows ownC tabRa D) (xs : List ByteArray) (hx : xs.length < 4611686018427387904) (s : ByteArray) : D.ask (.fn 30) [.ls (xs.map eS), sv s] [] = some (bv (decide (s ∈ xs)), []) := by
  refine K.fn' hn30 _ rfl ((e30 ..).trans ?_)
  refine (askK_of (place_ok K xs hx s) _).trans ?_
  simp only [unInt_iv, unBool_bv, unStr_sv, unLs_ls, unAgg_agg, unTup_tup, cInt_iv, cBool_bv, cStr_sv, cLs_ls, unNil_nil, unCons_cons, unEnd_nil, unOut_cons, unSet_set, unDel_del, unKeep_keep, unPtr_ptr, unSl_sl, ax_t, ax_i, ax_1, br_t, br_f, r_le, placeI_mem]
  cases decide (s ∈ xs) <;> rfl
theorem next_ok (K : Knows ownC tabRa D) (ts : List Tk) (vars : List ByteArray) (kn : Bool) (i : Nat) (hts : ts.length < 4611686018427387904) : D.ask (.fn 15) [cuA ts vars kn i] [] = some (.agg (eTk (nx ts i)), []) := by
  refine K.fn' hn15 _ rfl ((e15 ..).trans ?_)
  simp only [r_eq, r_lt, r_le, lenR_map, br_if]
  by_cases h0 : ts = []
  · subst h0
    rw [if_pos (by simp)]
    rfl
  · have hl : 0 < ts.length := List.length_pos_iff.2 h0
    rw [if_neg (by simp [h0]), if_neg (by simp)]
    unfold nx
    by_cases h : i < ts.length
    · rw [if_neg (by simp; omega), unI_n, nthK_some (List.getElem?_eq_getElem h), List.getElem?_eq_getElem h]
      simp only [eTk, unInt_iv, unBool_bv, unStr_sv, unLs_ls, unAgg_agg, unTup_tup, cInt_iv, cBool_bv, cStr_sv, cLs_ls, unNil_nil, unCons_cons, unEnd_nil, unOut_cons, unSet_set, unDel_del, unKeep_keep, unPtr_ptr, unSl_sl, ax_t, ax_i, ax_1, br_t, br_f]
    · have e1 : realA.sub .i64 (ts.length : Int) 1 = ((ts.length - 1 : Nat) : Int) := by rw [r_sub (by omega) (by omega)]; omega
      rw [if_pos (by simp; omega), e1, unI_n, nthK_some (nth_last ts h0 ⟨5, [], 0, 0⟩), List.getElem?_eq_none (show ts.length ≤ i by omega)]
      simp only [eTk, unInt_iv, unBool_bv, unStr_sv, unLs_ls, unAgg_agg, unTup_tup, cInt_iv, cBool_bv, cStr_sv, cLs_ls, unNil_nil, unCons_cons, unEnd_nil, unOut_cons, unSet_set, unDel_del, unKeep_keep, unPtr_ptr, unSl_sl, ax_t, ax_i, ax_1, br_t, br_f]
theorem tis_ok (K : Knows ownC tabRa D) (ts : List Tk) (vars : List ByteArray) (kn : Bool) (i : Nat) (hts : ts.length < 4611686018427387904) (s : List UInt8) : D.ask (.fn 18) [cuA ts vars kn i, sv (bstr s)] [] = some (bv (isT ts i s), []) := by
  refine K.fn' hn18 _ rfl ((e18 ..).trans ?_)
  refine (askK_of (next_ok K ts vars kn i hts) _).trans ?_
  unfold isT
  simp only [eTk, unInt_iv, unBool_bv, unStr_sv, unLs_ls, unAgg_agg, unTup_tup, cInt_iv, cBool_bv, cStr_sv, cLs_ls, unNil_nil, unCons_cons, unEnd_nil, unOut_cons, unSet_set, unDel_del, unKeep_keep, unPtr_ptr, unSl_sl, ax_t, ax_i, ax_1, br_t, br_f, ci0, ci1, ci2, ci3, ci4, ci5, ci6, r_lt, r_le, r_eq, r_seq, r_slen, r_cat, r_beq, br_if, bstr_inj]
  by_cases h1 : (nx ts i).text = s <;> by_cases h2 : (nx ts i).kind = 1 <;> by_cases h3 : (nx ts i).kind = 2 <;> by_cases h4 : (nx ts i).kind = 4 <;> simp [h1, h2, h3, h4]
theorem on_ok (K : Knows ownC tabRa D) (ts : List Tk) (vars : List ByteArray) (kn : Bool) (i : Nat) (hi : i < 4611686018427387904) : D.ask (.fn 28) [cuA ts vars kn i] [] = some (cuA ts vars kn (i + 1), []) := by
  refine K.fn' hn28 _ rfl ((e28 ..).trans ?_)
  rw [add1 hi]
  rfl
theorem tname_ok (K : Knows ownC tabRa D) (L : RNameF D) (ts : List Tk) (vars : List ByteArray) (kn : Bool) (i : Nat) (hts : ts.length < 4611686018427387904) (hs : ShortT ts) : D.ask (.fn 29) [cuA ts vars kn i] [] = some (bv (isN ts i), []) := by
  refine K.fn' hn29 _ rfl ((e29 ..).trans ?_)
  refine (askK_of (next_ok K ts vars kn i hts) _).trans ?_
  unfold isN
  simp only [eTk, unInt_iv, unBool_bv, unStr_sv, unLs_ls, unAgg_agg, unTup_tup, cInt_iv, cBool_bv, cStr_sv, cLs_ls, unNil_nil, unCons_cons, unEnd_nil, unOut_cons, unSet_set, unDel_del, unKeep_keep, unPtr_ptr, unSl_sl, ax_t, ax_i, ax_1, br_t, br_f, ci0, ci1, ci2, ci3, ci4, ci5, ci6, r_lt, r_le, r_eq, r_seq, r_slen, r_cat, r_beq]
  by_cases h : (nx ts i).kind = 1
  · simp only [h, decide_true, unInt_iv, unBool_bv, unStr_sv, unLs_ls, unAgg_agg, unTup_tup, cInt_iv, cBool_bv, cStr_sv, cLs_ls, unNil_nil, unCons_cons, unEnd_nil, unOut_cons, unSet_set, unDel_del, unKeep_keep, unPtr_ptr, unSl_sl, ax_t, ax_i, ax_1, br_t, br_f]
    refine (askK_of (L.name _ (hs i)) _).trans ?_
    simp only [unInt_iv, unBool_bv, unStr_sv, unLs_ls, unAgg_agg, unTup_tup, cInt_iv, cBool_bv, cStr_sv, cLs_ls, unNil_nil, unCons_cons, unEnd_nil, unOut_cons, unSet_set, unDel_del, unKeep_keep, unPtr_ptr, unSl_sl, ax_t, ax_i, ax_1, br_t, br_f]
    cases nameB (nx ts i).text <;> rfl
  · simp only [h, decide_false, unInt_iv, unBool_bv, unStr_sv, unLs_ls, unAgg_agg, unTup_tup, cInt_iv, cBool_bv, cStr_sv, cLs_ls, unNil_nil, unCons_cons, unEnd_nil, unOut_cons, unSet_set, unDel_del, unKeep_keep, unPtr_ptr, unSl_sl, ax_t, ax_i, ax_1, br_t, br_f]
    rfl
end
end Go.Proofs.Ytlmhajfbpplpoaa
namespace Go.Proofs.Ytlmhajfbpplpoaa
open Go.RowKit

theorem br_seqT {a b : ByteArray} (h : a = b) {x y : KR} : br (realA.seq a b) x y = x := by rw [r_seq, decide_eq_true h]; rfl
theorem br_seqF {a b : ByteArray} (h : ¬ a = b) {x y : KR} : br (realA.seq a b) x y = y := by rw [r_seq, decide_eq_false h]; rfl
section
variable {ts : List Tk} {vars : List ByteArray} {kn : Bool} {k : Nat} {out : List Mo} {neg : Bool} {i j e : Nat} {m : Mo}
theorem sumL_go (hb : begP ts i = true) (hm : monoP ts vars kn i neg = (j, 0, m)) : sumL ts vars kn (k + 1) out neg i = if isT ts j [45] then sumL ts vars kn k (out ++ [m]) true (j + 1) else if isT ts j [43] then sumL ts vars kn k (out ++ [m]) false (j + 1) else (j, 0, out ++ [m]) := by
  rw [sumL, hb, if_neg (by simp), hm, if_neg (by simp)]
theorem sumL_no (hb : begP ts i = true) (hm : monoP ts vars kn i neg = (j, e, m)) (he : e ≠ 0) : sumL ts vars kn (k + 1) out neg i = (j, e, []) := by
  rw [sumL, hb, if_neg (by simp), hm, if_pos he]
theorem row3 (out : List Mo) (neg : Bool) (num var : ByteArray) : List.drop 0 (List.take (0 + out.length * 3) (rowC eMo out)) ++ [bv neg, sv num, sv var] = rowC eMo (out ++ [⟨neg, num, var⟩]) := by
  rw [List.drop_zero, rowC_all eMo_len out (by omega)]
  exact rowC_snoc eMo out ⟨neg, num, var⟩
theorem ble3 (out : List Mo) (m : Mo) : Nat.ble (0 + (out.length + 1) * 3) (rowC eMo (out ++ [m])).length = true := ble_row eMo_len _ (by simp)
theorem chunk3 (out : List Mo) (m : Mo) : chunk (out.length + 1) 3 (List.take ((out.length + 1) * 3) (List.drop 0 (rowC eMo (out ++ [m])))) = (out ++ [m]).map eMo := by
  rw [List.drop_zero]
  exact chunk_of eMo_len _ (by simp)
end
section
variable {D : Orc}
def tz : ABlk := ABlk.mk [.ls [], iv 0, .ls [], bv false] true false
theorem rsum_lp (K : Knows ownC tabRa D) (L : RNameF D) (ts : List Tk) (vars : List ByteArray) (kn : Bool) (hts : ts.length < 4611686018427387904) (hv : vars.length < 4611686018427387904) (hs : ShortT ts) (hnum : ∀ i, (nx ts i).kind = 3 → (nx ts i).text ≠ []) : ∀ (k : Nat) (out : List Mo) (neg : Bool) (i : Nat), out.length + k = 64 → i + 4 * (k + 1) < 4611686018427387904 →
    D.ask (.lp 8 0) [.ptr 0 0, .ptr 1 0, .sl 2 0 out.length 3, bv neg] [cuB ts vars kn i, tz, ABlk.mk (rowC eMo out) true true] = some (.tup [bv true, .ptr 1 0, .ls ((sumL ts vars kn k out neg i).2.2.map eMo), iv ((sumL ts vars kn k out neg i).2.1 : Int)], [.del, .set (cuB ts vars kn (sumL ts vars kn k out neg i).1), .del]) := by
  intro k
  induction k with
  | zero =>
    intro out neg i hk hi
    refine K.lp' hn8 _ rfl (by kernel_rfl) ((e8_0 ..).trans ?_)
    refine (askK_of (next_ok K ts vars kn i hts) _).trans ?_
    simp only [eTk, unInt_iv, unBool_bv, unStr_sv, unLs_ls, unAgg_agg, unTup_tup, cInt_iv, cBool_bv, cStr_sv, cLs_ls, unNil_nil, unCons_cons, unEnd_nil, unOut_cons, unSet_set, unDel_del, unKeep_keep, unPtr_ptr, unSl_sl, ax_t, ax_i, ax_1, br_t, br_f]
    unfold sumL
    by_cases h3 : (nx ts i).kind = 3
    · have hb : begP ts i = true := by unfold begP; simp [h3]
      refine (br_eqT (by omega)).trans ?_
      refine (br_eqT (by omega)).trans ?_
      rw [hb]
      rfl
    · refine (br_eqF (by omega)).trans ?_
      refine (askK_of (tname_ok K L ts vars kn i hts hs) _).trans ?_
      cases hN : isN ts i with
      | false =>
        have hb : begP ts i = false := by unfold begP; simp [h3, hN]
        rw [hb]
        simp only [unInt_iv, unBool_bv, unStr_sv, unLs_ls, unAgg_agg, unTup_tup, cInt_iv, cBool_bv, cStr_sv, cLs_ls, unNil_nil, unCons_cons, unEnd_nil, unOut_cons, unSet_set, unDel_del, unKeep_keep, unPtr_ptr, unSl_sl, ax_t, ax_i, ax_1, br_t, br_f]
        rfl
      | true =>
        have hb : begP ts i = true := by unfold begP; simp [hN]
        rw [hb]
        simp only [unInt_iv, unBool_bv, unStr_sv, unLs_ls, unAgg_agg, unTup_tup, cInt_iv, cBool_bv, cStr_sv, cLs_ls, unNil_nil, unCons_cons, unEnd_nil, unOut_cons, unSet_set, unDel_del, unKeep_keep, unPtr_ptr, unSl_sl, ax_t, ax_i, ax_1, br_t, br_f]
        refine (br_eqT (by omega)).trans ?_
        rfl
  | succ k ih =>
    intro out neg i hk hi
    have hf : fitsB (out.length + 1) 40 = true := fits_small (by omega) (by omega)
    have hb1 : Nat.ble (0 + out.length * 3) (rowC eMo out).length = true := ble_row eMo_len out (by omega)
    refine K.lp' hn8 _ rfl (by kernel_rfl) ((e8_0 ..).trans ?_)
    refine (askK_of (next_ok K ts vars kn i hts) _).trans ?_
    simp only [eTk, unInt_iv, unBool_bv, unStr_sv, unLs_ls, unAgg_agg, unTup_tup, cInt_iv, cBool_bv, cStr_sv, cLs_ls, unNil_nil, unCons_cons, unEnd_nil, unOut_cons, unSet_set, unDel_del, unKeep_keep, unPtr_ptr, unSl_sl, ax_t, ax_i, ax_1, br_t, br_f]
    by_cases h3 : (nx ts i).kind = 3
    · have hb : begP ts i = true := by unfold begP; simp [h3]
      have hne : ¬ bstr (nx ts i).text = bstr [] := fun h => hnum i h3 (bstr_inj.1 h)
      refine (br_eqT (by omega)).trans ?_
      refine (br_eqF (by omega)).trans ?_
      refine (br_eqT (by omega)).trans ?_
      refine (askK_of (on_ok K ts vars kn i (by omega)) _).trans ?_
      simp only [cuA, unInt_iv, unBool_bv, unStr_sv, unLs_ls, unAgg_agg, unTup_tup, cInt_iv, cBool_bv, cStr_sv, cLs_ls, unNil_nil, unCons_cons, unEnd_nil, unOut_cons, unSet_set, unDel_del, unKeep_keep, unPtr_ptr, unSl_sl, ax_t, ax_i, ax_1, br_t, br_f]
      refine (br_seqF hne).trans ?_
      refine (askK_of (tis_ok K ts vars kn (i + 1) hts _) _).trans ?_
      cases h42 : isT ts (i + 1) [42] with
      | false =>
        have hm : monoP ts vars kn i neg = (i + 1, 0, ⟨neg, bstr (nx ts i).text, bstr []⟩) := by unfold monoP; rw [if_pos h3, h42, if_neg (by simp)]
        simp only [unInt_iv, unBool_bv, unStr_sv, unLs_ls, unAgg_agg, unTup_tup, cInt_iv, cBool_bv, cStr_sv, cLs_ls, unNil_nil, unCons_cons, unEnd_nil, unOut_cons, unSet_set, unDel_del, unKeep_keep, unPtr_ptr, unSl_sl, ax_t, ax_i, ax_1, br_t, br_f]
        rw [sumL_go (k := k) (out := out) hb hm]
        have e3 := row3 out neg (bstr (nx ts i).text) (bstr [])
        have hb2 := ble3 out (⟨neg, (bstr (nx ts i).text), (bstr [])⟩ : Mo)
        have hc := chunk3 out (⟨neg, (bstr (nx ts i).text), (bstr [])⟩ : Mo)
        have ih1 := ih (out ++ [⟨neg, (bstr (nx ts i).text), (bstr [])⟩]) true (i+1 + 1) (by simp; omega) (by omega)
        have ih2 := ih (out ++ [⟨neg, (bstr (nx ts i).text), (bstr [])⟩]) false (i+1 + 1) (by simp; omega) (by omega)
        rw [List.length_append, List.length_singleton] at ih1 ih2
        simp only [hf, hb1, unInt_iv, unBool_bv, unStr_sv, unLs_ls, unAgg_agg, unTup_tup, cInt_iv, cBool_bv, cStr_sv, cLs_ls, unNil_nil, unCons_cons, unEnd_nil, unOut_cons, unSet_set, unDel_del, unKeep_keep, unPtr_ptr, unSl_sl, ax_t, ax_i, ax_1, br_t, br_f]
        refine (askK_of (tis_ok K ts vars kn (i+1) (by omega) _) _).trans ?_
        cases h45 : isT ts (i+1) [45] with
        | true =>
          simp only [unInt_iv, unBool_bv, unStr_sv, unLs_ls, unAgg_agg, unTup_tup, cInt_iv, cBool_bv, cStr_sv, cLs_ls, unNil_nil, unCons_cons, unEnd_nil, unOut_cons, unSet_set, unDel_del, unKeep_keep, unPtr_ptr, unSl_sl, ax_t, ax_i, ax_1, br_t, br_f, if_true]
          refine (askK_of (on_ok K ts vars kn (i+1) (by omega)) _).trans ?_
          simp only [cuA, unInt_iv, unBool_bv, unStr_sv, unLs_ls, unAgg_agg, unTup_tup, cInt_iv, cBool_bv, cStr_sv, cLs_ls, unNil_nil, unCons_cons, unEnd_nil, unOut_cons, unSet_set, unDel_del, unKeep_keep, unPtr_ptr, unSl_sl, ax_t, ax_i, ax_1, br_t, br_f, e3]
          refine (askK_of ih1 _).trans ?_
          rfl
        | false =>
          simp only [unInt_iv, unBool_bv, unStr_sv, unLs_ls, unAgg_agg, unTup_tup, cInt_iv, cBool_bv, cStr_sv, cLs_ls, unNil_nil, unCons_cons, unEnd_nil, unOut_cons, unSet_set, unDel_del, unKeep_keep, unPtr_ptr, unSl_sl, ax_t, ax_i, ax_1, br_t, br_f, Bool.false_eq_true, if_false]
          refine (askK_of (tis_ok K ts vars kn (i+1) (by omega) _) _).trans ?_
          cases h43 : isT ts (i+1) [43] with
          | true =>
            simp only [unInt_iv, unBool_bv, unStr_sv, unLs_ls, unAgg_agg, unTup_tup, cInt_iv, cBool_bv, cStr_sv, cLs_ls, unNil_nil, unCons_cons, unEnd_nil, unOut_cons, unSet_set, unDel_del, unKeep_keep, unPtr_ptr, unSl_sl, ax_t, ax_i, ax_1, br_t, br_f, if_true]
            refine (askK_of (on_ok K ts vars kn (i+1) (by omega)) _).trans ?_
            simp only [cuA, unInt_iv, unBool_bv, unStr_sv, unLs_ls, unAgg_agg, unTup_tup, cInt_iv, cBool_bv, cStr_sv, cLs_ls, unNil_nil, unCons_cons, unEnd_nil, unOut_cons, unSet_set, unDel_del, unKeep_keep, unPtr_ptr, unSl_sl, ax_t, ax_i, ax_1, br_t, br_f, e3]
            refine (askK_of ih2 _).trans ?_
            rfl
          | false =>
            simp only [unInt_iv, unBool_bv, unStr_sv, unLs_ls, unAgg_agg, unTup_tup, cInt_iv, cBool_bv, cStr_sv, cLs_ls, unNil_nil, unCons_cons, unEnd_nil, unOut_cons, unSet_set, unDel_del, unKeep_keep, unPtr_ptr, unSl_sl, ax_t, ax_i, ax_1, br_t, br_f, e3, hb2, hc, Bool.false_eq_true, if_false]
            rfl
      | true =>
        simp only [unInt_iv, unBool_bv, unStr_sv, unLs_ls, unAgg_agg, unTup_tup, cInt_iv, cBool_bv, cStr_sv, cLs_ls, unNil_nil, unCons_cons, unEnd_nil, unOut_cons, unSet_set, unDel_del, unKeep_keep, unPtr_ptr, unSl_sl, ax_t, ax_i, ax_1, br_t, br_f]
        refine (br_seqF hne).trans ?_
        refine (askK_of (on_ok K ts vars kn (i + 1) (by omega)) _).trans ?_
        simp only [cuA, unInt_iv, unBool_bv, unStr_sv, unLs_ls, unAgg_agg, unTup_tup, cInt_iv, cBool_bv, cStr_sv, cLs_ls, unNil_nil, unCons_cons, unEnd_nil, unOut_cons, unSet_set, unDel_del, unKeep_keep, unPtr_ptr, unSl_sl, ax_t, ax_i, ax_1, br_t, br_f]
        refine (askK_of (tname_ok K L ts vars kn (i + 2) hts hs) _).trans ?_
        cases hN : isN ts (i + 2) with
        | false =>
          have hv0 : varP ts vars kn (i + 2) = (i + 2, 101, bstr []) := by unfold varP; rw [if_pos hN]
          have hm : monoP ts vars kn i neg = (i + 2, 101, ⟨neg, bstr (nx ts i).text, bstr []⟩) := by unfold monoP; rw [if_pos h3, h42, if_pos rfl, hv0]
          rw [sumL_no (k := k) (out := out) hb hm (by simp)]
          simp only [unInt_iv, unBool_bv, unStr_sv, unLs_ls, unAgg_agg, unTup_tup, cInt_iv, cBool_bv, cStr_sv, cLs_ls, unNil_nil, unCons_cons, unEnd_nil, unOut_cons, unSet_set, unDel_del, unKeep_keep, unPtr_ptr, unSl_sl, ax_t, ax_i, ax_1, br_t, br_f]
          rfl
        | true =>
          simp only [unInt_iv, unBool_bv, unStr_sv, unLs_ls, unAgg_agg, unTup_tup, cInt_iv, cBool_bv, cStr_sv, cLs_ls, unNil_nil, unCons_cons, unEnd_nil, unOut_cons, unSet_set, unDel_del, unKeep_keep, unPtr_ptr, unSl_sl, ax_t, ax_i, ax_1, br_t, br_f]
          refine (askK_of (next_ok K ts vars kn (i+2) (by omega)) _).trans ?_
          cases kn with
          | false =>
            have hv0 : varP ts vars false (i+2) = (i+2 + 1, 0, bstr (nx ts (i+2)).text) := by unfold varP; rw [if_neg (by simp [hN]), if_neg (by simp)]
            have hm : monoP ts vars false i neg = (i+2 + 1, 0, ⟨neg, (bstr (nx ts i).text), bstr (nx ts (i+2)).text⟩) := by unfold monoP; rw [if_pos h3, h42, if_pos rfl, hv0]
            simp only [eTk, unInt_iv, unBool_bv, unStr_sv, unLs_ls, unAgg_agg, unTup_tup, cInt_iv, cBool_bv, cStr_sv, cLs_ls, unNil_nil, unCons_cons, unEnd_nil, unOut_cons, unSet_set, unDel_del, unKeep_keep, unPtr_ptr, unSl_sl, ax_t, ax_i, ax_1, br_t, br_f]
            refine (askK_of (on_ok K ts vars false (i+2) (by omega)) _).trans ?_
            simp only [cuA, unInt_iv, unBool_bv, unStr_sv, unLs_ls, unAgg_agg, unTup_tup, cInt_iv, cBool_bv, cStr_sv, cLs_ls, unNil_nil, unCons_cons, unEnd_nil, unOut_cons, unSet_set, unDel_del, unKeep_keep, unPtr_ptr, unSl_sl, ax_t, ax_i, ax_1, br_t, br_f]
            rw [sumL_go (k := k) (out := out) hb hm]
            have e3 := row3 out neg (bstr (nx ts i).text) (bstr (nx ts (i+2)).text)
            have hb2 := ble3 out (⟨neg, (bstr (nx ts i).text), (bstr (nx ts (i+2)).text)⟩ : Mo)
            have hc := chunk3 out (⟨neg, (bstr (nx ts i).text), (bstr (nx ts (i+2)).text)⟩ : Mo)
            have ih1 := ih (out ++ [⟨neg, (bstr (nx ts i).text), (bstr (nx ts (i+2)).text)⟩]) true (i+2+1 + 1) (by simp; omega) (by omega)
            have ih2 := ih (out ++ [⟨neg, (bstr (nx ts i).text), (bstr (nx ts (i+2)).text)⟩]) false (i+2+1 + 1) (by simp; omega) (by omega)
            rw [List.length_append, List.length_singleton] at ih1 ih2
            simp only [hf, hb1, unInt_iv, unBool_bv, unStr_sv, unLs_ls, unAgg_agg, unTup_tup, cInt_iv, cBool_bv, cStr_sv, cLs_ls, unNil_nil, unCons_cons, unEnd_nil, unOut_cons, unSet_set, unDel_del, unKeep_keep, unPtr_ptr, unSl_sl, ax_t, ax_i, ax_1, br_t, br_f]
            refine (askK_of (tis_ok K ts vars false (i+2+1) (by omega) _) _).trans ?_
            cases h45 : isT ts (i+2+1) [45] with
            | true =>
              simp only [unInt_iv, unBool_bv, unStr_sv, unLs_ls, unAgg_agg, unTup_tup, cInt_iv, cBool_bv, cStr_sv, cLs_ls, unNil_nil, unCons_cons, unEnd_nil, unOut_cons, unSet_set, unDel_del, unKeep_keep, unPtr_ptr, unSl_sl, ax_t, ax_i, ax_1, br_t, br_f, if_true]
              refine (askK_of (on_ok K ts vars false (i+2+1) (by omega)) _).trans ?_
              simp only [cuA, unInt_iv, unBool_bv, unStr_sv, unLs_ls, unAgg_agg, unTup_tup, cInt_iv, cBool_bv, cStr_sv, cLs_ls, unNil_nil, unCons_cons, unEnd_nil, unOut_cons, unSet_set, unDel_del, unKeep_keep, unPtr_ptr, unSl_sl, ax_t, ax_i, ax_1, br_t, br_f, e3]
              refine (askK_of ih1 _).trans ?_
              rfl
            | false =>
              simp only [unInt_iv, unBool_bv, unStr_sv, unLs_ls, unAgg_agg, unTup_tup, cInt_iv, cBool_bv, cStr_sv, cLs_ls, unNil_nil, unCons_cons, unEnd_nil, unOut_cons, unSet_set, unDel_del, unKeep_keep, unPtr_ptr, unSl_sl, ax_t, ax_i, ax_1, br_t, br_f, Bool.false_eq_true, if_false]
              refine (askK_of (tis_ok K ts vars false (i+2+1) (by omega) _) _).trans ?_
              cases h43 : isT ts (i+2+1) [43] with
              | true =>
                simp only [unInt_iv, unBool_bv, unStr_sv, unLs_ls, unAgg_agg, unTup_tup, cInt_iv, cBool_bv, cStr_sv, cLs_ls, unNil_nil, unCons_cons, unEnd_nil, unOut_cons, unSet_set, unDel_del, unKeep_keep, unPtr_ptr, unSl_sl, ax_t, ax_i, ax_1, br_t, br_f, if_true]
                refine (askK_of (on_ok K ts vars false (i+2+1) (by omega)) _).trans ?_
                simp only [cuA, unInt_iv, unBool_bv, unStr_sv, unLs_ls, unAgg_agg, unTup_tup, cInt_iv, cBool_bv, cStr_sv, cLs_ls, unNil_nil, unCons_cons, unEnd_nil, unOut_cons, unSet_set, unDel_del, unKeep_keep, unPtr_ptr, unSl_sl, ax_t, ax_i, ax_1, br_t, br_f, e3]
                refine (askK_of ih2 _).trans ?_
                rfl
              | false =>
                simp only [unInt_iv, unBool_bv, unStr_sv, unLs_ls, unAgg_agg, unTup_tup, cInt_iv, cBool_bv, cStr_sv, cLs_ls, unNil_nil, unCons_cons, unEnd_nil, unOut_cons, unSet_set, unDel_del, unKeep_keep, unPtr_ptr, unSl_sl, ax_t, ax_i, ax_1, br_t, br_f, e3, hb2, hc, Bool.false_eq_true, if_false]
                rfl
          | true =>
            simp only [eTk, unInt_iv, unBool_bv, unStr_sv, unLs_ls, unAgg_agg, unTup_tup, cInt_iv, cBool_bv, cStr_sv, cLs_ls, unNil_nil, unCons_cons, unEnd_nil, unOut_cons, unSet_set, unDel_del, unKeep_keep, unPtr_ptr, unSl_sl, ax_t, ax_i, ax_1, br_t, br_f]
            refine (askK_of (in_ok K vars hv _) _).trans ?_
            by_cases hmem : bstr (nx ts (i+2)).text ∈ vars
            · have hv0 : varP ts vars true (i+2) = (i+2 + 1, 0, bstr (nx ts (i+2)).text) := by unfold varP; rw [if_neg (by simp [hN]), if_neg (by simp [hmem])]
              have hm : monoP ts vars true i neg = (i+2 + 1, 0, ⟨neg, (bstr (nx ts i).text), bstr (nx ts (i+2)).text⟩) := by unfold monoP; rw [if_pos h3, h42, if_pos rfl, hv0]
              simp only [hmem, decide_true, unInt_iv, unBool_bv, unStr_sv, unLs_ls, unAgg_agg, unTup_tup, cInt_iv, cBool_bv, cStr_sv, cLs_ls, unNil_nil, unCons_cons, unEnd_nil, unOut_cons, unSet_set, unDel_del, unKeep_keep, unPtr_ptr, unSl_sl, ax_t, ax_i, ax_1, br_t, br_f]
              refine (askK_of (on_ok K ts vars true (i+2) (by omega)) _).trans ?_
              simp only [cuA, unInt_iv, unBool_bv, unStr_sv, unLs_ls, unAgg_agg, unTup_tup, cInt_iv, cBool_bv, cStr_sv, cLs_ls, unNil_nil, unCons_cons, unEnd_nil, unOut_cons, unSet_set, unDel_del, unKeep_keep, unPtr_ptr, unSl_sl, ax_t, ax_i, ax_1, br_t, br_f]
              rw [sumL_go (k := k) (out := out) hb hm]
              have e3 := row3 out neg (bstr (nx ts i).text) (bstr (nx ts (i+2)).text)
              have hb2 := ble3 out (⟨neg, (bstr (nx ts i).text), (bstr (nx ts (i+2)).text)⟩ : Mo)
              have hc := chunk3 out (⟨neg, (bstr (nx ts i).text), (bstr (nx ts (i+2)).text)⟩ : Mo)
              have ih1 := ih (out ++ [⟨neg, (bstr (nx ts i).text), (bstr (nx ts (i+2)).text)⟩]) true (i+2+1 + 1) (by simp; omega) (by omega)
              have ih2 := ih (out ++ [⟨neg, (bstr (nx ts i).text), (bstr (nx ts (i+2)).text)⟩]) false (i+2+1 + 1) (by simp; omega) (by omega)
              rw [List.length_append, List.length_singleton] at ih1 ih2
              simp only [hf, hb1, unInt_iv, unBool_bv, unStr_sv, unLs_ls, unAgg_agg, unTup_tup, cInt_iv, cBool_bv, cStr_sv, cLs_ls, unNil_nil, unCons_cons, unEnd_nil, unOut_cons, unSet_set, unDel_del, unKeep_keep, unPtr_ptr, unSl_sl, ax_t, ax_i, ax_1, br_t, br_f]
              refine (askK_of (tis_ok K ts vars true (i+2+1) (by omega) _) _).trans ?_
              cases h45 : isT ts (i+2+1) [45] with
              | true =>
                simp only [unInt_iv, unBool_bv, unStr_sv, unLs_ls, unAgg_agg, unTup_tup, cInt_iv, cBool_bv, cStr_sv, cLs_ls, unNil_nil, unCons_cons, unEnd_nil, unOut_cons, unSet_set, unDel_del, unKeep_keep, unPtr_ptr, unSl_sl, ax_t, ax_i, ax_1, br_t, br_f, if_true]
                refine (askK_of (on_ok K ts vars true (i+2+1) (by omega)) _).trans ?_
                simp only [cuA, unInt_iv, unBool_bv, unStr_sv, unLs_ls, unAgg_agg, unTup_tup, cInt_iv, cBool_bv, cStr_sv, cLs_ls, unNil_nil, unCons_cons, unEnd_nil, unOut_cons, unSet_set, unDel_del, unKeep_keep, unPtr_ptr, unSl_sl, ax_t, ax_i, ax_1, br_t, br_f, e3]
                refine (askK_of ih1 _).trans ?_
                rfl
              | false =>
                simp only [unInt_iv, unBool_bv, unStr_sv, unLs_ls, unAgg_agg, unTup_tup, cInt_iv, cBool_bv, cStr_sv, cLs_ls, unNil_nil, unCons_cons, unEnd_nil, unOut_cons, unSet_set, unDel_del, unKeep_keep, unPtr_ptr, unSl_sl, ax_t, ax_i, ax_1, br_t, br_f, Bool.false_eq_true, if_false]
                refine (askK_of (tis_ok K ts vars true (i+2+1) (by omega) _) _).trans ?_
                cases h43 : isT ts (i+2+1) [43] with
                | true =>
                  simp only [unInt_iv, unBool_bv, unStr_sv, unLs_ls, unAgg_agg, unTup_tup, cInt_iv, cBool_bv, cStr_sv, cLs_ls, unNil_nil, unCons_cons, unEnd_nil, unOut_cons, unSet_set, unDel_del, unKeep_keep, unPtr_ptr, unSl_sl, ax_t, ax_i, ax_1, br_t, br_f, if_true]
                  refine (askK_of (on_ok K ts vars true (i+2+1) (by omega)) _).trans ?_
                  simp only [cuA, unInt_iv, unBool_bv, unStr_sv, unLs_ls, unAgg_agg, unTup_tup, cInt_iv, cBool_bv, cStr_sv, cLs_ls, unNil_nil, unCons_cons, unEnd_nil, unOut_cons, unSet_set, unDel_del, unKeep_keep, unPtr_ptr, unSl_sl, ax_t, ax_i, ax_1, br_t, br_f, e3]
                  refine (askK_of ih2 _).trans ?_
                  rfl
                | false =>
                  simp only [unInt_iv, unBool_bv, unStr_sv, unLs_ls, unAgg_agg, unTup_tup, cInt_iv, cBool_bv, cStr_sv, cLs_ls, unNil_nil, unCons_cons, unEnd_nil, unOut_cons, unSet_set, unDel_del, unKeep_keep, unPtr_ptr, unSl_sl, ax_t, ax_i, ax_1, br_t, br_f, e3, hb2, hc, Bool.false_eq_true, if_false]
                  rfl
            · have hv0 : varP ts vars true (i+2) = (i+2, 110, bstr []) := by unfold varP; rw [if_neg (by simp [hN]), if_pos ⟨rfl, hmem⟩]
              have hm : monoP ts vars true i neg = (i+2, 110, ⟨neg, (bstr (nx ts i).text), bstr []⟩) := by unfold monoP; rw [if_pos h3, h42, if_pos rfl, hv0]
              rw [sumL_no (k := k) (out := out) hb hm (by simp)]
              simp only [hmem, decide_false, unInt_iv, unBool_bv, unStr_sv, unLs_ls, unAgg_agg, unTup_tup, cInt_iv, cBool_bv, cStr_sv, cLs_ls, unNil_nil, unCons_cons, unEnd_nil, unOut_cons, unSet_set, unDel_del, unKeep_keep, unPtr_ptr, unSl_sl, ax_t, ax_i, ax_1, br_t, br_f]
              rfl
    · refine (br_eqF (by omega)).trans ?_
      refine (askK_of (tname_ok K L ts vars kn i hts hs) _).trans ?_
      cases hN : isN ts i with
      | false =>
        have hb : begP ts i = false := by unfold begP; simp [h3, hN]
        have e : sumL ts vars kn (k + 1) out neg i = (i, 101, []) := by unfold sumL; rw [if_pos hb]
        rw [e]
        simp only [unInt_iv, unBool_bv, unStr_sv, unLs_ls, unAgg_agg, unTup_tup, cInt_iv, cBool_bv, cStr_sv, cLs_ls, unNil_nil, unCons_cons, unEnd_nil, unOut_cons, unSet_set, unDel_del, unKeep_keep, unPtr_ptr, unSl_sl, ax_t, ax_i, ax_1, br_t, br_f]
        rfl
      | true =>
        have hb : begP ts i = true := by unfold begP; simp [hN]
        simp only [unInt_iv, unBool_bv, unStr_sv, unLs_ls, unAgg_agg, unTup_tup, cInt_iv, cBool_bv, cStr_sv, cLs_ls, unNil_nil, unCons_cons, unEnd_nil, unOut_cons, unSet_set, unDel_del, unKeep_keep, unPtr_ptr, unSl_sl, ax_t, ax_i, ax_1, br_t, br_f]
        refine (br_eqF (by omega)).trans ?_
        refine (br_eqF (by omega)).trans ?_
        refine (br_seqT rfl).trans ?_
        refine (br_seqT rfl).trans ?_
        refine (askK_of (tname_ok K L ts vars kn i hts hs) _).trans ?_
        simp only [hN, unInt_iv, unBool_bv, unStr_sv, unLs_ls, unAgg_agg, unTup_tup, cInt_iv, cBool_bv, cStr_sv, cLs_ls, unNil_nil, unCons_cons, unEnd_nil, unOut_cons, unSet_set, unDel_del, unKeep_keep, unPtr_ptr, unSl_sl, ax_t, ax_i, ax_1, br_t, br_f]
        refine (askK_of (next_ok K ts vars kn (i) (by omega)) _).trans ?_
        cases kn with
        | false =>
          have hv0 : varP ts vars false (i) = (i + 1, 0, bstr (nx ts (i)).text) := by unfold varP; rw [if_neg (by simp [hN]), if_neg (by simp)]
          have hm : monoP ts vars false i neg = (i + 1, 0, ⟨neg, (bstr []), bstr (nx ts (i)).text⟩) := by unfold monoP; rw [if_neg h3, hv0]
          simp only [eTk, unInt_iv, unBool_bv, unStr_sv, unLs_ls, unAgg_agg, unTup_tup, cInt_iv, cBool_bv, cStr_sv, cLs_ls, unNil_nil, unCons_cons, unEnd_nil, unOut_cons, unSet_set, unDel_del, unKeep_keep, unPtr_ptr, unSl_sl, ax_t, ax_i, ax_1, br_t, br_f]
          refine (askK_of (on_ok K ts vars false (i) (by omega)) _).trans ?_
          simp only [cuA, unInt_iv, unBool_bv, unStr_sv, unLs_ls, unAgg_agg, unTup_tup, cInt_iv, cBool_bv, cStr_sv, cLs_ls, unNil_nil, unCons_cons, unEnd_nil, unOut_cons, unSet_set, unDel_del, unKeep_keep, unPtr_ptr, unSl_sl, ax_t, ax_i, ax_1, br_t, br_f]
          rw [sumL_go (k := k) (out := out) hb hm]
          have e3 := row3 out neg (bstr []) (bstr (nx ts (i)).text)
          have hb2 := ble3 out (⟨neg, (bstr []), (bstr (nx ts (i)).text)⟩ : Mo)
          have hc := chunk3 out (⟨neg, (bstr []), (bstr (nx ts (i)).text)⟩ : Mo)
          have ih1 := ih (out ++ [⟨neg, (bstr []), (bstr (nx ts (i)).text)⟩]) true (i+1 + 1) (by simp; omega) (by omega)
          have ih2 := ih (out ++ [⟨neg, (bstr []), (bstr (nx ts (i)).text)⟩]) false (i+1 + 1) (by simp; omega) (by omega)
          rw [List.length_append, List.length_singleton] at ih1 ih2
          simp only [hf, hb1, unInt_iv, unBool_bv, unStr_sv, unLs_ls, unAgg_agg, unTup_tup, cInt_iv, cBool_bv, cStr_sv, cLs_ls, unNil_nil, unCons_cons, unEnd_nil, unOut_cons, unSet_set, unDel_del, unKeep_keep, unPtr_ptr, unSl_sl, ax_t, ax_i, ax_1, br_t, br_f]
          refine (askK_of (tis_ok K ts vars false (i+1) (by omega) _) _).trans ?_
          cases h45 : isT ts (i+1) [45] with
          | true =>
            simp only [unInt_iv, unBool_bv, unStr_sv, unLs_ls, unAgg_agg, unTup_tup, cInt_iv, cBool_bv, cStr_sv, cLs_ls, unNil_nil, unCons_cons, unEnd_nil, unOut_cons, unSet_set, unDel_del, unKeep_keep, unPtr_ptr, unSl_sl, ax_t, ax_i, ax_1, br_t, br_f, if_true]
            refine (askK_of (on_ok K ts vars false (i+1) (by omega)) _).trans ?_
            simp only [cuA, unInt_iv, unBool_bv, unStr_sv, unLs_ls, unAgg_agg, unTup_tup, cInt_iv, cBool_bv, cStr_sv, cLs_ls, unNil_nil, unCons_cons, unEnd_nil, unOut_cons, unSet_set, unDel_del, unKeep_keep, unPtr_ptr, unSl_sl, ax_t, ax_i, ax_1, br_t, br_f, e3]
            refine (askK_of ih1 _).trans ?_
            rfl
          | false =>
            simp only [unInt_iv, unBool_bv, unStr_sv, unLs_ls, unAgg_agg, unTup_tup, cInt_iv, cBool_bv, cStr_sv, cLs_ls, unNil_nil, unCons_cons, unEnd_nil, unOut_cons, unSet_set, unDel_del, unKeep_keep, unPtr_ptr, unSl_sl, ax_t, ax_i, ax_1, br_t, br_f, Bool.false_eq_true, if_false]
            refine (askK_of (tis_ok K ts vars false (i+1) (by omega) _) _).trans ?_
            cases h43 : isT ts (i+1) [43] with
            | true =>
              simp only [unInt_iv, unBool_bv, unStr_sv, unLs_ls, unAgg_agg, unTup_tup, cInt_iv, cBool_bv, cStr_sv, cLs_ls, unNil_nil, unCons_cons, unEnd_nil, unOut_cons, unSet_set, unDel_del, unKeep_keep, unPtr_ptr, unSl_sl, ax_t, ax_i, ax_1, br_t, br_f, if_true]
              refine (askK_of (on_ok K ts vars false (i+1) (by omega)) _).trans ?_
              simp only [cuA, unInt_iv, unBool_bv, unStr_sv, unLs_ls, unAgg_agg, unTup_tup, cInt_iv, cBool_bv, cStr_sv, cLs_ls, unNil_nil, unCons_cons, unEnd_nil, unOut_cons, unSet_set, unDel_del, unKeep_keep, unPtr_ptr, unSl_sl, ax_t, ax_i, ax_1, br_t, br_f, e3]
              refine (askK_of ih2 _).trans ?_
              rfl
            | false =>
              simp only [unInt_iv, unBool_bv, unStr_sv, unLs_ls, unAgg_agg, unTup_tup, cInt_iv, cBool_bv, cStr_sv, cLs_ls, unNil_nil, unCons_cons, unEnd_nil, unOut_cons, unSet_set, unDel_del, unKeep_keep, unPtr_ptr, unSl_sl, ax_t, ax_i, ax_1, br_t, br_f, e3, hb2, hc, Bool.false_eq_true, if_false]
              rfl
        | true =>
          simp only [eTk, unInt_iv, unBool_bv, unStr_sv, unLs_ls, unAgg_agg, unTup_tup, cInt_iv, cBool_bv, cStr_sv, cLs_ls, unNil_nil, unCons_cons, unEnd_nil, unOut_cons, unSet_set, unDel_del, unKeep_keep, unPtr_ptr, unSl_sl, ax_t, ax_i, ax_1, br_t, br_f]
          refine (askK_of (in_ok K vars hv _) _).trans ?_
          by_cases hmem : bstr (nx ts (i)).text ∈ vars
          · have hv0 : varP ts vars true (i) = (i + 1, 0, bstr (nx ts (i)).text) := by unfold varP; rw [if_neg (by simp [hN]), if_neg (by simp [hmem])]
            have hm : monoP ts vars true i neg = (i + 1, 0, ⟨neg, (bstr []), bstr (nx ts (i)).text⟩) := by unfold monoP; rw [if_neg h3, hv0]
            simp only [hmem, decide_true, unInt_iv, unBool_bv, unStr_sv, unLs_ls, unAgg_agg, unTup_tup, cInt_iv, cBool_bv, cStr_sv, cLs_ls, unNil_nil, unCons_cons, unEnd_nil, unOut_cons, unSet_set, unDel_del, unKeep_keep, unPtr_ptr, unSl_sl, ax_t, ax_i, ax_1, br_t, br_f]
            refine (askK_of (on_ok K ts vars true (i) (by omega)) _).trans ?_
            simp only [cuA, unInt_iv, unBool_bv, unStr_sv, unLs_ls, unAgg_agg, unTup_tup, cInt_iv, cBool_bv, cStr_sv, cLs_ls, unNil_nil, unCons_cons, unEnd_nil, unOut_cons, unSet_set, unDel_del, unKeep_keep, unPtr_ptr, unSl_sl, ax_t, ax_i, ax_1, br_t, br_f]
            rw [sumL_go (k := k) (out := out) hb hm]
            have e3 := row3 out neg (bstr []) (bstr (nx ts (i)).text)
            have hb2 := ble3 out (⟨neg, (bstr []), (bstr (nx ts (i)).text)⟩ : Mo)
            have hc := chunk3 out (⟨neg, (bstr []), (bstr (nx ts (i)).text)⟩ : Mo)
            have ih1 := ih (out ++ [⟨neg, (bstr []), (bstr (nx ts (i)).text)⟩]) true (i+1 + 1) (by simp; omega) (by omega)
            have ih2 := ih (out ++ [⟨neg, (bstr []), (bstr (nx ts (i)).text)⟩]) false (i+1 + 1) (by simp; omega) (by omega)
            rw [List.length_append, List.length_singleton] at ih1 ih2
            simp only [hf, hb1, unInt_iv, unBool_bv, unStr_sv, unLs_ls, unAgg_agg, unTup_tup, cInt_iv, cBool_bv, cStr_sv, cLs_ls, unNil_nil, unCons_cons, unEnd_nil, unOut_cons, unSet_set, unDel_del, unKeep_keep, unPtr_ptr, unSl_sl, ax_t, ax_i, ax_1, br_t, br_f]
            refine (askK_of (tis_ok K ts vars true (i+1) (by omega) _) _).trans ?_
            cases h45 : isT ts (i+1) [45] with
            | true =>
              simp only [unInt_iv, unBool_bv, unStr_sv, unLs_ls, unAgg_agg, unTup_tup, cInt_iv, cBool_bv, cStr_sv, cLs_ls, unNil_nil, unCons_cons, unEnd_nil, unOut_cons, unSet_set, unDel_del, unKeep_keep, unPtr_ptr, unSl_sl, ax_t, ax_i, ax_1, br_t, br_f, if_true]
              refine (askK_of (on_ok K ts vars true (i+1) (by omega)) _).trans ?_
              simp only [cuA, unInt_iv, unBool_bv, unStr_sv, unLs_ls, unAgg_agg, unTup_tup, cInt_iv, cBool_bv, cStr_sv, cLs_ls, unNil_nil, unCons_cons, unEnd_nil, unOut_cons, unSet_set, unDel_del, unKeep_keep, unPtr_ptr, unSl_sl, ax_t, ax_i, ax_1, br_t, br_f, e3]
              refine (askK_of ih1 _).trans ?_
              rfl
            | false =>
              simp only [unInt_iv, unBool_bv, unStr_sv, unLs_ls, unAgg_agg, unTup_tup, cInt_iv, cBool_bv, cStr_sv, cLs_ls, unNil_nil, unCons_cons, unEnd_nil, unOut_cons, unSet_set, unDel_del, unKeep_keep, unPtr_ptr, unSl_sl, ax_t, ax_i, ax_1, br_t, br_f, Bool.false_eq_true, if_false]
              refine (askK_of (tis_ok K ts vars true (i+1) (by omega) _) _).trans ?_
              cases h43 : isT ts (i+1) [43] with
              | true =>
                simp only [unInt_iv, unBool_bv, unStr_sv, unLs_ls, unAgg_agg, unTup_tup, cInt_iv, cBool_bv, cStr_sv, cLs_ls, unNil_nil, unCons_cons, unEnd_nil, unOut_cons, unSet_set, unDel_del, unKeep_keep, unPtr_ptr, unSl_sl, ax_t, ax_i, ax_1, br_t, br_f, if_true]
                refine (askK_of (on_ok K ts vars true (i+1) (by omega)) _).trans ?_
                simp only [cuA, unInt_iv, unBool_bv, unStr_sv, unLs_ls, unAgg_agg, unTup_tup, cInt_iv, cBool_bv, cStr_sv, cLs_ls, unNil_nil, unCons_cons, unEnd_nil, unOut_cons, unSet_set, unDel_del, unKeep_keep, unPtr_ptr, unSl_sl, ax_t, ax_i, ax_1, br_t, br_f, e3]
                refine (askK_of ih2 _).trans ?_
                rfl
              | false =>
                simp only [unInt_iv, unBool_bv, unStr_sv, unLs_ls, unAgg_agg, unTup_tup, cInt_iv, cBool_bv, cStr_sv, cLs_ls, unNil_nil, unCons_cons, unEnd_nil, unOut_cons, unSet_set, unDel_del, unKeep_keep, unPtr_ptr, unSl_sl, ax_t, ax_i, ax_1, br_t, br_f, e3, hb2, hc, Bool.false_eq_true, if_false]
                rfl
          · have hv0 : varP ts vars true (i) = (i, 110, bstr []) := by unfold varP; rw [if_neg (by simp [hN]), if_pos ⟨rfl, hmem⟩]
            have hm : monoP ts vars true i neg = (i, 110, ⟨neg, (bstr []), bstr []⟩) := by unfold monoP; rw [if_neg h3, hv0]
            rw [sumL_no (k := k) (out := out) hb hm (by simp)]
            simp only [hmem, decide_false, unInt_iv, unBool_bv, unStr_sv, unLs_ls, unAgg_agg, unTup_tup, cInt_iv, cBool_bv, cStr_sv, cLs_ls, unNil_nil, unCons_cons, unEnd_nil, unOut_cons, unSet_set, unDel_del, unKeep_keep, unPtr_ptr, unSl_sl, ax_t, ax_i, ax_1, br_t, br_f]
            rfl
end
end Go.Proofs.Ytlmhajfbpplpoaa
namespace Go.Proofs.Ytlmhajfbpplpoaa
open Go.RowKit

section
variable {D : Orc}
theorem rsum_ok (K : Knows ownC tabRa D) (L : RNameF D) (ts : List Tk) (vars : List ByteArray) (kn : Bool) (hts : ts.length < 4611686018427387904) (hv : vars.length < 4611686018427387904) (hs : ShortT ts) (hnum : ∀ i, (nx ts i).kind = 3 → (nx ts i).text ≠ []) (i : Nat) (hi : i + 300 < 4611686018427387904) : D.ask (.fn 8) [cuA ts vars kn i] [] = some (.tup [cuA ts vars kn (sumP ts vars kn i).1, .ls ((sumP ts vars kn i).2.2.map eMo), iv ((sumP ts vars kn i).2.1 : Int)], []) := by
  refine K.fn' hn8 _ rfl ((e8 ..).trans ?_)
  refine (askK_of (tis_ok K ts vars kn i hts _) _).trans ?_
  unfold sumP
  cases isT ts i [45] with
  | true =>
    simp only [unInt_iv, unBool_bv, unStr_sv, unLs_ls, unAgg_agg, unTup_tup, cInt_iv, cBool_bv, cStr_sv, cLs_ls, unNil_nil, unCons_cons, unEnd_nil, unOut_cons, unSet_set, unDel_del, unKeep_keep, unPtr_ptr, unSl_sl, ax_t, ax_i, ax_1, br_t, br_f, if_true]
    refine (askK_of (on_ok K ts vars kn i (by omega)) _).trans ?_
    simp only [cuA, unInt_iv, unBool_bv, unStr_sv, unLs_ls, unAgg_agg, unTup_tup, cInt_iv, cBool_bv, cStr_sv, cLs_ls, unNil_nil, unCons_cons, unEnd_nil, unOut_cons, unSet_set, unDel_del, unKeep_keep, unPtr_ptr, unSl_sl, ax_t, ax_i, ax_1, br_t, br_f]
    refine (askK_of (rsum_lp K L ts vars kn hts hv hs hnum 64 [] true (i + 1) rfl (by omega)) _).trans ?_
    rfl
  | false =>
    simp only [unInt_iv, unBool_bv, unStr_sv, unLs_ls, unAgg_agg, unTup_tup, cInt_iv, cBool_bv, cStr_sv, cLs_ls, unNil_nil, unCons_cons, unEnd_nil, unOut_cons, unSet_set, unDel_del, unKeep_keep, unPtr_ptr, unSl_sl, ax_t, ax_i, ax_1, br_t, br_f, Bool.false_eq_true, if_false]
    refine (askK_of (rsum_lp K L ts vars kn hts hv hs hnum 64 [] false i rfl (by omega)) _).trans ?_
    rfl
theorem br_ltT {a b : Int} (h : a < b) {x y : KR} : br (realA.lt a b) x y = x := by rw [r_lt, decide_eq_true h]; rfl
theorem br_ltF {a b : Int} (h : ¬ a < b) {x y : KR} : br (realA.lt a b) x y = y := by rw [r_lt, decide_eq_false h]; rfl
def pickK (D : Orc) (ts : List Tk) (vars : List ByteArray) (kn : Bool) (i : Nat) (l : List Mo) (j : Nat) (f : Int → Int) : Prop := ∀ op : Int,
  D.ask (.lp 58 0) [.ptr 0 0, .ptr 1 0, .ptr 2 0, .ls (l.map eMo), iv op, iv (j : Int)] [cuB ts vars kn i, tz, trB T0]
    = some (.tup [iv 0, .ptr 0 0, .ptr 1 0, .ptr 2 0, .ls (l.map eMo), iv (f op)], [.set (cuB ts vars kn i), .set tz, .set (trB T0)])
theorem pickK_end (K : Knows ownC tabRa D) (ts : List Tk) (vars : List ByteArray) (kn : Bool) (i : Nat) (l : List Mo) : pickK D ts vars kn i l 6 (fun op => op) := by
  intro op
  refine K.lp' hn58 _ rfl (by kernel_rfl) ((e58_0 ..).trans ?_)
  refine (br_ltF (by omega)).trans ?_
  rfl
theorem pickK_go (K : Knows ownC tabRa D) (ts : List Tk) (vars : List ByteArray) (kn : Bool) (i : Nat) (hts : ts.length < 4611686018427387904) (l : List Mo) (j : Nat) (hj : j < 6) (s : List UInt8) (hs : D.ask (.fn 65) [iv (j : Int)] [] = some (sv (bstr s), [])) (f : Int → Int) (h : pickK D ts vars kn i l (j + 1) f) : pickK D ts vars kn i l j (fun op => f (if isT ts i s then (j : Int) else op)) := by
  intro op
  refine K.lp' hn58 _ rfl (by kernel_rfl) ((e58_0 ..).trans ?_)
  refine (br_ltT (by omega)).trans ?_
  refine (askK_of hs _).trans ?_
  simp only [unInt_iv, unBool_bv, unStr_sv, unLs_ls, unAgg_agg, unTup_tup, cInt_iv, cBool_bv, cStr_sv, cLs_ls, unNil_nil, unCons_cons, unEnd_nil, unOut_cons, unSet_set, unDel_del, unKeep_keep, unPtr_ptr, unSl_sl, ax_t, ax_i, ax_1, br_t, br_f]
  refine (askK_of (tis_ok K ts vars kn i hts _) _).trans ?_
  simp only [unInt_iv, unBool_bv, unStr_sv, unLs_ls, unAgg_agg, unTup_tup, cInt_iv, cBool_bv, cStr_sv, cLs_ls, unNil_nil, unCons_cons, unEnd_nil, unOut_cons, unSet_set, unDel_del, unKeep_keep, unPtr_ptr, unSl_sl, ax_t, ax_i, ax_1, br_t, br_f, add1 (show j < 4611686018427387904 by omega)]
  cases isT ts i s with
  | true =>
    simp only [unInt_iv, unBool_bv, unStr_sv, unLs_ls, unAgg_agg, unTup_tup, cInt_iv, cBool_bv, cStr_sv, cLs_ls, unNil_nil, unCons_cons, unEnd_nil, unOut_cons, unSet_set, unDel_del, unKeep_keep, unPtr_ptr, unSl_sl, ax_t, ax_i, ax_1, br_t, br_f, if_true]
    refine (askK_of (h _) _).trans ?_
    rfl
  | false =>
    simp only [unInt_iv, unBool_bv, unStr_sv, unLs_ls, unAgg_agg, unTup_tup, cInt_iv, cBool_bv, cStr_sv, cLs_ls, unNil_nil, unCons_cons, unEnd_nil, unOut_cons, unSet_set, unDel_del, unKeep_keep, unPtr_ptr, unSl_sl, ax_t, ax_i, ax_1, br_t, br_f, Bool.false_eq_true, if_false]
    refine (askK_of (h _) _).trans ?_
    rfl
theorem pick_eq (ts : List Tk) (i : Nat) : (if isT ts i [62, 61] then (5 : Int) else if isT ts i [62] then 4 else if isT ts i [60, 61] then 3 else if isT ts i [60] then 2 else if isT ts i [33, 61] then 1 else if isT ts i [61] then 0 else -1) = placeI (opP ts i) := by
  unfold opP opsL isT
  generalize (nx ts i).text = t
  generalize (decide ((nx ts i).kind = 1) || decide ((nx ts i).kind = 2) || decide ((nx ts i).kind = 4)) = b
  cases b with
  | false => simp [placeI, List.findIdx?_cons]
  | true =>
    by_cases h0 : t = [61]
    · subst h0; rfl
    · by_cases h1 : t = [33, 61]
      · subst h1; rfl
      · by_cases h2 : t = [60]
        · subst h2; rfl
        · by_cases h3 : t = [60, 61]
          · subst h3; rfl
          · by_cases h4 : t = [62]
            · subst h4; rfl
            · by_cases h5 : t = [62, 61]
              · subst h5; rfl
              · simp [h0, h1, h2, h3, h4, h5, placeI, List.findIdx?_cons]
theorem sign_ok (K : Knows ownC tabRa D) (j : Nat) (hj : j < 6) : D.ask (.fn 65) [iv (j : Int)] [] = some (sv (bstr (opsL[j]!)), []) := by
  refine K.fn' hn65 _ rfl ((e65 ..).trans ?_)
  simp only [r_eq]
  rcases j with _ | _ | _ | _ | _ | _ | j <;> first | rfl | omega
theorem rpick_ok (K : Knows ownC tabRa D) (ts : List Tk) (vars : List ByteArray) (kn : Bool) (i : Nat) (hts : ts.length < 4611686018427387904) (l : List Mo) :
  D.ask (.lp 58 0) [.ptr 0 0, .ptr 1 0, .ptr 2 0, .ls (l.map eMo), iv (-1), iv 0] [cuB ts vars kn i, tz, trB T0]
    = some (.tup [iv 0, .ptr 0 0, .ptr 1 0, .ptr 2 0, .ls (l.map eMo), iv (placeI (opP ts i))], [.set (cuB ts vars kn i), .set tz, .set (trB T0)]) := by
  have h6 := pickK_end K ts vars kn i l
  have h5 := pickK_go K ts vars kn i hts l 5 (by decide) [62, 61] (sign_ok K 5 (by decide)) _ h6
  have h4 := pickK_go K ts vars kn i hts l 4 (by decide) [62] (sign_ok K 4 (by decide)) _ h5
  have h3 := pickK_go K ts vars kn i hts l 3 (by decide) [60, 61] (sign_ok K 3 (by decide)) _ h4
  have h2 := pickK_go K ts vars kn i hts l 2 (by decide) [60] (sign_ok K 2 (by decide)) _ h3
  have h1 := pickK_go K ts vars kn i hts l 1 (by decide) [33, 61] (sign_ok K 1 (by decide)) _ h2
  have h0 := pickK_go K ts vars kn i hts l 0 (by decide) [61] (sign_ok K 0 (by decide)) _ h1
  rw [← pick_eq]
  exact h0 (-1)
theorem rcompare_ok (K : Knows ownC tabRa D) (L : RNameF D) {ts : List Tk} (H : Toks ts) (hnum : ∀ i, (nx ts i).kind = 3 → (nx ts i).text ≠ []) (vars : List ByteArray) (kn : Bool) (hv : vars.length < 4611686018427387904) (i : Nat) (hi : i ≤ ts.length) : D.ask (.fn 58) [cuA ts vars kn i] [] = some (.tup [cuA ts vars kn (cmpP ts vars kn i).1, .agg (eTr (cmpP ts vars kn i).2.2), iv ((cmpP ts vars kn i).2.1 : Int)], []) := by
  have hl := H.len
  refine K.fn' hn58 _ rfl ((e58 ..).trans ?_)
  refine (askK_of (rsum_ok K L ts vars kn (by omega) hv H.short hnum i (by omega)) _).trans ?_
  have m := sumP_far H vars kn hi
  unfold cmpP
  simp only [cuA, unInt_iv, unBool_bv, unStr_sv, unLs_ls, unAgg_agg, unTup_tup, cInt_iv, cBool_bv, cStr_sv, cLs_ls, unNil_nil, unCons_cons, unEnd_nil, unOut_cons, unSet_set, unDel_del, unKeep_keep, unPtr_ptr, unSl_sl, ax_t, ax_i, ax_1, br_t, br_f]
  by_cases h0 : (sumP ts vars kn i).2.1 = 0
  · refine (br_eqT (by omega)).trans ?_
    rw [if_neg (by simp [h0])]
    refine (askK_of (rpick_ok K ts vars kn _ (by omega) _) _).trans ?_
    simp only [cuB, tz, trB, T0, eTr, eTrs, List.map_nil, unInt_iv, unBool_bv, unStr_sv, unLs_ls, unAgg_agg, unTup_tup, cInt_iv, cBool_bv, cStr_sv, cLs_ls, unNil_nil, unCons_cons, unEnd_nil, unOut_cons, unSet_set, unDel_del, unKeep_keep, unPtr_ptr, unSl_sl, ax_t, ax_i, ax_1, br_t, br_f]
    cases ho : opP ts (sumP ts vars kn i).1 with
    | none => rfl
    | some op =>
      have h2 := opP_far H ho
      refine (br_ltF (show ¬ ((op : Int) < 0) by omega)).trans ?_
      refine (askK_of (on_ok K ts vars kn _ (by omega)) _).trans ?_
      simp only [cuA, unInt_iv, unBool_bv, unStr_sv, unLs_ls, unAgg_agg, unTup_tup, cInt_iv, cBool_bv, cStr_sv, cLs_ls, unNil_nil, unCons_cons, unEnd_nil, unOut_cons, unSet_set, unDel_del, unKeep_keep, unPtr_ptr, unSl_sl, ax_t, ax_i, ax_1, br_t, br_f]
      refine (askK_of (rsum_ok K L ts vars kn (by omega) hv H.short hnum ((sumP ts vars kn i).1 + 1) (by omega)) _).trans ?_
      simp only [cuA, unInt_iv, unBool_bv, unStr_sv, unLs_ls, unAgg_agg, unTup_tup, cInt_iv, cBool_bv, cStr_sv, cLs_ls, unNil_nil, unCons_cons, unEnd_nil, unOut_cons, unSet_set, unDel_del, unKeep_keep, unPtr_ptr, unSl_sl, ax_t, ax_i, ax_1, br_t, br_f]
      by_cases h3 : (sumP ts vars kn ((sumP ts vars kn i).1 + 1)).2.1 = 0
      · refine (br_eqT (by omega)).trans ?_
        simp only [h3, ne_eq, not_true, if_false]
        rfl
      · refine (br_eqF (by omega)).trans ?_
        simp only [h3, ne_eq, not_false_eq_true, if_true]
        rfl
  · refine (br_eqF (by omega)).trans ?_
    simp only [h0, ne_eq, not_false_eq_true, if_true]
    rfl
end
end Go.Proofs.Ytlmhajfbpplpoaa
namespace Go.Proofs.Ytlmhajfbpplpoaa
open Go.RowKit

set_option linter.unusedSectionVars false
section
variable {D : Orc}
/-- A job's call and what is to come back. -/
def okRJ (D : Orc) (ts : List Tk) (vars : List ByteArray) (kn : Bool) : Jb → Nat → Nat → Nat × Nat × Tr → Prop
  | .one, i, d, q => D.ask (.fn 48) [cuA ts vars kn i, iv (d : Int)] [] = some (.tup [cuA ts vars kn q.1, .agg (eTr q.2.2), iv (q.2.1 : Int)], [])
  | .both, i, d, q => D.ask (.fn 32) [cuA ts vars kn i, iv (d : Int)] [] = some (.tup [cuA ts vars kn q.1, .agg (eTr q.2.2), iv (q.2.1 : Int)], [])
  | .cond, i, d, q => D.ask (.fn 10) [cuA ts vars kn i, iv (d : Int)] [] = some (.tup [cuA ts vars kn q.1, .agg (eTr q.2.2), iv (q.2.1 : Int)], [])
  | .bothL x, i, d, q => ∃ y, (q.2.1 = 0 → y = q.2.2) ∧ D.ask (.lp 32 0) [iv (d : Int), .ptr 0 0, .ptr 1 0, .ptr 2 0, .ptr 3 0, iv 0] [cuB ts vars kn i, tz, trB T0, trB x]
      = some (.tup [iv 0, .ptr 0 0, .ptr 1 0, .ptr 2 0, .ptr 3 0, iv (q.2.1 : Int)], [.set (cuB ts vars kn q.1), .set tz, .set (trB T0), .set (trB y)])
  | .condL x, i, d, q => ∃ y, (q.2.1 = 0 → y = q.2.2) ∧ D.ask (.lp 10 0) [iv (d : Int), .ptr 0 0, .ptr 1 0, .ptr 2 0, .ptr 3 0, iv 0] [cuB ts vars kn i, tz, trB T0, trB x]
      = some (.tup [iv 0, .ptr 0 0, .ptr 1 0, .ptr 2 0, .ptr 3 0, iv (q.2.1 : Int)], [.set (cuB ts vars kn q.1), .set tz, .set (trB T0), .set (trB y)])
/-- After an error no more is taken. -/
theorem rrow_erra (K : Knows ownC tabRa D) (ts : List Tk) (vars : List ByteArray) (kn : Bool) (i d e : Nat) (x : Tr) (he : e ≠ 0) : D.ask (.lp 32 0) [iv (d : Int), .ptr 0 0, .ptr 1 0, .ptr 2 0, .ptr 3 0, iv (e : Int)] [cuB ts vars kn i, tz, trB T0, trB x]
    = some (.tup [iv 0, .ptr 0 0, .ptr 1 0, .ptr 2 0, .ptr 3 0, iv (e : Int)], [.set (cuB ts vars kn i), .set tz, .set (trB T0), .set (trB x)]) := by
  obtain ⟨k, l, r, o, p, q, ks⟩ := x
  refine K.lp' hn32 _ rfl (by kernel_rfl) ((e32_0 ..).trans ?_)
  refine (br_eqF (by omega)).trans ?_
  rfl
/-- After an error no more is taken. -/
theorem rrow_errb (K : Knows ownC tabRa D) (ts : List Tk) (vars : List ByteArray) (kn : Bool) (i d e : Nat) (x : Tr) (he : e ≠ 0) : D.ask (.lp 10 0) [iv (d : Int), .ptr 0 0, .ptr 1 0, .ptr 2 0, .ptr 3 0, iv (e : Int)] [cuB ts vars kn i, tz, trB T0, trB x]
    = some (.tup [iv 0, .ptr 0 0, .ptr 1 0, .ptr 2 0, .ptr 3 0, iv (e : Int)], [.set (cuB ts vars kn i), .set tz, .set (trB T0), .set (trB x)]) := by
  obtain ⟨k, l, r, o, p, q, ks⟩ := x
  refine K.lp' hn10 _ rfl (by kernel_rfl) ((e10_0 ..).trans ?_)
  refine (br_eqF (by omega)).trans ?_
  rfl
variable (K : Knows ownC tabRa D) (L : RNameF D) {ts : List Tk} (H : Toks ts) (hnum : ∀ i, (nx ts i).kind = 3 → (nx ts i).text ≠ []) (vars : List ByteArray) (kn : Bool) (hv : vars.length < 4611686018427387904)
include K L H hnum hv
theorem rone_step (n : Nat) (ih : ∀ (j : Jb) (i d : Nat), i ≤ ts.length → d ≤ 60 → needJ ts j i ≤ n → okRJ D ts vars kn j i d (jbP ts vars kn n j i d)) (i d : Nat) (hi : i ≤ ts.length) (hd : d ≤ 60) (hn : needJ ts .one i ≤ n + 1) : okRJ D ts vars kn .one i d (jbP ts vars kn (n + 1) .one i d) := by
  have hl := H.len
  unfold okRJ jbP
  dsimp only
  refine K.fn' hn48 _ rfl ((e48 ..).trans ?_)
  refine (askK_of (tis_ok K ts vars kn i (by omega) _) _).trans ?_
  cases h33 : isT ts i [33] with
  | true =>
    simp only [unInt_iv, unBool_bv, unStr_sv, unLs_ls, unAgg_agg, unTup_tup, cInt_iv, cBool_bv, cStr_sv, cLs_ls, unNil_nil, unCons_cons, unEnd_nil, unOut_cons, unSet_set, unDel_del, unKeep_keep, unPtr_ptr, unSl_sl, ax_t, ax_i, ax_1, br_t, br_f, Bool.true_or, true_and]
    by_cases h60 : d = 60
    · refine (br_eqT (by omega)).trans ?_
      simp only [h60, if_true]
      rfl
    · refine (br_eqF (by omega)).trans ?_
      simp only [h60, if_false]
      refine (askK_of (tis_ok K ts vars kn i (by omega) _) _).trans ?_
      cases hT : isT ts i [116, 114, 117, 101] with
      | true =>
        simp only [unInt_iv, unBool_bv, unStr_sv, unLs_ls, unAgg_agg, unTup_tup, cInt_iv, cBool_bv, cStr_sv, cLs_ls, unNil_nil, unCons_cons, unEnd_nil, unOut_cons, unSet_set, unDel_del, unKeep_keep, unPtr_ptr, unSl_sl, ax_t, ax_i, ax_1, br_t, br_f, if_true]
        refine (askK_of (on_ok K ts vars kn i (by omega)) _).trans ?_
        rfl
      | false =>
        simp only [unInt_iv, unBool_bv, unStr_sv, unLs_ls, unAgg_agg, unTup_tup, cInt_iv, cBool_bv, cStr_sv, cLs_ls, unNil_nil, unCons_cons, unEnd_nil, unOut_cons, unSet_set, unDel_del, unKeep_keep, unPtr_ptr, unSl_sl, ax_t, ax_i, ax_1, br_t, br_f, Bool.false_eq_true, if_false]
        refine (askK_of (tis_ok K ts vars kn i (by omega) _) _).trans ?_
        cases hF : isT ts i [102, 97, 108, 115, 101] with
        | true =>
          simp only [unInt_iv, unBool_bv, unStr_sv, unLs_ls, unAgg_agg, unTup_tup, cInt_iv, cBool_bv, cStr_sv, cLs_ls, unNil_nil, unCons_cons, unEnd_nil, unOut_cons, unSet_set, unDel_del, unKeep_keep, unPtr_ptr, unSl_sl, ax_t, ax_i, ax_1, br_t, br_f, if_true]
          refine (askK_of (on_ok K ts vars kn i (by omega)) _).trans ?_
          rfl
        | false =>
          simp only [unInt_iv, unBool_bv, unStr_sv, unLs_ls, unAgg_agg, unTup_tup, cInt_iv, cBool_bv, cStr_sv, cLs_ls, unNil_nil, unCons_cons, unEnd_nil, unOut_cons, unSet_set, unDel_del, unKeep_keep, unPtr_ptr, unSl_sl, ax_t, ax_i, ax_1, br_t, br_f, Bool.false_eq_true, if_false]
          refine (askK_of (tis_ok K ts vars kn i (by omega) _) _).trans ?_
          simp only [h33]
          simp only [unInt_iv, unBool_bv, unStr_sv, unLs_ls, unAgg_agg, unTup_tup, cInt_iv, cBool_bv, cStr_sv, cLs_ls, unNil_nil, unCons_cons, unEnd_nil, unOut_cons, unSet_set, unDel_del, unKeep_keep, unPtr_ptr, unSl_sl, ax_t, ax_i, ax_1, br_t, br_f, if_true]
          have hlt := H.isT h33
          have g := ih .one (i + 1) (d + 1) (by omega) (by omega) (by simp only [needJ] at hn ⊢; omega)
          refine (askK_of (on_ok K ts vars kn i (by omega)) _).trans ?_
          simp only [cuA, unInt_iv, unBool_bv, unStr_sv, unLs_ls, unAgg_agg, unTup_tup, cInt_iv, cBool_bv, cStr_sv, cLs_ls, unNil_nil, unCons_cons, unEnd_nil, unOut_cons, unSet_set, unDel_del, unKeep_keep, unPtr_ptr, unSl_sl, ax_t, ax_i, ax_1, br_t, br_f, add1 (show d < 4611686018427387904 by omega)]
          refine (askK_of g _).trans ?_
          rcases jbP ts vars kn n .one (i + 1) (d + 1) with ⟨j, e, ⟨k, l, r, o, p, q, ks⟩⟩
          simp only [eTr, cuA, unInt_iv, unBool_bv, unStr_sv, unLs_ls, unAgg_agg, unTup_tup, cInt_iv, cBool_bv, cStr_sv, cLs_ls, unNil_nil, unCons_cons, unEnd_nil, unOut_cons, unSet_set, unDel_del, unKeep_keep, unPtr_ptr, unSl_sl, ax_t, ax_i, ax_1, br_t, br_f, thenT]
          by_cases he : e = 0
          · refine (br_eqT (by omega)).trans ?_
            rw [if_pos he]; rfl
          · refine (br_eqF (by omega)).trans ?_
            rw [if_neg he]; rfl
  | false =>
    simp only [unInt_iv, unBool_bv, unStr_sv, unLs_ls, unAgg_agg, unTup_tup, cInt_iv, cBool_bv, cStr_sv, cLs_ls, unNil_nil, unCons_cons, unEnd_nil, unOut_cons, unSet_set, unDel_del, unKeep_keep, unPtr_ptr, unSl_sl, ax_t, ax_i, ax_1, br_t, br_f, Bool.false_or]
    refine (askK_of (tis_ok K ts vars kn i (by omega) _) _).trans ?_
    cases h40 : isT ts i [40] with
    | true =>
      simp only [unInt_iv, unBool_bv, unStr_sv, unLs_ls, unAgg_agg, unTup_tup, cInt_iv, cBool_bv, cStr_sv, cLs_ls, unNil_nil, unCons_cons, unEnd_nil, unOut_cons, unSet_set, unDel_del, unKeep_keep, unPtr_ptr, unSl_sl, ax_t, ax_i, ax_1, br_t, br_f, true_and]
      by_cases h60 : d = 60
      · refine (br_eqT (by omega)).trans ?_
        simp only [h60, if_true]
        rfl
      · refine (br_eqF (by omega)).trans ?_
        simp only [h60, if_false]
        refine (askK_of (tis_ok K ts vars kn i (by omega) _) _).trans ?_
        cases hT : isT ts i [116, 114, 117, 101] with
        | true =>
          simp only [unInt_iv, unBool_bv, unStr_sv, unLs_ls, unAgg_agg, unTup_tup, cInt_iv, cBool_bv, cStr_sv, cLs_ls, unNil_nil, unCons_cons, unEnd_nil, unOut_cons, unSet_set, unDel_del, unKeep_keep, unPtr_ptr, unSl_sl, ax_t, ax_i, ax_1, br_t, br_f, if_true]
          refine (askK_of (on_ok K ts vars kn i (by omega)) _).trans ?_
          rfl
        | false =>
          simp only [unInt_iv, unBool_bv, unStr_sv, unLs_ls, unAgg_agg, unTup_tup, cInt_iv, cBool_bv, cStr_sv, cLs_ls, unNil_nil, unCons_cons, unEnd_nil, unOut_cons, unSet_set, unDel_del, unKeep_keep, unPtr_ptr, unSl_sl, ax_t, ax_i, ax_1, br_t, br_f, Bool.false_eq_true, if_false]
          refine (askK_of (tis_ok K ts vars kn i (by omega) _) _).trans ?_
          cases hF : isT ts i [102, 97, 108, 115, 101] with
          | true =>
            simp only [unInt_iv, unBool_bv, unStr_sv, unLs_ls, unAgg_agg, unTup_tup, cInt_iv, cBool_bv, cStr_sv, cLs_ls, unNil_nil, unCons_cons, unEnd_nil, unOut_cons, unSet_set, unDel_del, unKeep_keep, unPtr_ptr, unSl_sl, ax_t, ax_i, ax_1, br_t, br_f, if_true]
            refine (askK_of (on_ok K ts vars kn i (by omega)) _).trans ?_
            rfl
          | false =>
            simp only [unInt_iv, unBool_bv, unStr_sv, unLs_ls, unAgg_agg, unTup_tup, cInt_iv, cBool_bv, cStr_sv, cLs_ls, unNil_nil, unCons_cons, unEnd_nil, unOut_cons, unSet_set, unDel_del, unKeep_keep, unPtr_ptr, unSl_sl, ax_t, ax_i, ax_1, br_t, br_f, Bool.false_eq_true, if_false]
            refine (askK_of (tis_ok K ts vars kn i (by omega) _) _).trans ?_
            simp only [h33]
            simp only [unInt_iv, unBool_bv, unStr_sv, unLs_ls, unAgg_agg, unTup_tup, cInt_iv, cBool_bv, cStr_sv, cLs_ls, unNil_nil, unCons_cons, unEnd_nil, unOut_cons, unSet_set, unDel_del, unKeep_keep, unPtr_ptr, unSl_sl, ax_t, ax_i, ax_1, br_t, br_f, Bool.false_eq_true, if_false]
            refine (askK_of (tis_ok K ts vars kn i (by omega) _) _).trans ?_
            simp only [h40]
            simp only [unInt_iv, unBool_bv, unStr_sv, unLs_ls, unAgg_agg, unTup_tup, cInt_iv, cBool_bv, cStr_sv, cLs_ls, unNil_nil, unCons_cons, unEnd_nil, unOut_cons, unSet_set, unDel_del, unKeep_keep, unPtr_ptr, unSl_sl, ax_t, ax_i, ax_1, br_t, br_f, if_true]
            have hlt := H.isT h40
            have g := ih .cond (i + 1) (d + 1) (by omega) (by omega) (by simp only [needJ] at hn ⊢; omega)
            have f : Far ts (i + 1) _ _ := jbP_far H vars kn n .cond (i + 1) (d + 1) (by omega)
            refine (askK_of (on_ok K ts vars kn i (by omega)) _).trans ?_
            simp only [cuA, unInt_iv, unBool_bv, unStr_sv, unLs_ls, unAgg_agg, unTup_tup, cInt_iv, cBool_bv, cStr_sv, cLs_ls, unNil_nil, unCons_cons, unEnd_nil, unOut_cons, unSet_set, unDel_del, unKeep_keep, unPtr_ptr, unSl_sl, ax_t, ax_i, ax_1, br_t, br_f, add1 (show d < 4611686018427387904 by omega)]
            refine (askK_of g _).trans ?_
            revert f
            rcases jbP ts vars kn n .cond (i + 1) (d + 1) with ⟨j, e, ⟨k, l, r, o, p, q, ks⟩⟩
            intro f
            have hj : j ≤ ts.length := f.le
            simp only [eTr, cuA, unInt_iv, unBool_bv, unStr_sv, unLs_ls, unAgg_agg, unTup_tup, cInt_iv, cBool_bv, cStr_sv, cLs_ls, unNil_nil, unCons_cons, unEnd_nil, unOut_cons, unSet_set, unDel_del, unKeep_keep, unPtr_ptr, unSl_sl, ax_t, ax_i, ax_1, br_t, br_f, thenT]
            by_cases he : e = 0
            · refine (br_eqT (by omega)).trans ?_
              rw [if_pos he]
              refine (askK_of (tis_ok K ts vars kn j (by omega) _) _).trans ?_
              cases isT ts j [41] with
              | true =>
                simp only [unInt_iv, unBool_bv, unStr_sv, unLs_ls, unAgg_agg, unTup_tup, cInt_iv, cBool_bv, cStr_sv, cLs_ls, unNil_nil, unCons_cons, unEnd_nil, unOut_cons, unSet_set, unDel_del, unKeep_keep, unPtr_ptr, unSl_sl, ax_t, ax_i, ax_1, br_t, br_f, if_true]
                refine (br_eqT (by omega)).trans ?_
                refine (askK_of (on_ok K ts vars kn j (by omega)) _).trans ?_
                rfl
              | false =>
                simp only [unInt_iv, unBool_bv, unStr_sv, unLs_ls, unAgg_agg, unTup_tup, cInt_iv, cBool_bv, cStr_sv, cLs_ls, unNil_nil, unCons_cons, unEnd_nil, unOut_cons, unSet_set, unDel_del, unKeep_keep, unPtr_ptr, unSl_sl, ax_t, ax_i, ax_1, br_t, br_f, Bool.false_eq_true, if_false]
                rfl
            · refine (br_eqF (by omega)).trans ?_
              rw [if_neg he]
              first | rfl | (refine (br_eqF (by omega)).trans ?_; rfl)
    | false =>
      simp only [unInt_iv, unBool_bv, unStr_sv, unLs_ls, unAgg_agg, unTup_tup, cInt_iv, cBool_bv, cStr_sv, cLs_ls, unNil_nil, unCons_cons, unEnd_nil, unOut_cons, unSet_set, unDel_del, unKeep_keep, unPtr_ptr, unSl_sl, ax_t, ax_i, ax_1, br_t, br_f, Bool.false_eq_true, false_and, if_false]
      refine (askK_of (tis_ok K ts vars kn i (by omega) _) _).trans ?_
      cases hT : isT ts i [116, 114, 117, 101] with
      | true =>
        simp only [unInt_iv, unBool_bv, unStr_sv, unLs_ls, unAgg_agg, unTup_tup, cInt_iv, cBool_bv, cStr_sv, cLs_ls, unNil_nil, unCons_cons, unEnd_nil, unOut_cons, unSet_set, unDel_del, unKeep_keep, unPtr_ptr, unSl_sl, ax_t, ax_i, ax_1, br_t, br_f, if_true]
        refine (askK_of (on_ok K ts vars kn i (by omega)) _).trans ?_
        rfl
      | false =>
        simp only [unInt_iv, unBool_bv, unStr_sv, unLs_ls, unAgg_agg, unTup_tup, cInt_iv, cBool_bv, cStr_sv, cLs_ls, unNil_nil, unCons_cons, unEnd_nil, unOut_cons, unSet_set, unDel_del, unKeep_keep, unPtr_ptr, unSl_sl, ax_t, ax_i, ax_1, br_t, br_f, Bool.false_eq_true, if_false]
        refine (askK_of (tis_ok K ts vars kn i (by omega) _) _).trans ?_
        cases hF : isT ts i [102, 97, 108, 115, 101] with
        | true =>
          simp only [unInt_iv, unBool_bv, unStr_sv, unLs_ls, unAgg_agg, unTup_tup, cInt_iv, cBool_bv, cStr_sv, cLs_ls, unNil_nil, unCons_cons, unEnd_nil, unOut_cons, unSet_set, unDel_del, unKeep_keep, unPtr_ptr, unSl_sl, ax_t, ax_i, ax_1, br_t, br_f, if_true]
          refine (askK_of (on_ok K ts vars kn i (by omega)) _).trans ?_
          rfl
        | false =>
          simp only [unInt_iv, unBool_bv, unStr_sv, unLs_ls, unAgg_agg, unTup_tup, cInt_iv, cBool_bv, cStr_sv, cLs_ls, unNil_nil, unCons_cons, unEnd_nil, unOut_cons, unSet_set, unDel_del, unKeep_keep, unPtr_ptr, unSl_sl, ax_t, ax_i, ax_1, br_t, br_f, Bool.false_eq_true, if_false]
          refine (askK_of (tis_ok K ts vars kn i (by omega) _) _).trans ?_
          simp only [h33]
          simp only [unInt_iv, unBool_bv, unStr_sv, unLs_ls, unAgg_agg, unTup_tup, cInt_iv, cBool_bv, cStr_sv, cLs_ls, unNil_nil, unCons_cons, unEnd_nil, unOut_cons, unSet_set, unDel_del, unKeep_keep, unPtr_ptr, unSl_sl, ax_t, ax_i, ax_1, br_t, br_f, Bool.false_eq_true, if_false]
          refine (askK_of (tis_ok K ts vars kn i (by omega) _) _).trans ?_
          simp only [h40, unInt_iv, unBool_bv, unStr_sv, unLs_ls, unAgg_agg, unTup_tup, cInt_iv, cBool_bv, cStr_sv, cLs_ls, unNil_nil, unCons_cons, unEnd_nil, unOut_cons, unSet_set, unDel_del, unKeep_keep, unPtr_ptr, unSl_sl, ax_t, ax_i, ax_1, br_t, br_f, Bool.false_eq_true, if_false]
          refine (askK_of (rcompare_ok K L H hnum vars kn hv i hi) _).trans ?_
          rcases cmpP ts vars kn i with ⟨j, e, ⟨k, l, r, o, p, q, ks⟩⟩
          rfl
theorem rloop_stepa (n : Nat) (ih : ∀ (j : Jb) (i d : Nat), i ≤ ts.length → d ≤ 60 → needJ ts j i ≤ n → okRJ D ts vars kn j i d (jbP ts vars kn n j i d)) (x : Tr) (i d : Nat) (hi : i ≤ ts.length) (hd : d ≤ 60) (hn : needJ ts (.bothL x) i ≤ n + 1) : okRJ D ts vars kn (.bothL x) i d (jbP ts vars kn (n + 1) (.bothL x) i d) := by
  have hl := H.len
  unfold okRJ jbP
  dsimp only
  obtain ⟨k1, l1, r1, o1, p1, v1, ks1⟩ := x
  cases hT : isT ts i [38] with
  | false =>
    refine ⟨_, fun _ => rfl, ?_⟩
    refine K.lp' hn32 _ rfl (by kernel_rfl) ((e32_0 ..).trans ?_)
    refine (br_eqT rfl).trans ?_
    refine (askK_of (tis_ok K ts vars kn i (by omega) _) _).trans ?_
    simp only [unInt_iv, unBool_bv, unStr_sv, unLs_ls, unAgg_agg, unTup_tup, cInt_iv, cBool_bv, cStr_sv, cLs_ls, unNil_nil, unCons_cons, unEnd_nil, unOut_cons, unSet_set, unDel_del, unKeep_keep, unPtr_ptr, unSl_sl, ax_t, ax_i, ax_1, br_t, br_f, hT]
    rfl
  | true =>
    rw [if_pos rfl]
    have hlt := H.isT hT
    have g := ih .one (i + 1) d (by omega) hd (by simp only [needJ] at hn ⊢; omega)
    have f : Far ts (i + 1) _ _ := jbP_far H vars kn n .one (i + 1) d (by omega)
    revert f g
    rcases jbP ts vars kn n .one (i + 1) d with ⟨j, e, t⟩
    intro g f
    have hj : j ≤ ts.length := f.le
    have hg : i + 1 ≤ j := f.ge
    unfold thenT
    dsimp only
    unfold okRJ at g
    by_cases he : e = 0
    · subst he
      rw [if_pos rfl]
      obtain ⟨y, hy, h4⟩ := ih (.bothL (.mk 4 [] [] 0 (bstr []) (bstr []) [.mk k1 l1 r1 o1 p1 v1 ks1, t])) j d hj hd (by simp only [needJ] at hn ⊢; omega)
      refine ⟨y, hy, ?_⟩
      refine K.lp' hn32 _ rfl (by kernel_rfl) ((e32_0 ..).trans ?_)
      refine (br_eqT rfl).trans ?_
      refine (askK_of (tis_ok K ts vars kn i (by omega) _) _).trans ?_
      simp only [unInt_iv, unBool_bv, unStr_sv, unLs_ls, unAgg_agg, unTup_tup, cInt_iv, cBool_bv, cStr_sv, cLs_ls, unNil_nil, unCons_cons, unEnd_nil, unOut_cons, unSet_set, unDel_del, unKeep_keep, unPtr_ptr, unSl_sl, ax_t, ax_i, ax_1, br_t, br_f, hT]
      refine (askK_of (on_ok K ts vars kn i (by omega)) _).trans ?_
      simp only [cuA, unInt_iv, unBool_bv, unStr_sv, unLs_ls, unAgg_agg, unTup_tup, cInt_iv, cBool_bv, cStr_sv, cLs_ls, unNil_nil, unCons_cons, unEnd_nil, unOut_cons, unSet_set, unDel_del, unKeep_keep, unPtr_ptr, unSl_sl, ax_t, ax_i, ax_1, br_t, br_f]
      refine (askK_of g _).trans ?_
      obtain ⟨k, l, r, o, p, v, ks⟩ := t
      simp only [eTr, cuA, unInt_iv, unBool_bv, unStr_sv, unLs_ls, unAgg_agg, unTup_tup, cInt_iv, cBool_bv, cStr_sv, cLs_ls, unNil_nil, unCons_cons, unEnd_nil, unOut_cons, unSet_set, unDel_del, unKeep_keep, unPtr_ptr, unSl_sl, ax_t, ax_i, ax_1, br_t, br_f]
      refine (askK_of h4 _).trans ?_
      obtain ⟨k, l, r, o, p, v, ks⟩ := y
      rfl
    · rw [if_neg he]
      refine ⟨.mk 4 [] [] 0 (bstr []) (bstr []) [.mk k1 l1 r1 o1 p1 v1 ks1, t], fun h => absurd h he, ?_⟩
      refine K.lp' hn32 _ rfl (by kernel_rfl) ((e32_0 ..).trans ?_)
      refine (br_eqT rfl).trans ?_
      refine (askK_of (tis_ok K ts vars kn i (by omega) _) _).trans ?_
      simp only [unInt_iv, unBool_bv, unStr_sv, unLs_ls, unAgg_agg, unTup_tup, cInt_iv, cBool_bv, cStr_sv, cLs_ls, unNil_nil, unCons_cons, unEnd_nil, unOut_cons, unSet_set, unDel_del, unKeep_keep, unPtr_ptr, unSl_sl, ax_t, ax_i, ax_1, br_t, br_f, hT]
      refine (askK_of (on_ok K ts vars kn i (by omega)) _).trans ?_
      simp only [cuA, unInt_iv, unBool_bv, unStr_sv, unLs_ls, unAgg_agg, unTup_tup, cInt_iv, cBool_bv, cStr_sv, cLs_ls, unNil_nil, unCons_cons, unEnd_nil, unOut_cons, unSet_set, unDel_del, unKeep_keep, unPtr_ptr, unSl_sl, ax_t, ax_i, ax_1, br_t, br_f]
      refine (askK_of g _).trans ?_
      obtain ⟨k, l, r, o, p, v, ks⟩ := t
      simp only [eTr, cuA, unInt_iv, unBool_bv, unStr_sv, unLs_ls, unAgg_agg, unTup_tup, cInt_iv, cBool_bv, cStr_sv, cLs_ls, unNil_nil, unCons_cons, unEnd_nil, unOut_cons, unSet_set, unDel_del, unKeep_keep, unPtr_ptr, unSl_sl, ax_t, ax_i, ax_1, br_t, br_f]
      refine (askK_of (rrow_erra K ts vars kn j d e (.mk 4 [] [] 0 (bstr []) (bstr []) [.mk k1 l1 r1 o1 p1 v1 ks1, .mk k l r o p v ks]) he) _).trans ?_
      rfl
theorem rall_stepa (n : Nat) (ih : ∀ (j : Jb) (i d : Nat), i ≤ ts.length → d ≤ 60 → needJ ts j i ≤ n → okRJ D ts vars kn j i d (jbP ts vars kn n j i d)) (i d : Nat) (hi : i ≤ ts.length) (hd : d ≤ 60) (hn : needJ ts .both i ≤ n + 1) : okRJ D ts vars kn .both i d (jbP ts vars kn (n + 1) .both i d) := by
  have g := ih .one i d hi hd (by simp only [needJ] at hn ⊢; omega)
  have f : Far ts i _ _ := jbP_far H vars kn n .one i d hi
  have hr : jbP ts vars kn (n + 1) .both i d = thenT (jbP ts vars kn n .one i d) fun j x => jbP ts vars kn n (.bothL x) j d := rfl
  rw [hr]
  revert f g
  rcases jbP ts vars kn n .one i d with ⟨j, e, t⟩
  intro g f
  have hj : j ≤ ts.length := f.le
  unfold okRJ at g
  unfold okRJ thenT
  dsimp only at g f ⊢
  refine K.fn' hn32 _ rfl ((e32 ..).trans ?_)
  refine (askK_of g _).trans ?_
  by_cases he : e = 0
  · subst he
    have hg := f.gt rfl
    obtain ⟨y, hy, h4⟩ := ih (.bothL t) j d hj hd (by simp only [needJ] at hn ⊢; omega)
    rw [if_pos rfl, ← faila ts vars kn n t j d]
    obtain ⟨k, l, r, o, p, v, ks⟩ := t
    simp only [eTr, cuA, unInt_iv, unBool_bv, unStr_sv, unLs_ls, unAgg_agg, unTup_tup, cInt_iv, cBool_bv, cStr_sv, cLs_ls, unNil_nil, unCons_cons, unEnd_nil, unOut_cons, unSet_set, unDel_del, unKeep_keep, unPtr_ptr, unSl_sl, ax_t, ax_i, ax_1, br_t, br_f]
    refine (askK_of h4 _).trans ?_
    revert hy
    rcases jbP ts vars kn n (.bothL (.mk k l r o p v ks)) j d with ⟨j2, e2, t2⟩
    intro hy
    obtain ⟨k, l, r, o, p, v, ks⟩ := y
    simp only [eTr, T0, tz, trB, cuB, unInt_iv, unBool_bv, unStr_sv, unLs_ls, unAgg_agg, unTup_tup, cInt_iv, cBool_bv, cStr_sv, cLs_ls, unNil_nil, unCons_cons, unEnd_nil, unOut_cons, unSet_set, unDel_del, unKeep_keep, unPtr_ptr, unSl_sl, ax_t, ax_i, ax_1, br_t, br_f]
    by_cases h0 : e2 = 0
    · refine (br_eqT (by omega)).trans ?_
      rw [if_pos h0, h0, ← hy h0]
      rfl
    · refine (br_eqF (by omega)).trans ?_
      rw [if_neg h0]
      rfl
  · rw [if_neg he]
    obtain ⟨k, l, r, o, p, v, ks⟩ := t
    simp only [eTr, cuA, unInt_iv, unBool_bv, unStr_sv, unLs_ls, unAgg_agg, unTup_tup, cInt_iv, cBool_bv, cStr_sv, cLs_ls, unNil_nil, unCons_cons, unEnd_nil, unOut_cons, unSet_set, unDel_del, unKeep_keep, unPtr_ptr, unSl_sl, ax_t, ax_i, ax_1, br_t, br_f]
    refine (askK_of (rrow_erra K ts vars kn j d e (.mk k l r o p v ks) he) _).trans ?_
    simp only [eTr, T0, tz, trB, cuB, unInt_iv, unBool_bv, unStr_sv, unLs_ls, unAgg_agg, unTup_tup, cInt_iv, cBool_bv, cStr_sv, cLs_ls, unNil_nil, unCons_cons, unEnd_nil, unOut_cons, unSet_set, unDel_del, unKeep_keep, unPtr_ptr, unSl_sl, ax_t, ax_i, ax_1, br_t, br_f]
    refine (br_eqF (by omega)).trans ?_
    rfl
theorem rloop_stepb (n : Nat) (ih : ∀ (j : Jb) (i d : Nat), i ≤ ts.length → d ≤ 60 → needJ ts j i ≤ n → okRJ D ts vars kn j i d (jbP ts vars kn n j i d)) (x : Tr) (i d : Nat) (hi : i ≤ ts.length) (hd : d ≤ 60) (hn : needJ ts (.condL x) i ≤ n + 1) : okRJ D ts vars kn (.condL x) i d (jbP ts vars kn (n + 1) (.condL x) i d) := by
  have hl := H.len
  unfold okRJ jbP
  dsimp only
  obtain ⟨k1, l1, r1, o1, p1, v1, ks1⟩ := x
  cases hT : isT ts i [124] with
  | false =>
    refine ⟨_, fun _ => rfl, ?_⟩
    refine K.lp' hn10 _ rfl (by kernel_rfl) ((e10_0 ..).trans ?_)
    refine (br_eqT rfl).trans ?_
    refine (askK_of (tis_ok K ts vars kn i (by omega) _) _).trans ?_
    simp only [unInt_iv, unBool_bv, unStr_sv, unLs_ls, unAgg_agg, unTup_tup, cInt_iv, cBool_bv, cStr_sv, cLs_ls, unNil_nil, unCons_cons, unEnd_nil, unOut_cons, unSet_set, unDel_del, unKeep_keep, unPtr_ptr, unSl_sl, ax_t, ax_i, ax_1, br_t, br_f, hT]
    rfl
  | true =>
    rw [if_pos rfl]
    have hlt := H.isT hT
    have g := ih .both (i + 1) d (by omega) hd (by simp only [needJ] at hn ⊢; omega)
    have f : Far ts (i + 1) _ _ := jbP_far H vars kn n .both (i + 1) d (by omega)
    revert f g
    rcases jbP ts vars kn n .both (i + 1) d with ⟨j, e, t⟩
    intro g f
    have hj : j ≤ ts.length := f.le
    have hg : i + 1 ≤ j := f.ge
    unfold thenT
    dsimp only
    unfold okRJ at g
    by_cases he : e = 0
    · subst he
      rw [if_pos rfl]
      obtain ⟨y, hy, h4⟩ := ih (.condL (.mk 5 [] [] 0 (bstr []) (bstr []) [.mk k1 l1 r1 o1 p1 v1 ks1, t])) j d hj hd (by simp only [needJ] at hn ⊢; omega)
      refine ⟨y, hy, ?_⟩
      refine K.lp' hn10 _ rfl (by kernel_rfl) ((e10_0 ..).trans ?_)
      refine (br_eqT rfl).trans ?_
      refine (askK_of (tis_ok K ts vars kn i (by omega) _) _).trans ?_
      simp only [unInt_iv, unBool_bv, unStr_sv, unLs_ls, unAgg_agg, unTup_tup, cInt_iv, cBool_bv, cStr_sv, cLs_ls, unNil_nil, unCons_cons, unEnd_nil, unOut_cons, unSet_set, unDel_del, unKeep_keep, unPtr_ptr, unSl_sl, ax_t, ax_i, ax_1, br_t, br_f, hT]
      refine (askK_of (on_ok K ts vars kn i (by omega)) _).trans ?_
      simp only [cuA, unInt_iv, unBool_bv, unStr_sv, unLs_ls, unAgg_agg, unTup_tup, cInt_iv, cBool_bv, cStr_sv, cLs_ls, unNil_nil, unCons_cons, unEnd_nil, unOut_cons, unSet_set, unDel_del, unKeep_keep, unPtr_ptr, unSl_sl, ax_t, ax_i, ax_1, br_t, br_f]
      refine (askK_of g _).trans ?_
      obtain ⟨k, l, r, o, p, v, ks⟩ := t
      simp only [eTr, cuA, unInt_iv, unBool_bv, unStr_sv, unLs_ls, unAgg_agg, unTup_tup, cInt_iv, cBool_bv, cStr_sv, cLs_ls, unNil_nil, unCons_cons, unEnd_nil, unOut_cons, unSet_set, unDel_del, unKeep_keep, unPtr_ptr, unSl_sl, ax_t, ax_i, ax_1, br_t, br_f]
      refine (askK_of h4 _).trans ?_
      obtain ⟨k, l, r, o, p, v, ks⟩ := y
      rfl
    · rw [if_neg he]
      refine ⟨.mk 5 [] [] 0 (bstr []) (bstr []) [.mk k1 l1 r1 o1 p1 v1 ks1, t], fun h => absurd h he, ?_⟩
      refine K.lp' hn10 _ rfl (by kernel_rfl) ((e10_0 ..).trans ?_)
      refine (br_eqT rfl).trans ?_
      refine (askK_of (tis_ok K ts vars kn i (by omega) _) _).trans ?_
      simp only [unInt_iv, unBool_bv, unStr_sv, unLs_ls, unAgg_agg, unTup_tup, cInt_iv, cBool_bv, cStr_sv, cLs_ls, unNil_nil, unCons_cons, unEnd_nil, unOut_cons, unSet_set, unDel_del, unKeep_keep, unPtr_ptr, unSl_sl, ax_t, ax_i, ax_1, br_t, br_f, hT]
      refine (askK_of (on_ok K ts vars kn i (by omega)) _).trans ?_
      simp only [cuA, unInt_iv, unBool_bv, unStr_sv, unLs_ls, unAgg_agg, unTup_tup, cInt_iv, cBool_bv, cStr_sv, cLs_ls, unNil_nil, unCons_cons, unEnd_nil, unOut_cons, unSet_set, unDel_del, unKeep_keep, unPtr_ptr, unSl_sl, ax_t, ax_i, ax_1, br_t, br_f]
      refine (askK_of g _).trans ?_
      obtain ⟨k, l, r, o, p, v, ks⟩ := t
      simp only [eTr, cuA, unInt_iv, unBool_bv, unStr_sv, unLs_ls, unAgg_agg, unTup_tup, cInt_iv, cBool_bv, cStr_sv, cLs_ls, unNil_nil, unCons_cons, unEnd_nil, unOut_cons, unSet_set, unDel_del, unKeep_keep, unPtr_ptr, unSl_sl, ax_t, ax_i, ax_1, br_t, br_f]
      refine (askK_of (rrow_errb K ts vars kn j d e (.mk 5 [] [] 0 (bstr []) (bstr []) [.mk k1 l1 r1 o1 p1 v1 ks1, .mk k l r o p v ks]) he) _).trans ?_
      rfl
theorem rall_stepb (n : Nat) (ih : ∀ (j : Jb) (i d : Nat), i ≤ ts.length → d ≤ 60 → needJ ts j i ≤ n → okRJ D ts vars kn j i d (jbP ts vars kn n j i d)) (i d : Nat) (hi : i ≤ ts.length) (hd : d ≤ 60) (hn : needJ ts .cond i ≤ n + 1) : okRJ D ts vars kn .cond i d (jbP ts vars kn (n + 1) .cond i d) := by
  have g := ih .both i d hi hd (by simp only [needJ] at hn ⊢; omega)
  have f : Far ts i _ _ := jbP_far H vars kn n .both i d hi
  have hr : jbP ts vars kn (n + 1) .cond i d = thenT (jbP ts vars kn n .both i d) fun j x => jbP ts vars kn n (.condL x) j d := rfl
  rw [hr]
  revert f g
  rcases jbP ts vars kn n .both i d with ⟨j, e, t⟩
  intro g f
  have hj : j ≤ ts.length := f.le
  unfold okRJ at g
  unfold okRJ thenT
  dsimp only at g f ⊢
  refine K.fn' hn10 _ rfl ((e10 ..).trans ?_)
  refine (askK_of g _).trans ?_
  by_cases he : e = 0
  · subst he
    have hg := f.gt rfl
    obtain ⟨y, hy, h4⟩ := ih (.condL t) j d hj hd (by simp only [needJ] at hn ⊢; omega)
    rw [if_pos rfl, ← failb ts vars kn n t j d]
    obtain ⟨k, l, r, o, p, v, ks⟩ := t
    simp only [eTr, cuA, unInt_iv, unBool_bv, unStr_sv, unLs_ls, unAgg_agg, unTup_tup, cInt_iv, cBool_bv, cStr_sv, cLs_ls, unNil_nil, unCons_cons, unEnd_nil, unOut_cons, unSet_set, unDel_del, unKeep_keep, unPtr_ptr, unSl_sl, ax_t, ax_i, ax_1, br_t, br_f]
    refine (askK_of h4 _).trans ?_
    revert hy
    rcases jbP ts vars kn n (.condL (.mk k l r o p v ks)) j d with ⟨j2, e2, t2⟩
    intro hy
    obtain ⟨k, l, r, o, p, v, ks⟩ := y
    simp only [eTr, T0, tz, trB, cuB, unInt_iv, unBool_bv, unStr_sv, unLs_ls, unAgg_agg, unTup_tup, cInt_iv, cBool_bv, cStr_sv, cLs_ls, unNil_nil, unCons_cons, unEnd_nil, unOut_cons, unSet_set, unDel_del, unKeep_keep, unPtr_ptr, unSl_sl, ax_t, ax_i, ax_1, br_t, br_f]
    by_cases h0 : e2 = 0
    · refine (br_eqT (by omega)).trans ?_
      rw [if_pos h0, h0, ← hy h0]
      rfl
    · refine (br_eqF (by omega)).trans ?_
      rw [if_neg h0]
      rfl
  · rw [if_neg he]
    obtain ⟨k, l, r, o, p, v, ks⟩ := t
    simp only [eTr, cuA, unInt_iv, unBool_bv, unStr_sv, unLs_ls, unAgg_agg, unTup_tup, cInt_iv, cBool_bv, cStr_sv, cLs_ls, unNil_nil, unCons_cons, unEnd_nil, unOut_cons, unSet_set, unDel_del, unKeep_keep, unPtr_ptr, unSl_sl, ax_t, ax_i, ax_1, br_t, br_f]
    refine (askK_of (rrow_errb K ts vars kn j d e (.mk k l r o p v ks) he) _).trans ?_
    simp only [eTr, T0, tz, trB, cuB, unInt_iv, unBool_bv, unStr_sv, unLs_ls, unAgg_agg, unTup_tup, cInt_iv, cBool_bv, cStr_sv, cLs_ls, unNil_nil, unCons_cons, unEnd_nil, unOut_cons, unSet_set, unDel_del, unKeep_keep, unPtr_ptr, unSl_sl, ax_t, ax_i, ax_1, br_t, br_f]
    refine (br_eqF (by omega)).trans ?_
    rfl
theorem rjb_ok : ∀ (n : Nat) (j : Jb) (i d : Nat), i ≤ ts.length → d ≤ 60 → needJ ts j i ≤ n → okRJ D ts vars kn j i d (jbP ts vars kn n j i d) := by
  intro n
  induction n with
  | zero => intro j i d _ _ hn; cases j <;> simp [needJ] at hn
  | succ n ih =>
    intro j i d hi hd hn
    cases j with
    | one => exact rone_step K L H hnum vars kn hv n ih i d hi hd hn
    | both => exact rall_stepa K L H hnum vars kn hv n ih i d hi hd hn
    | cond => exact rall_stepb K L H hnum vars kn hv n ih i d hi hd hn
    | bothL x => exact rloop_stepa K L H hnum vars kn hv n ih x i d hi hd hn
    | condL x => exact rloop_stepb K L H hnum vars kn hv n ih x i d hi hd hn
end
end Go.Proofs.Ytlmhajfbpplpoaa
namespace Go.Proofs.Ytlmhajfbpplpoaa
open Go.RowKit

section
variable {ts : List Tk} (H : Toks ts) {i : Nat} (he : ts.length ≤ i)
include H he
theorem isT_end (s : List UInt8) : isT ts i s = false := by
  cases h : isT ts i s with
  | false => rfl
  | true => have := H.isT h; omega
theorem begP_end : begP ts i = false := by
  unfold begP isN
  rw [H.past he]
  rfl
theorem sumP_end (vars : List ByteArray) (kn : Bool) : sumP ts vars kn i = (i, 101, []) := by
  unfold sumP
  rw [isT_end H he, if_neg (by simp)]
  unfold sumL
  rw [if_pos (begP_end H he)]
end
/-- A condition from any place on. -/
def condP (ts : List Tk) (vars : List ByteArray) (kn : Bool) (i : Nat) : Nat × Nat × Tr := if i ≤ ts.length then jbP ts vars kn (4 * ts.length + 3) .cond i 0 else (i, 101, T0)
section
variable {D : Orc} {ts : List Tk} (H : Toks ts) {i : Nat} (he : ts.length ≤ i) (hi : i + 300 < 4611686018427387904) (vars : List ByteArray) (kn : Bool) (hv : vars.length < 4611686018427387904) (d : Nat)
include H he hi hv
theorem compare_end (K : Knows ownC tabEa D) (Kb : Knows ownC tabEb D) (L : NameF D) : D.ask (.fn 64) [.ptr 0 0] [cuB ts vars kn i] = some (.tup [.agg (eTr T0), iv 101], [.set (cuB ts vars kn i)]) := by
  have hl := H.len
  have g := sum_ok K L ts vars kn (by omega) hv H.short i hi
  rw [sumP_end H he vars kn] at g
  refine Kb.fn' hn64 _ rfl ((e64 ..).trans ?_)
  refine (askK_of g _).trans ?_
  rfl
theorem one_end (K : Knows ownC tabEa D) (Kb : Knows ownC tabEb D) (L : NameF D) : D.ask (.fn 57) [.ptr 0 0, iv (d : Int)] [cuB ts vars kn i] = some (.tup [.agg (eTr T0), iv 101], [.set (cuB ts vars kn i)]) := by
  have hl := H.len
  have t0 := fun s => is_ok K ts vars kn i (by omega) (by omega) s
  have t1 := fun s => take_ok K ts vars kn i (by omega) (by omega) s
  simp only [isT_end H he, Bool.false_eq_true, if_false] at t0 t1
  refine Kb.fn' hn57 _ rfl ((e57 ..).trans ?_)
  refine (askK_of (t0 _) _).trans ?_
  simp only [cuB, unInt_iv, unBool_bv, unStr_sv, unLs_ls, unAgg_agg, unTup_tup, cInt_iv, cBool_bv, cStr_sv, cLs_ls, unNil_nil, unCons_cons, unEnd_nil, unOut_cons, unSet_set, unDel_del, unKeep_keep, unPtr_ptr, unSl_sl, ax_t, ax_i, ax_1, br_t, br_f]
  refine (askK_of (t0 _) _).trans ?_
  simp only [cuB, unInt_iv, unBool_bv, unStr_sv, unLs_ls, unAgg_agg, unTup_tup, cInt_iv, cBool_bv, cStr_sv, cLs_ls, unNil_nil, unCons_cons, unEnd_nil, unOut_cons, unSet_set, unDel_del, unKeep_keep, unPtr_ptr, unSl_sl, ax_t, ax_i, ax_1, br_t, br_f]
  refine (askK_of (t1 _) _).trans ?_
  simp only [cuB, unInt_iv, unBool_bv, unStr_sv, unLs_ls, unAgg_agg, unTup_tup, cInt_iv, cBool_bv, cStr_sv, cLs_ls, unNil_nil, unCons_cons, unEnd_nil, unOut_cons, unSet_set, unDel_del, unKeep_keep, unPtr_ptr, unSl_sl, ax_t, ax_i, ax_1, br_t, br_f]
  refine (askK_of (t1 _) _).trans ?_
  simp only [cuB, unInt_iv, unBool_bv, unStr_sv, unLs_ls, unAgg_agg, unTup_tup, cInt_iv, cBool_bv, cStr_sv, cLs_ls, unNil_nil, unCons_cons, unEnd_nil, unOut_cons, unSet_set, unDel_del, unKeep_keep, unPtr_ptr, unSl_sl, ax_t, ax_i, ax_1, br_t, br_f]
  refine (askK_of (t1 _) _).trans ?_
  simp only [cuB, unInt_iv, unBool_bv, unStr_sv, unLs_ls, unAgg_agg, unTup_tup, cInt_iv, cBool_bv, cStr_sv, cLs_ls, unNil_nil, unCons_cons, unEnd_nil, unOut_cons, unSet_set, unDel_del, unKeep_keep, unPtr_ptr, unSl_sl, ax_t, ax_i, ax_1, br_t, br_f]
  refine (askK_of (t1 _) _).trans ?_
  simp only [cuB, unInt_iv, unBool_bv, unStr_sv, unLs_ls, unAgg_agg, unTup_tup, cInt_iv, cBool_bv, cStr_sv, cLs_ls, unNil_nil, unCons_cons, unEnd_nil, unOut_cons, unSet_set, unDel_del, unKeep_keep, unPtr_ptr, unSl_sl, ax_t, ax_i, ax_1, br_t, br_f]
  refine (askK_of (compare_end H he hi vars kn hv K Kb L) _).trans ?_
  rfl
theorem both_end (K : Knows ownC tabEa D) (Kb : Knows ownC tabEb D) (L : NameF D) : D.ask (.fn 47) [.ptr 0 0, iv (d : Int)] [cuB ts vars kn i] = some (.tup [.agg (eTr T0), iv 101], [.set (cuB ts vars kn i)]) := by
  refine Kb.fn' hn47 _ rfl ((e47 ..).trans ?_)
  refine (askK_of (row_oka Kb ts vars kn i d i 101 T0 (i, 101, T0) (one_end H he hi vars kn hv d K Kb L) (fun _ => rfl) (fun h => absurd h (by simp))) _).trans ?_
  rfl
theorem cond_end (K : Knows ownC tabEa D) (Kb : Knows ownC tabEb D) (L : NameF D) : D.ask (.fn 31) [.ptr 0 0, iv (d : Int)] [cuB ts vars kn i] = some (.tup [.agg (eTr T0), iv 101], [.set (cuB ts vars kn i)]) := by
  refine Kb.fn' hn31 _ rfl ((e31 ..).trans ?_)
  refine (askK_of (row_okb Kb ts vars kn i d i 101 T0 (i, 101, T0) (both_end H he hi vars kn hv d K Kb L) (fun _ => rfl) (fun h => absurd h (by simp))) _).trans ?_
  rfl
variable (hnum : ∀ i, (nx ts i).kind = 3 → (nx ts i).text ≠ [])
include hnum
theorem rcompare_end (K : Knows ownC tabRa D) (L : RNameF D) : D.ask (.fn 58) [cuA ts vars kn i] [] = some (.tup [cuA ts vars kn i, .agg (eTr T0), iv 101], []) := by
  have hl := H.len
  have g := rsum_ok K L ts vars kn (by omega) hv H.short hnum i hi
  rw [sumP_end H he vars kn] at g
  refine K.fn' hn58 _ rfl ((e58 ..).trans ?_)
  refine (askK_of g _).trans ?_
  rfl
theorem rone_end (K : Knows ownC tabRa D) (L : RNameF D) : D.ask (.fn 48) [cuA ts vars kn i, iv (d : Int)] [] = some (.tup [cuA ts vars kn i, .agg (eTr T0), iv 101], []) := by
  have hl := H.len
  have t0 := fun s => tis_ok K ts vars kn i (by omega) s
  simp only [isT_end H he] at t0
  refine K.fn' hn48 _ rfl ((e48 ..).trans ?_)
  refine (askK_of (t0 _) _).trans ?_
  simp only [unInt_iv, unBool_bv, unStr_sv, unLs_ls, unAgg_agg, unTup_tup, cInt_iv, cBool_bv, cStr_sv, cLs_ls, unNil_nil, unCons_cons, unEnd_nil, unOut_cons, unSet_set, unDel_del, unKeep_keep, unPtr_ptr, unSl_sl, ax_t, ax_i, ax_1, br_t, br_f]
  refine (askK_of (t0 _) _).trans ?_
  simp only [unInt_iv, unBool_bv, unStr_sv, unLs_ls, unAgg_agg, unTup_tup, cInt_iv, cBool_bv, cStr_sv, cLs_ls, unNil_nil, unCons_cons, unEnd_nil, unOut_cons, unSet_set, unDel_del, unKeep_keep, unPtr_ptr, unSl_sl, ax_t, ax_i, ax_1, br_t, br_f]
  refine (askK_of (t0 _) _).trans ?_
  simp only [unInt_iv, unBool_bv, unStr_sv, unLs_ls, unAgg_agg, unTup_tup, cInt_iv, cBool_bv, cStr_sv, cLs_ls, unNil_nil, unCons_cons, unEnd_nil, unOut_cons, unSet_set, unDel_del, unKeep_keep, unPtr_ptr, unSl_sl, ax_t, ax_i, ax_1, br_t, br_f]
  refine (askK_of (t0 _) _).trans ?_
  simp only [unInt_iv, unBool_bv, unStr_sv, unLs_ls, unAgg_agg, unTup_tup, cInt_iv, cBool_bv, cStr_sv, cLs_ls, unNil_nil, unCons_cons, unEnd_nil, unOut_cons, unSet_set, unDel_del, unKeep_keep, unPtr_ptr, unSl_sl, ax_t, ax_i, ax_1, br_t, br_f]
  refine (askK_of (t0 _) _).trans ?_
  simp only [unInt_iv, unBool_bv, unStr_sv, unLs_ls, unAgg_agg, unTup_tup, cInt_iv, cBool_bv, cStr_sv, cLs_ls, unNil_nil, unCons_cons, unEnd_nil, unOut_cons, unSet_set, unDel_del, unKeep_keep, unPtr_ptr, unSl_sl, ax_t, ax_i, ax_1, br_t, br_f]
  refine (askK_of (t0 _) _).trans ?_
  simp only [unInt_iv, unBool_bv, unStr_sv, unLs_ls, unAgg_agg, unTup_tup, cInt_iv, cBool_bv, cStr_sv, cLs_ls, unNil_nil, unCons_cons, unEnd_nil, unOut_cons, unSet_set, unDel_del, unKeep_keep, unPtr_ptr, unSl_sl, ax_t, ax_i, ax_1, br_t, br_f]
  refine (askK_of (rcompare_end H he hi vars kn hv hnum K L) _).trans ?_
  rfl
theorem rboth_end (K : Knows ownC tabRa D) (L : RNameF D) : D.ask (.fn 32) [cuA ts vars kn i, iv (d : Int)] [] = some (.tup [cuA ts vars kn i, .agg (eTr T0), iv 101], []) := by
  refine K.fn' hn32 _ rfl ((e32 ..).trans ?_)
  refine (askK_of (rone_end H he hi vars kn hv d hnum K L) _).trans ?_
  simp only [eTr, eTrs, T0, List.map_nil, cuA, unInt_iv, unBool_bv, unStr_sv, unLs_ls, unAgg_agg, unTup_tup, cInt_iv, cBool_bv, cStr_sv, cLs_ls, unNil_nil, unCons_cons, unEnd_nil, unOut_cons, unSet_set, unDel_del, unKeep_keep, unPtr_ptr, unSl_sl, ax_t, ax_i, ax_1, br_t, br_f]
  refine (askK_of (rrow_erra K ts vars kn i d 101 T0 (by simp)) _).trans ?_
  rfl
theorem rcond_end (K : Knows ownC tabRa D) (L : RNameF D) : D.ask (.fn 10) [cuA ts vars kn i, iv (d : Int)] [] = some (.tup [cuA ts vars kn i, .agg (eTr T0), iv 101], []) := by
  refine K.fn' hn10 _ rfl ((e10 ..).trans ?_)
  refine (askK_of (rboth_end H he hi vars kn hv d hnum K L) _).trans ?_
  simp only [eTr, eTrs, T0, List.map_nil, cuA, unInt_iv, unBool_bv, unStr_sv, unLs_ls, unAgg_agg, unTup_tup, cInt_iv, cBool_bv, cStr_sv, cLs_ls, unNil_nil, unCons_cons, unEnd_nil, unOut_cons, unSet_set, unDel_del, unKeep_keep, unPtr_ptr, unSl_sl, ax_t, ax_i, ax_1, br_t, br_f]
  refine (askK_of (rrow_errb K ts vars kn i d 101 T0 (by simp)) _).trans ?_
  rfl
end
section
variable {D : Orc} {ts : List Tk} (H : Toks ts) (i : Nat) (hi : i + 300 < 4611686018427387904) (vars : List ByteArray) (kn : Bool) (hv : vars.length < 4611686018427387904)
include H hi hv
theorem condAt_ok (K : Knows ownC tabEa D) (Kb : Knows ownC tabEb D) (L : NameF D) : D.ask (.fn 9) [.ptr 0 0] [cuB ts vars kn i] = some (.tup [.agg (eTr (condP ts vars kn i).2.2), iv ((condP ts vars kn i).2.1 : Int)], [.set (cuB ts vars kn (condP ts vars kn i).1)]) := by
  refine Kb.fn' hn9 _ rfl ((e9 ..).trans ?_)
  unfold condP
  by_cases h : i ≤ ts.length
  · have g := jb_ok K Kb L H vars kn hv (4 * ts.length + 3) .cond i 0 h (by omega) (by simp only [needJ]; omega)
    rw [if_pos h]
    refine (askK_of g _).trans ?_
    rcases jbP ts vars kn (4 * ts.length + 3) .cond i 0 with ⟨j2, e2, ⟨k, l, r, o, p, v, ks⟩⟩
    rfl
  · rw [if_neg h]
    refine (askK_of (cond_end H (by omega) hi vars kn hv 0 K Kb L) _).trans ?_
    rfl
theorem rcondAt_ok (hnum : ∀ i, (nx ts i).kind = 3 → (nx ts i).text ≠ []) (K : Knows ownC tabRa D) (L : RNameF D) : D.ask (.fn 10) [cuA ts vars kn i, iv 0] [] = some (.tup [cuA ts vars kn (condP ts vars kn i).1, .agg (eTr (condP ts vars kn i).2.2), iv ((condP ts vars kn i).2.1 : Int)], []) := by
  unfold condP
  by_cases h : i ≤ ts.length
  · have g := rjb_ok K L H hnum vars kn hv (4 * ts.length + 3) .cond i 0 h (by omega) (by simp only [needJ]; omega)
    rw [if_pos h]
    exact g
  · rw [if_neg h]
    exact rcond_end H (by omega) hi vars kn hv 0 hnum K L
end
end Go.Proofs.Ytlmhajfbpplpoaa
namespace Go.Proofs.Ytlmhajfbpplpoaa
open Go.RowKit

section
variable {D : Orc}
theorem r_lit (b : Bool) (s v : ByteArray) : realA.not (realA.band (realA.beq b b) (realA.band (realA.seq s s) (realA.band (realA.seq v v) true))) = false := by
  rw [r_beq, r_seq, r_seq, decide_eq_true rfl, decide_eq_true rfl]
  cases b <;> rfl
theorem samesum_lp (K : Knows ownC tabRa D) (l : List Mo) (hl : l.length < 4611686018427387904) : ∀ (k i : Nat), l.length - i = k → D.ask (.lp 11 0) [.ls (l.map eMo), .ls (l.map eMo), iv (i : Int)] [] = some (.tup [iv 0], []) := by
  intro k
  induction k with
  | zero =>
    intro i hi
    refine K.lp' hn11 _ rfl (by kernel_rfl) ((e11_0 ..).trans ?_)
    rw [lenR_map]
    refine (br_ltF (by omega)).trans ?_
    rfl
  | succ k ih =>
    intro i hi
    have hlt : i < l.length := by omega
    refine K.lp' hn11 _ rfl (by kernel_rfl) ((e11_0 ..).trans ?_)
    rw [lenR_map]
    refine (br_ltT (by omega)).trans ?_
    simp only [unI_n, nthK_map, List.getElem?_eq_getElem hlt, eMo, unInt_iv, unBool_bv, unStr_sv, unLs_ls, unAgg_agg, unTup_tup, cInt_iv, cBool_bv, cStr_sv, cLs_ls, unNil_nil, unCons_cons, unEnd_nil, unOut_cons, unSet_set, unDel_del, unKeep_keep, unPtr_ptr, unSl_sl, ax_t, ax_i, ax_1, br_t, br_f, r_lit, add1 (show i < 4611686018427387904 by omega)]
    refine (askK_of (ih (i + 1) (by omega)) _).trans ?_
    rfl
theorem samesum_ok (K : Knows ownC tabRa D) (l : List Mo) (hl : l.length < 4611686018427387904) : D.ask (.fn 11) [.ls (l.map eMo), .ls (l.map eMo)] [] = some (bv true, []) := by
  refine K.fn' hn11 _ rfl ((e11 ..).trans ?_)
  refine (br_eqT rfl).trans ?_
  refine (askK_of (samesum_lp K l hl _ 0 rfl) _).trans ?_
  rfl
/-- A tree whose rows are not too long. -/
inductive WfT : Tr → Prop where
  | mk {k : Int} {l r : List Mo} {op : Int} {p q : ByteArray} {ks : List Tr} (hl : l.length < 4611686018427387904) (hr : r.length < 4611686018427387904) (hk : ks.length < 4611686018427387904) (h : ∀ x ∈ ks, WfT x) : WfT (.mk k l r op p q ks)
theorem same_ok (K : Knows ownC tabRa D) : ∀ (n : Nat) (t : Tr), SizeOf.sizeOf t < n → WfT t → D.ask (.fn 12) [.agg (eTr t), .agg (eTr t)] [] = some (bv true, []) := by
  intro n
  induction n with
  | zero => intro t h; omega
  | succ n ih =>
    intro t hn hw
    obtain ⟨hl, hr, hk, hw⟩ := hw
    rename_i k l r op p q ks
    have lp : ∀ (m i : Nat), ks.length - i = m → D.ask (.lp 12 0) [.ptr 0 0, .ptr 1 0, iv (i : Int)] [trB (.mk k l r op p q ks), trB (.mk k l r op p q ks)] = some (.tup [iv 0], [.del, .del]) := by
      intro m
      induction m with
      | zero =>
        intro i hi
        refine K.lp' hn12 _ rfl (by kernel_rfl) ((e12_0 ..).trans ?_)
        rw [eTrs_map, lenR_map]
        refine (br_ltF (by omega)).trans ?_
        rfl
      | succ m ihm =>
        intro i hi
        have hlt : i < ks.length := by omega
        have g : D.ask (.fn 12) [.agg (eTr ks[i]), .agg (eTr ks[i])] [] = some (bv true, []) := by
          refine ih _ ?_ (hw _ (List.getElem_mem hlt))
          have := List.sizeOf_lt_of_mem (List.getElem_mem hlt)
          simp only [Tr.mk.sizeOf_spec] at hn
          omega
        have g2 := ihm (i + 1) (by omega)
        refine K.lp' hn12 _ rfl (by kernel_rfl) ((e12_0 ..).trans ?_)
        rw [eTrs_map, lenR_map]
        refine (br_ltT (by omega)).trans ?_
        simp only [unI_n, nthK_map, List.getElem?_eq_getElem hlt]
        revert g
        rcases ks[i] with ⟨k', l', r', o', p', q', ks'⟩
        intro g
        simp only [eTr, unInt_iv, unBool_bv, unStr_sv, unLs_ls, unAgg_agg, unTup_tup, cInt_iv, cBool_bv, cStr_sv, cLs_ls, unNil_nil, unCons_cons, unEnd_nil, unOut_cons, unSet_set, unDel_del, unKeep_keep, unPtr_ptr, unSl_sl, ax_t, ax_i, ax_1, br_t, br_f, add1 (show i < 4611686018427387904 by omega)]
        refine (askK_of g _).trans ?_
        simp only [unInt_iv, unBool_bv, unStr_sv, unLs_ls, unAgg_agg, unTup_tup, cInt_iv, cBool_bv, cStr_sv, cLs_ls, unNil_nil, unCons_cons, unEnd_nil, unOut_cons, unSet_set, unDel_del, unKeep_keep, unPtr_ptr, unSl_sl, ax_t, ax_i, ax_1, br_t, br_f, ← eTrs_map]
        refine (askK_of g2 _).trans ?_
        rfl
    refine K.fn' hn12 _ rfl ((e12 ..).trans ?_)
    refine (br_eqT rfl).trans ?_
    refine (br_eqT rfl).trans ?_
    refine (br_seqT rfl).trans ?_
    refine (br_seqT rfl).trans ?_
    refine (askK_of (samesum_ok K l hl) _).trans ?_
    simp only [unInt_iv, unBool_bv, unStr_sv, unLs_ls, unAgg_agg, unTup_tup, cInt_iv, cBool_bv, cStr_sv, cLs_ls, unNil_nil, unCons_cons, unEnd_nil, unOut_cons, unSet_set, unDel_del, unKeep_keep, unPtr_ptr, unSl_sl, ax_t, ax_i, ax_1, br_t, br_f]
    refine (askK_of (samesum_ok K r hr) _).trans ?_
    simp only [unInt_iv, unBool_bv, unStr_sv, unLs_ls, unAgg_agg, unTup_tup, cInt_iv, cBool_bv, cStr_sv, cLs_ls, unNil_nil, unCons_cons, unEnd_nil, unOut_cons, unSet_set, unDel_del, unKeep_keep, unPtr_ptr, unSl_sl, ax_t, ax_i, ax_1, br_t, br_f]
    refine (br_eqT rfl).trans ?_
    refine (askK_of (lp _ 0 rfl) _).trans ?_
    rfl
end
section
variable (ts : List Tk) (vars : List ByteArray) (kn : Bool)
theorem sumL_len : ∀ (k : Nat) (out : List Mo) (neg : Bool) (i : Nat), out.length + k = 64 → (sumL ts vars kn k out neg i).2.2.length ≤ 64 := by
  intro k
  induction k with
  | zero =>
    intro out neg i h
    unfold sumL
    split <;> simp
  | succ k ih =>
    intro out neg i h
    unfold sumL
    dsimp only
    split
    · simp
    · split
      · simp
      · split
        · exact ih _ _ _ (by simp; omega)
        · split
          · exact ih _ _ _ (by simp; omega)
          · simp; omega
theorem sumP_len (i : Nat) : (sumP ts vars kn i).2.2.length ≤ 64 := by
  unfold sumP
  split
  · exact sumL_len ts vars kn 64 [] true (i + 1) rfl
  · exact sumL_len ts vars kn 64 [] false i rfl
theorem T0_wf : WfT T0 := .mk (by decide) (by decide) (by decide) (by simp)
theorem leaf_wf (k : Int) : WfT (.mk k [] [] 0 (bstr []) (bstr []) []) := .mk (by decide) (by decide) (by decide) (by simp)
theorem kid_wf {k : Int} {x : Tr} (h : WfT x) : WfT (.mk k [] [] 0 (bstr []) (bstr []) [x]) := .mk (by decide) (by decide) (by simp) (by simpa using h)
theorem kids_wf {k : Int} {x y : Tr} (h : WfT x) (h2 : WfT y) : WfT (.mk k [] [] 0 (bstr []) (bstr []) [x, y]) := .mk (by decide) (by decide) (by simp) (by simpa using ⟨h, h2⟩)
theorem cmpP_wf (i : Nat) : WfT (cmpP ts vars kn i).2.2 := by
  unfold cmpP
  split
  · exact T0_wf
  · split
    · exact T0_wf
    · split
      · exact T0_wf
      · exact .mk (by have := sumP_len ts vars kn i; omega) (by have := sumP_len ts vars kn ((sumP ts vars kn i).1 + 1); omega) (by decide) (by simp)
def wfJ : Jb → Prop
  | .bothL x => WfT x
  | .condL x => WfT x
  | _ => True
theorem jbP_wf : ∀ (n : Nat) (j : Jb) (i d : Nat), wfJ j → WfT (jbP ts vars kn n j i d).2.2 := by
  intro n
  induction n with
  | zero => intro j i d _; exact T0_wf
  | succ n ih =>
    intro j i d hj
    cases j with
    | one =>
      unfold jbP
      split
      · exact T0_wf
      · split
        · exact leaf_wf 0
        · split
          · exact leaf_wf 1
          · split
            · unfold thenT failT
              split
              · exact kid_wf (ih .one _ _ trivial)
              · exact T0_wf
            · split
              · unfold thenT failT
                split
                · dsimp only
                  split
                  · exact ih .cond _ _ trivial
                  · exact T0_wf
                · exact T0_wf
              · exact cmpP_wf ts vars kn i
    | both =>
      unfold jbP thenT failT
      split
      · exact ih (.bothL _) _ _ (ih .one _ _ trivial)
      · exact T0_wf
    | cond =>
      unfold jbP thenT failT
      split
      · exact ih (.condL _) _ _ (ih .both _ _ trivial)
      · exact T0_wf
    | bothL x =>
      unfold jbP thenT failT
      dsimp only
      split
      · split
        · exact ih (.bothL _) _ _ (kids_wf hj (ih .one _ _ trivial))
        · exact T0_wf
      · exact hj
    | condL x =>
      unfold jbP thenT failT
      dsimp only
      split
      · split
        · exact ih (.condL _) _ _ (kids_wf hj (ih .both _ _ trivial))
        · exact T0_wf
      · exact hj
theorem condP_wf (i : Nat) : WfT (condP ts vars kn i).2.2 := by
  unfold condP
  split
  · exact jbP_wf ts vars kn _ .cond _ _ trivial
  · exact T0_wf
end
end Go.Proofs.Ytlmhajfbpplpoaa
namespace Go.Proofs.Ytlmhajfbpplpoaa
open Go.RowKit

/-- The error's place and number behind what was taken of a whole text. -/
def endP (ts : List Tk) (i e : Nat) : Nat × Nat × Nat := if e = 0 then (if (nx ts i).kind = 5 then (0, 0, 0) else ((nx ts i).ln, (nx ts i).co, 101)) else ((nx ts i).ln, (nx ts i).co, e)
/-- A tree, if nothing was wrong. -/
def ifOk (e : Nat) (x : Tr) : Tr := if e = 0 then x else T0
def wholeA (x : Tr) (q : Nat × Nat × Nat) : AV := .tup [.agg (eTr (ifOk q.2.2 x)), .agg [iv (q.1 : Int), iv (q.2.1 : Int)], iv (q.2.2 : Int)]
section
variable {D : Orc}
theorem end_ok (K : Knows ownC tabRa D) (ts : List Tk) (vars : List ByteArray) (kn : Bool) (i e : Nat) (hts : ts.length < 4611686018427387904) : D.ask (.fn 14) [cuA ts vars kn i, iv (e : Int)] [] = some (.tup [.agg [iv ((endP ts i e).1 : Int), iv ((endP ts i e).2.1 : Int)], iv ((endP ts i e).2.2 : Int)], []) := by
  refine K.fn' hn14 _ rfl ((e14 ..).trans ?_)
  unfold endP
  by_cases h0 : e = 0
  · refine (br_eqT (by omega)).trans ?_
    refine (askK_of (next_ok K ts vars kn i hts) _).trans ?_
    rw [if_pos h0]
    simp only [eTk, unInt_iv, unBool_bv, unStr_sv, unLs_ls, unAgg_agg, unTup_tup, cInt_iv, cBool_bv, cStr_sv, cLs_ls, unNil_nil, unCons_cons, unEnd_nil, unOut_cons, unSet_set, unDel_del, unKeep_keep, unPtr_ptr, unSl_sl, ax_t, ax_i, ax_1, br_t, br_f]
    by_cases h5 : (nx ts i).kind = 5
    · refine (br_eqT (by omega)).trans ?_
      refine (br_eqT (by omega)).trans ?_
      rw [if_pos h5]
      rfl
    · refine (br_eqF (by omega)).trans ?_
      refine (br_eqF (by omega)).trans ?_
      refine (askK_of (next_ok K ts vars kn i hts) _).trans ?_
      rw [if_neg h5]
      simp only [eTk, unInt_iv, unBool_bv, unStr_sv, unLs_ls, unAgg_agg, unTup_tup, cInt_iv, cBool_bv, cStr_sv, cLs_ls, unNil_nil, unCons_cons, unEnd_nil, unOut_cons, unSet_set, unDel_del, unKeep_keep, unPtr_ptr, unSl_sl, ax_t, ax_i, ax_1, br_t, br_f]
      rfl
  · refine (br_eqF (by omega)).trans ?_
    refine (br_eqF (by omega)).trans ?_
    refine (askK_of (next_ok K ts vars kn i hts) _).trans ?_
    rw [if_neg h0]
    simp only [eTk, unInt_iv, unBool_bv, unStr_sv, unLs_ls, unAgg_agg, unTup_tup, cInt_iv, cBool_bv, cStr_sv, cLs_ls, unNil_nil, unCons_cons, unEnd_nil, unOut_cons, unSet_set, unDel_del, unKeep_keep, unPtr_ptr, unSl_sl, ax_t, ax_i, ax_1, br_t, br_f]
theorem whole_err (Kw : Knows ownC tabWa D) (s : ByteArray) (vars : List ByteArray) (kn : Bool) (x : List (List AV)) (ln co e : Nat) (he : e ≠ 0) (hall : D.ask (.fn 5) [sv s] [] = some (.tup [.ls x, .agg [iv (ln : Int), iv (co : Int)], iv (e : Int)], [])) : D.ask (.fn 13) [sv s, .ls (vars.map eS), bv kn, .fn (.func 9) [] []] [] = some (wholeA T0 (ln, co, e), []) := by
  refine Kw.fn' hn13 _ rfl ((e13 ..).trans ?_)
  refine (askK_of hall _).trans ?_
  simp only [unInt_iv, unBool_bv, unStr_sv, unLs_ls, unAgg_agg, unTup_tup, cInt_iv, cBool_bv, cStr_sv, cLs_ls, unNil_nil, unCons_cons, unEnd_nil, unOut_cons, unSet_set, unDel_del, unKeep_keep, unPtr_ptr, unSl_sl, ax_t, ax_i, ax_1, br_t, br_f]
  refine (br_eqF (by omega)).trans ?_
  unfold wholeA ifOk
  rw [if_neg he]
  rfl
theorem whole_ok (K : Knows ownC tabEa D) (Kb : Knows ownC tabEb D) (L : NameF D) (Kw : Knows ownC tabWa D) (s : ByteArray) {ts : List Tk} (H : Toks ts) (vars : List ByteArray) (kn : Bool) (hv : vars.length < 4611686018427387904) (hall : D.ask (.fn 5) [sv s] [] = some (.tup [.ls (ts.map eTk), .agg [iv 0, iv 0], iv 0], [])) : D.ask (.fn 13) [sv s, .ls (vars.map eS), bv kn, .fn (.func 9) [] []] [] = some (wholeA (condP ts vars kn 0).2.2 (endP ts (condP ts vars kn 0).1 (condP ts vars kn 0).2.1), []) := by
  have hl := H.len
  have g := condAt_ok H 0 (by omega) vars kn hv K Kb L
  have hf : (condP ts vars kn 0).1 ≤ ts.length := by
    unfold condP
    rw [if_pos (by omega)]
    have f : Far ts 0 _ _ := jbP_far H vars kn (4 * ts.length + 3) .cond 0 0 (by omega)
    exact f.le
  refine Kw.fn' hn13 _ rfl ((e13 ..).trans ?_)
  refine (askK_of hall _).trans ?_
  simp only [unInt_iv, unBool_bv, unStr_sv, unLs_ls, unAgg_agg, unTup_tup, cInt_iv, cBool_bv, cStr_sv, cLs_ls, unNil_nil, unCons_cons, unEnd_nil, unOut_cons, unSet_set, unDel_del, unKeep_keep, unPtr_ptr, unSl_sl, ax_t, ax_i, ax_1, br_t, br_f]
  refine (br_eqT rfl).trans ?_
  refine (askK_of g _).trans ?_
  revert hf
  rcases condP ts vars kn 0 with ⟨j, e, ⟨k, l, r, o, p, q, ks⟩⟩
  intro hf
  have hj : j ≤ ts.length := hf
  have ha := at_ok K ts vars kn j (by omega) (by omega)
  simp only [eTr, cuB, unInt_iv, unBool_bv, unStr_sv, unLs_ls, unAgg_agg, unTup_tup, cInt_iv, cBool_bv, cStr_sv, cLs_ls, unNil_nil, unCons_cons, unEnd_nil, unOut_cons, unSet_set, unDel_del, unKeep_keep, unPtr_ptr, unSl_sl, ax_t, ax_i, ax_1, br_t, br_f]
  unfold wholeA endP ifOk
  by_cases h0 : e = 0
  · refine (br_eqT (by omega)).trans ?_
    refine (askK_of ha _).trans ?_
    simp only [eTk, cuB, unInt_iv, unBool_bv, unStr_sv, unLs_ls, unAgg_agg, unTup_tup, cInt_iv, cBool_bv, cStr_sv, cLs_ls, unNil_nil, unCons_cons, unEnd_nil, unOut_cons, unSet_set, unDel_del, unKeep_keep, unPtr_ptr, unSl_sl, ax_t, ax_i, ax_1, br_t, br_f]
    by_cases h5 : (nx ts j).kind = 5
    · refine (br_eqT (by omega)).trans ?_
      refine (br_eqT (by omega)).trans ?_
      simp only [h0, h5, if_true]
      rfl
    · refine (br_eqF (by omega)).trans ?_
      refine (br_eqF (by omega)).trans ?_
      refine (askK_of ha _).trans ?_
      simp only [eTk, cuB, unInt_iv, unBool_bv, unStr_sv, unLs_ls, unAgg_agg, unTup_tup, cInt_iv, cBool_bv, cStr_sv, cLs_ls, unNil_nil, unCons_cons, unEnd_nil, unOut_cons, unSet_set, unDel_del, unKeep_keep, unPtr_ptr, unSl_sl, ax_t, ax_i, ax_1, br_t, br_f, h0, h5, if_true, if_false]
      rfl
  · refine (br_eqF (by omega)).trans ?_
    first | refine (br_eqF (by omega)).trans ?_ | skip
    refine (askK_of ha _).trans ?_
    simp only [eTk, cuB, unInt_iv, unBool_bv, unStr_sv, unLs_ls, unAgg_agg, unTup_tup, cInt_iv, cBool_bv, cStr_sv, cLs_ls, unNil_nil, unCons_cons, unEnd_nil, unOut_cons, unSet_set, unDel_del, unKeep_keep, unPtr_ptr, unSl_sl, ax_t, ax_i, ax_1, br_t, br_f, h0, if_false]
    rfl
end
end Go.Proofs.Ytlmhajfbpplpoaa
namespace Go.Proofs.Ytlmhajfbpplpoaa
open Go.RowKit

section
variable {μ : Mu} {F : Prot} {w w' : World}
theorem below_step (F : Prot) (h : Below w.heap.size w w') : WStep F w w' :=
  ⟨h.os, h.tape, h.output, h.size, fun g o ho => ⟨o, by
    have hg : g < w.heap.size := by
      by_cases hg : g < w.heap.size
      · exact hg
      · rw [Array.getElem?_eq_none (by omega)] at ho; cases ho
    exact (h.block g hg).trans ho, ObjStep.refl _ o⟩⟩
/-- What was protected, and all that is new. -/
def newF (F : Prot) (w w' : World) : Prot := fun g o => F g o ∨ (w.heap.size ≤ g ∧ g < w'.heap.size)
theorem later_below {H : Nat → Option ABlk} (hH : HRep μ F w H) (h : Below w.heap.size w w') : Later μ μ F (newF F w w') w w' :=
  ⟨fun _ _ h => h, fun g o hg => ⟨.inl hg, (below_step F h).cell hg (hH.prot g o hg)⟩⟩
theorem hrep_below {H : Nat → Option ABlk} (hH : HRep μ F w H) (h : Below w.heap.size w w') : HRep μ (newF F w w') w' H := by
  have hl := later_below hH h
  have same : ∀ g o, g < w.heap.size → w'.cell? ⟨g, o, none⟩ = w.cell? ⟨g, o, none⟩ := fun g o hg => h.cell (p := ⟨g, o, none⟩) hg
  have st := below_step (fun _ _ => False) h
  refine ⟨fun b k hb => ?_, hH.apart, fun g o hg => ?_⟩
  · obtain ⟨p, hp, B⟩ := hH.blk b k hb
    refine ⟨p, hp, ?_, B.room, ?_, fun h0 i hi => .inl (B.kept h0 i hi), ?_, B.pure⟩
    · intro i x hx
      obtain ⟨u, h1, h2⟩ := B.cell i x hx
      exact ⟨u, (same _ _ (heap_lt h1)).trans h1, h2.later hl⟩
    · intro i hi
      obtain ⟨⟨u, h1⟩, h2⟩ := B.there i hi
      exact ⟨⟨u, (same _ _ (heap_lt h1)).trans h1⟩, (st.frozen (heap_lt h1)).trans h2⟩
    · rintro i hi (hf | ⟨hf, _⟩)
      · exact B.free i hi hf
      · have hr : i < p.room := by
          rcases hi with ⟨h1, _⟩ | ⟨_, h1, _⟩
          · exact Nat.lt_of_lt_of_le h1 B.room
          · exact h1
        obtain ⟨⟨u, h1⟩, _⟩ := B.there i hr
        have := heap_lt h1
        omega
  · rcases hg with hg | hg
    · exact Nat.lt_of_lt_of_le (hH.prot g o hg) h.size
    · exact hg.2
end
/-- A function without blocks of its caller that hands back what is new: its answers are good. -/
theorem goodD_of {S : SemT} (hm : MonoS S) (res : List AV → Option AV)
    (h : ∀ args r, res args = some r → ∀ (μ : Mu) (F : Prot) (w : World) (us : List Value), RepList μ F w args us → S us w fun u w' => Below w.heap.size w w' ∧ Rep μ (newF F w w') w' r u) :
    GoodD S fun args bs => match bs with
      | [] => (res args).map fun r => (r, [])
      | _ => none := by
  intro args bs r out hd
  cases bs with
  | cons => cases hd
  | nil =>
    obtain ⟨r', hr, he⟩ := Option.map_eq_some_iff.1 hd
    obtain ⟨rfl, rfl⟩ : r' = r ∧ [] = out := by simpa using he
    refine ⟨Nat.le_refl _, 0, Nat.le_refl _, fun t _ μ F w KL us hKL hus hH hμ => ?_⟩
    refine hm _ _ _ _ (h args r' hr μ F w us hus) fun u w' ⟨hb, hu⟩ => ?_
    refine ⟨μ, newF F w w', hu, ?_, later_below hH hb, below_step F hb, fun _ _ => rfl⟩
    have := hrep_below hH hb
    have e : (fun b => if b < t then ([] : List ABlk)[b]? else look b KL) = fun b => if b < t then outAt [] [] b else look b KL := by
      funext b
      by_cases hbt : b < t
      · rw [if_pos hbt, if_pos hbt]
        rfl
      · rw [if_neg hbt, if_neg hbt]
    rw [← e]
    exact this
/-- One string alone is asked. -/
theorem rep_str {μ : Mu} {F : Prot} {w : World} {s : ByteArray} {us : List Value} (h : RepList μ F w [sv s] us) : us = [.string s] := by
  obtain ⟨u, t, rfl, hu, ht⟩ := h
  have hu : u = _ ∧ _ := hu
  have ht : t = [] := ht
  rw [hu.1, ht]
end Go.Proofs.Ytlmhajfbpplpoaa
namespace Go.Proofs.Ytlmhajfbpplpoaa
open Go.RowKit

/-- A token's cells in the world. -/
def tkV (t : Tk) : List Value := [.int .i64 t.kind, .string ⟨t.text.toArray⟩, .int .i64 t.ln, .int .i64 t.co]
theorem noid_tks (ts : List Tk) : noidR (ts.map eTk) = true := by
  unfold noidR
  rw [List.all_map]
  refine List.all_eq_true.2 fun t _ => ?_
  rfl
theorem rep_iv {μ : Mu} {F : Prot} {w : World} (n : Int) : Rep μ F w (iv n) (.int .i64 n) := by
  unfold iv Rep
  exact ⟨rfl, rfl⟩
theorem rep_sv {μ : Mu} {F : Prot} {w : World} (s : ByteArray) : Rep μ F w (sv s) (.string s) := by
  unfold sv Rep
  exact ⟨rfl, rfl⟩
theorem rep_bv {μ : Mu} {F : Prot} {w : World} (b : Bool) : Rep μ F w (bv b) (.bool b) := by
  unfold bv Rep
  exact ⟨rfl, rfl⟩
theorem rows_tks {μ : Mu} {F : Prot} {w : World} {g : Nat} (hF : ∀ o, F g o) : ∀ (ts : List Tk) (o : Nat), (∀ j, j < ts.length * 4 → w.cell? ⟨g, o + j, none⟩ = ((ts.map tkV).flatten)[j]?) → RepRows μ F w g 4 (ts.map eTk) o
  | [], o, _ => by
    simp only [List.map_nil, RepRows]
  | t :: r, o, h => by
    have hc : ∀ j, j < 4 → w.cell? ⟨g, o + j, none⟩ = (tkV t)[j]? := fun j hj => by
      rw [h j (by simp; omega), List.map_cons, List.flatten_cons, List.getElem?_append_left (by simp [tkV]; omega)]
    have hr := rows_tks (μ := μ) hF r (o + 4) (fun j hj => by
      have := h (4 + j) (by simp; omega)
      rw [List.map_cons, List.flatten_cons, List.getElem?_append_right (by simp [tkV])] at this
      rw [Nat.add_assoc, this]
      congr 1
      simp [tkV])
    simp only [List.map_cons, RepRows]
    refine ⟨rfl, ?_, hr⟩
    simp only [eTk, RepAt]
    exact ⟨⟨hF _, _, (hc 0 (by omega)).trans rfl, rep_iv _⟩, ⟨hF _, _, (hc 1 (by omega)).trans rfl, rep_sv _⟩, ⟨hF _, _, (hc 2 (by omega)).trans rfl, rep_iv _⟩, ⟨hF _, _, (hc 3 (by omega)).trans rfl, rep_iv _⟩, trivial⟩
theorem rep_tks {μ : Mu} {F : Prot} {w w' : World} {e : TypeId} {v : Value} {ts : List Tk} (ho : w'.ownsRow w.heap.size e 4 v ts.length ((ts.map tkV).flatten)) : Rep μ (newF F w w') w' (.ls (ts.map eTk)) v := by
  have h2 := ho.2
  unfold Rep
  refine ⟨noid_tks ts, ?_⟩
  rw [List.length_map]
  rcases h2 with ⟨rfl, h0⟩ | ⟨g, cap, cur, rfl, hb, hg, hn, hc, _⟩
  · have : ts = [] := List.length_eq_zero_iff.1 h0
    subst this
    exact ⟨none, 0, rfl, Nat.le_refl _, Nat.zero_le _, fun h => absurd rfl h⟩
  · have hlt : g < w'.heap.size := by
      by_cases h : g < w'.heap.size
      · exact h
      · rw [Array.getElem?_eq_none (by omega)] at hg; cases hg
    refine ⟨some ⟨g, 0, none⟩, cap, rfl, hn, hc, fun _ => ⟨g, 0, 4, rfl, ?_⟩⟩
    exact rows_tks (fun o => .inr ⟨hb, hlt⟩) ts 0 (fun j hj => by rw [Nat.zero_add]; exact ho.cellAt j hj)
end Go.Proofs.Ytlmhajfbpplpoaa
namespace Go.Proofs.Ytlmhajfbpplpoaa
open Go.RowKit

/-- What is known of the lexer at a text: its tokens (none after an error), the error's place and number. -/
structure AllF (D : Orc) (s : ByteArray) (ts : List Tk) (ln co e : Nat) : Prop where
  all : D.ask (.fn 5) [sv s] [] = some (.tup [.ls (ts.map eTk), .agg [iv (ln : Int), iv (co : Int)], iv (e : Int)], [])
  rall : D.ask (.fn 6) [sv s] [] = some (.tup [.ls (ts.map eTk), .agg [iv (ln : Int), iv (co : Int)], iv (e : Int)], [])
  zero : e = 0 → ln = 0 ∧ co = 0
theorem not_same (a b : Int) : realA.not (realA.band (realA.eq a a) (realA.band (realA.eq b b) true)) = false := by
  rw [r_eq, r_eq, decide_eq_true rfl, decide_eq_true rfl]
  rfl
theorem eS_len (vars : List ByteArray) : lenR (vars.map eS) = vars.length := lenR_map _ _
theorem condP_le {ts : List Tk} (H : Toks ts) (vars : List ByteArray) (kn : Bool) (i : Nat) : (condP ts vars kn i).1 ≤ ts.length + i := by
  unfold condP
  by_cases h : i ≤ ts.length
  · rw [if_pos h]
    have f : Far ts i _ _ := jbP_far H vars kn (4 * ts.length + 3) .cond i 0 h
    have := f.le
    omega
  · rw [if_neg h]
    simp only
    omega
section
variable {D : Orc}
set_option maxRecDepth 100000 in
theorem law_ok (K : Knows ownC tabEa D) (Kb : Knows ownC tabEb D) (L : NameF D) (Kr : Knows ownC tabRa D) (R : RNameF D) (Kw : Knows ownC tabWa D) (Kl : Knows ownC tabLa D)
    (hw : D.ask (.fn 4) [] [] = some (bv true, []))
    (s : ByteArray) (fr : Int) (vars : List ByteArray) (kn : Bool) (ts : List Tk) (ln co e : Nat) (hF : s.size ≤ 2000 → AllF D s ts ln co e) (H : s.size ≤ 2000 → Toks ts) (hl : s.size ≤ 2000 → ts.length ≤ 1000000) (hnum : ∀ i, (nx ts i).kind = 3 → (nx ts i).text ≠ [])
    (i : Nat) (hi : realA.bits .and .i64 fr 4095 = (i : Int)) (hi2 : i ≤ 4095) :
    D.ask (.fn 3) [sv s, iv fr, .ls (vars.map eS), bv kn] [] = some (bv true, []) := by
  refine Kl.fn' hn3 _ rfl ((e3 ..).trans ?_)
  refine (askK_of hw _).trans ?_
  simp only [unInt_iv, unBool_bv, unStr_sv, unLs_ls, unAgg_agg, unTup_tup, cInt_iv, cBool_bv, cStr_sv, cLs_ls, unNil_nil, unCons_cons, unEnd_nil, unOut_cons, unSet_set, unDel_del, unKeep_keep, unPtr_ptr, unSl_sl, ax_t, ax_i, ax_1, br_t, br_f]
  rw [r_slen]
  by_cases hs : (2000 : Int) < s.size
  · exact br_ltT hs
  refine (br_ltF hs).trans ?_
  rw [eS_len]
  by_cases hv : (100 : Int) < vars.length
  · exact br_ltT hv
  refine (br_ltF hv).trans ?_
  have hs : s.size ≤ 2000 := by omega
  have hv : vars.length < 4611686018427387904 := by omega
  have F := hF hs
  have T := H hs
  have hl := hl hs
  refine (askK_of F.all _).trans ?_
  simp only [unInt_iv, unBool_bv, unStr_sv, unLs_ls, unAgg_agg, unTup_tup, cInt_iv, cBool_bv, cStr_sv, cLs_ls, unNil_nil, unCons_cons, unEnd_nil, unOut_cons, unSet_set, unDel_del, unKeep_keep, unPtr_ptr, unSl_sl, ax_t, ax_i, ax_1, br_t, br_f]
  refine (askK_of F.rall _).trans ?_
  simp only [unInt_iv, unBool_bv, unStr_sv, unLs_ls, unAgg_agg, unTup_tup, cInt_iv, cBool_bv, cStr_sv, cLs_ls, unNil_nil, unCons_cons, unEnd_nil, unOut_cons, unSet_set, unDel_del, unKeep_keep, unPtr_ptr, unSl_sl, ax_t, ax_i, ax_1, br_t, br_f]
  refine (br_eqT rfl).trans ?_
  simp only [hi]
  have hc := condP_le T vars kn i
  refine (askK_of (sum_ok K L ts vars kn (by omega) hv T.short i (by omega)) _).trans ?_
  simp only [cuB, unInt_iv, unBool_bv, unStr_sv, unLs_ls, unAgg_agg, unTup_tup, cInt_iv, cBool_bv, cStr_sv, cLs_ls, unNil_nil, unCons_cons, unEnd_nil, unOut_cons, unSet_set, unDel_del, unKeep_keep, unPtr_ptr, unSl_sl, ax_t, ax_i, ax_1, br_t, br_f]
  refine (askK_of (rsum_ok Kr R ts vars kn (by omega) hv T.short hnum i (by omega)) _).trans ?_
  simp only [cuA, unInt_iv, unBool_bv, unStr_sv, unLs_ls, unAgg_agg, unTup_tup, cInt_iv, cBool_bv, cStr_sv, cLs_ls, unNil_nil, unCons_cons, unEnd_nil, unOut_cons, unSet_set, unDel_del, unKeep_keep, unPtr_ptr, unSl_sl, ax_t, ax_i, ax_1, br_t, br_f]
  refine (askK_of (condAt_ok T i (by omega) vars kn hv K Kb L) _).trans ?_
  have wf := condP_wf ts vars kn i
  revert hc wf
  have rc := rcondAt_ok T i (by omega) vars kn hv hnum Kr R
  revert rc
  rcases condP ts vars kn i with ⟨j, e1, ⟨k, l, r, o, p, q, ks⟩⟩
  intro rc hc wf
  have hc : j ≤ ts.length + i := hc
  simp only [eTr, cuB, unInt_iv, unBool_bv, unStr_sv, unLs_ls, unAgg_agg, unTup_tup, cInt_iv, cBool_bv, cStr_sv, cLs_ls, unNil_nil, unCons_cons, unEnd_nil, unOut_cons, unSet_set, unDel_del, unKeep_keep, unPtr_ptr, unSl_sl, ax_t, ax_i, ax_1, br_t, br_f]
  refine (askK_of rc _).trans ?_
  simp only [eTr, cuA, unInt_iv, unBool_bv, unStr_sv, unLs_ls, unAgg_agg, unTup_tup, cInt_iv, cBool_bv, cStr_sv, cLs_ls, unNil_nil, unCons_cons, unEnd_nil, unOut_cons, unSet_set, unDel_del, unKeep_keep, unPtr_ptr, unSl_sl, ax_t, ax_i, ax_1, br_t, br_f]
  refine (br_eqT rfl).trans ?_
  refine (br_eqT rfl).trans ?_
  refine (askK_of (samesum_ok Kr _ (by have := sumP_len ts vars kn i; omega)) _).trans ?_
  simp only [unInt_iv, unBool_bv, unStr_sv, unLs_ls, unAgg_agg, unTup_tup, cInt_iv, cBool_bv, cStr_sv, cLs_ls, unNil_nil, unCons_cons, unEnd_nil, unOut_cons, unSet_set, unDel_del, unKeep_keep, unPtr_ptr, unSl_sl, ax_t, ax_i, ax_1, br_t, br_f]
  refine (br_eqT rfl).trans ?_
  refine (br_eqT rfl).trans ?_
  refine (askK_of (same_ok Kr _ _ (Nat.lt_succ_self _) wf) _).trans ?_
  simp only [unInt_iv, unBool_bv, unStr_sv, unLs_ls, unAgg_agg, unTup_tup, cInt_iv, cBool_bv, cStr_sv, cLs_ls, unNil_nil, unCons_cons, unEnd_nil, unOut_cons, unSet_set, unDel_del, unKeep_keep, unPtr_ptr, unSl_sl, ax_t, ax_i, ax_1, br_t, br_f]
  have rc0 := rcondAt_ok T 0 (by omega) vars kn hv hnum Kr R
  have wf0 := condP_wf ts vars kn 0
  have le0 := condP_le T vars kn 0
  by_cases he : e = 0
  · obtain ⟨h1, h2⟩ := F.zero he
    subst h1 h2 he
    have wh := whole_ok K Kb L Kw s T vars kn hv F.all
    revert rc0 wf0 le0 wh
    rcases condP ts vars kn 0 with ⟨j0, e0, t0⟩
    intro rc0 wf0 le0 wh
    have le0 : j0 ≤ ts.length + 0 := le0
    have en := end_ok Kr ts vars kn j0 e0 (by omega)
    unfold wholeA at wh
    have hio : (endP ts j0 e0).2.2 = 0 → ifOk (endP ts j0 e0).2.2 t0 = t0 := fun h => by unfold ifOk; rw [if_pos h]
    revert wh hio
    rcases ifOk (endP ts j0 e0).2.2 t0 with ⟨k2, l2, r2, o2, p2, q2, ks2⟩
    intro wh hio
    refine (askK_of wh _).trans ?_
    simp only [eTr, unInt_iv, unBool_bv, unStr_sv, unLs_ls, unAgg_agg, unTup_tup, cInt_iv, cBool_bv, cStr_sv, cLs_ls, unNil_nil, unCons_cons, unEnd_nil, unOut_cons, unSet_set, unDel_del, unKeep_keep, unPtr_ptr, unSl_sl, ax_t, ax_i, ax_1, br_t, br_f]
    refine (askK_of rc0 _).trans ?_
    obtain ⟨k3, l3, r3, o3, p3, q3, ks3⟩ := t0
    simp only [eTr, cuA, unInt_iv, unBool_bv, unStr_sv, unLs_ls, unAgg_agg, unTup_tup, cInt_iv, cBool_bv, cStr_sv, cLs_ls, unNil_nil, unCons_cons, unEnd_nil, unOut_cons, unSet_set, unDel_del, unKeep_keep, unPtr_ptr, unSl_sl, ax_t, ax_i, ax_1, br_t, br_f]
    refine (askK_of en _).trans ?_
    revert hio
    rcases endP ts j0 e0 with ⟨a, b, c⟩
    intro hio
    simp only [unInt_iv, unBool_bv, unStr_sv, unLs_ls, unAgg_agg, unTup_tup, cInt_iv, cBool_bv, cStr_sv, cLs_ls, unNil_nil, unCons_cons, unEnd_nil, unOut_cons, unSet_set, unDel_del, unKeep_keep, unPtr_ptr, unSl_sl, ax_t, ax_i, ax_1, br_t, br_f]
    refine (br_eqT rfl).trans ?_
    refine (br_eqT rfl).trans ?_
    rw [not_same]
    refine (br_f _ _).trans ?_
    by_cases hc0 : c = 0
    · refine (br_eqT (by omega)).trans ?_
      have sm := same_ok Kr _ _ (Nat.lt_succ_self _) wf0
      have hio := hio hc0
      simp only [Tr.mk.injEq] at hio
      obtain ⟨rfl, rfl, rfl, rfl, rfl, rfl, rfl⟩ := hio
      refine (askK_of sm _).trans ?_
      simp only [unInt_iv, unBool_bv, unStr_sv, unLs_ls, unAgg_agg, unTup_tup, cInt_iv, cBool_bv, cStr_sv, cLs_ls, unNil_nil, unCons_cons, unEnd_nil, unOut_cons, unSet_set, unDel_del, unKeep_keep, unPtr_ptr, unSl_sl, ax_t, ax_i, ax_1, br_t, br_f]
      refine (askK_of (next_ok Kr ts vars kn j (by omega)) _).trans ?_
      simp only [eTk, unInt_iv, unBool_bv, unStr_sv, unLs_ls, unAgg_agg, unTup_tup, cInt_iv, cBool_bv, cStr_sv, cLs_ls, unNil_nil, unCons_cons, unEnd_nil, unOut_cons, unSet_set, unDel_del, unKeep_keep, unPtr_ptr, unSl_sl, ax_t, ax_i, ax_1, br_t, br_f]
      refine (askK_of (at_ok K ts vars kn j (by omega) (by omega)) _).trans ?_
      simp only [eTk, cuB, unInt_iv, unBool_bv, unStr_sv, unLs_ls, unAgg_agg, unTup_tup, cInt_iv, cBool_bv, cStr_sv, cLs_ls, unNil_nil, unCons_cons, unEnd_nil, unOut_cons, unSet_set, unDel_del, unKeep_keep, unPtr_ptr, unSl_sl, ax_t, ax_i, ax_1, br_t, br_f]
      refine (br_seqT rfl).trans ?_
      refine (askK_of (at_ok K ts vars kn j (by omega) (by omega)) _).trans ?_
      simp only [eTk, cuB, unInt_iv, unBool_bv, unStr_sv, unLs_ls, unAgg_agg, unTup_tup, cInt_iv, cBool_bv, cStr_sv, cLs_ls, unNil_nil, unCons_cons, unEnd_nil, unOut_cons, unSet_set, unDel_del, unKeep_keep, unPtr_ptr, unSl_sl, ax_t, ax_i, ax_1, br_t, br_f]
      refine (br_eqT rfl).trans ?_
      refine (askK_of (want_ok K ts vars kn j (by omega) (by omega) _) _).trans ?_
      simp only [cuB, unInt_iv, unBool_bv, unStr_sv, unLs_ls, unAgg_agg, unTup_tup, cInt_iv, cBool_bv, cStr_sv, cLs_ls, unNil_nil, unCons_cons, unEnd_nil, unOut_cons, unSet_set, unDel_del, unKeep_keep, unPtr_ptr, unSl_sl, ax_t, ax_i, ax_1, br_t, br_f]
      have ti := tis_ok Kr ts vars kn j (by omega) (nx ts j).text
      revert ti
      cases isT ts j (nx ts j).text with
      | true =>
        intro ti
        refine (br_eqT rfl).trans ?_
        refine (askK_of ti _).trans ?_
        rfl
      | false =>
        intro ti
        refine (br_eqF (by simp)).trans ?_
        refine (askK_of ti _).trans ?_
        rfl
    · refine (br_eqF (by omega)).trans ?_
      refine (askK_of (next_ok Kr ts vars kn j (by omega)) _).trans ?_
      simp only [eTk, unInt_iv, unBool_bv, unStr_sv, unLs_ls, unAgg_agg, unTup_tup, cInt_iv, cBool_bv, cStr_sv, cLs_ls, unNil_nil, unCons_cons, unEnd_nil, unOut_cons, unSet_set, unDel_del, unKeep_keep, unPtr_ptr, unSl_sl, ax_t, ax_i, ax_1, br_t, br_f]
      refine (askK_of (at_ok K ts vars kn j (by omega) (by omega)) _).trans ?_
      simp only [eTk, cuB, unInt_iv, unBool_bv, unStr_sv, unLs_ls, unAgg_agg, unTup_tup, cInt_iv, cBool_bv, cStr_sv, cLs_ls, unNil_nil, unCons_cons, unEnd_nil, unOut_cons, unSet_set, unDel_del, unKeep_keep, unPtr_ptr, unSl_sl, ax_t, ax_i, ax_1, br_t, br_f]
      refine (br_seqT rfl).trans ?_
      refine (askK_of (at_ok K ts vars kn j (by omega) (by omega)) _).trans ?_
      simp only [eTk, cuB, unInt_iv, unBool_bv, unStr_sv, unLs_ls, unAgg_agg, unTup_tup, cInt_iv, cBool_bv, cStr_sv, cLs_ls, unNil_nil, unCons_cons, unEnd_nil, unOut_cons, unSet_set, unDel_del, unKeep_keep, unPtr_ptr, unSl_sl, ax_t, ax_i, ax_1, br_t, br_f]
      refine (br_eqT rfl).trans ?_
      refine (askK_of (want_ok K ts vars kn j (by omega) (by omega) _) _).trans ?_
      simp only [cuB, unInt_iv, unBool_bv, unStr_sv, unLs_ls, unAgg_agg, unTup_tup, cInt_iv, cBool_bv, cStr_sv, cLs_ls, unNil_nil, unCons_cons, unEnd_nil, unOut_cons, unSet_set, unDel_del, unKeep_keep, unPtr_ptr, unSl_sl, ax_t, ax_i, ax_1, br_t, br_f]
      have ti := tis_ok Kr ts vars kn j (by omega) (nx ts j).text
      revert ti
      cases isT ts j (nx ts j).text with
      | true =>
        intro ti
        refine (br_eqT rfl).trans ?_
        refine (askK_of ti _).trans ?_
        rfl
      | false =>
        intro ti
        refine (br_eqF (by simp)).trans ?_
        refine (askK_of ti _).trans ?_
        rfl
  · have wh := whole_err Kw s vars kn _ ln co e he F.all
    unfold wholeA ifOk at wh
    simp only [he, if_false] at wh
    refine (askK_of wh _).trans ?_
    simp only [eTr, T0, unInt_iv, unBool_bv, unStr_sv, unLs_ls, unAgg_agg, unTup_tup, cInt_iv, cBool_bv, cStr_sv, cLs_ls, unNil_nil, unCons_cons, unEnd_nil, unOut_cons, unSet_set, unDel_del, unKeep_keep, unPtr_ptr, unSl_sl, ax_t, ax_i, ax_1, br_t, br_f]
    revert rc0 le0
    rcases condP ts vars kn 0 with ⟨j0, e0, ⟨k3, l3, r3, o3, p3, q3, ks3⟩⟩
    intro rc0 le0
    have le0 : j0 ≤ ts.length + 0 := le0
    refine (askK_of rc0 _).trans ?_
    simp only [eTr, cuA, unInt_iv, unBool_bv, unStr_sv, unLs_ls, unAgg_agg, unTup_tup, cInt_iv, cBool_bv, cStr_sv, cLs_ls, unNil_nil, unCons_cons, unEnd_nil, unOut_cons, unSet_set, unDel_del, unKeep_keep, unPtr_ptr, unSl_sl, ax_t, ax_i, ax_1, br_t, br_f]
    refine (askK_of (end_ok Kr ts vars kn j0 e0 (by omega)) _).trans ?_
    simp only [unInt_iv, unBool_bv, unStr_sv, unLs_ls, unAgg_agg, unTup_tup, cInt_iv, cBool_bv, cStr_sv, cLs_ls, unNil_nil, unCons_cons, unEnd_nil, unOut_cons, unSet_set, unDel_del, unKeep_keep, unPtr_ptr, unSl_sl, ax_t, ax_i, ax_1, br_t, br_f]
    refine (br_eqF (by omega)).trans ?_
    refine (askK_of (next_ok Kr ts vars kn j (by omega)) _).trans ?_
    simp only [eTk, unInt_iv, unBool_bv, unStr_sv, unLs_ls, unAgg_agg, unTup_tup, cInt_iv, cBool_bv, cStr_sv, cLs_ls, unNil_nil, unCons_cons, unEnd_nil, unOut_cons, unSet_set, unDel_del, unKeep_keep, unPtr_ptr, unSl_sl, ax_t, ax_i, ax_1, br_t, br_f]
    refine (askK_of (at_ok K ts vars kn j (by omega) (by omega)) _).trans ?_
    simp only [eTk, cuB, unInt_iv, unBool_bv, unStr_sv, unLs_ls, unAgg_agg, unTup_tup, cInt_iv, cBool_bv, cStr_sv, cLs_ls, unNil_nil, unCons_cons, unEnd_nil, unOut_cons, unSet_set, unDel_del, unKeep_keep, unPtr_ptr, unSl_sl, ax_t, ax_i, ax_1, br_t, br_f]
    refine (br_seqT rfl).trans ?_
    refine (askK_of (at_ok K ts vars kn j (by omega) (by omega)) _).trans ?_
    simp only [eTk, cuB, unInt_iv, unBool_bv, unStr_sv, unLs_ls, unAgg_agg, unTup_tup, cInt_iv, cBool_bv, cStr_sv, cLs_ls, unNil_nil, unCons_cons, unEnd_nil, unOut_cons, unSet_set, unDel_del, unKeep_keep, unPtr_ptr, unSl_sl, ax_t, ax_i, ax_1, br_t, br_f]
    refine (br_eqT rfl).trans ?_
    refine (askK_of (want_ok K ts vars kn j (by omega) (by omega) _) _).trans ?_
    simp only [cuB, unInt_iv, unBool_bv, unStr_sv, unLs_ls, unAgg_agg, unTup_tup, cInt_iv, cBool_bv, cStr_sv, cLs_ls, unNil_nil, unCons_cons, unEnd_nil, unOut_cons, unSet_set, unDel_del, unKeep_keep, unPtr_ptr, unSl_sl, ax_t, ax_i, ax_1, br_t, br_f]
    have ti := tis_ok Kr ts vars kn j (by omega) (nx ts j).text
    revert ti
    cases isT ts j (nx ts j).text with
    | true =>
      intro ti
      refine (br_eqT rfl).trans ?_
      refine (askK_of ti _).trans ?_
      rfl
    | false =>
      intro ti
      refine (br_eqF (by simp)).trans ?_
      refine (askK_of ti _).trans ?_
      rfl
end
end Go.Proofs.Ytlmhajfbpplpoaa
namespace Go.Proofs.Ytlmhajfbpplpoaa
open Go.RowKit

theorem tok1_ne {l : List UInt8} {e : Nat} (h : tok1 l = .err e) : e ≠ 0 := by
  cases l with
  | nil => simp [tok1] at h
  | cons c l =>
    rw [tok1_cons] at h
    repeat' split at h
    all_goals simp at h
    all_goals omega
theorem more_ok {t : Tk} {r : LexR} {ts : List Tk} (h : r.more t = .ok ts) : ∃ us, r = .ok us ∧ ts = t :: us := by
  cases r with
  | ok us => exact ⟨us, rfl, by injection h with h; exact h.symm⟩
  | err => cases h
theorem more_err {t : Tk} {r : LexR} {c ln co : Nat} (h : r.more t = .err c ln co) : r = .err c ln co := by
  cases r with
  | ok us => cases h
  | err => exact h
structure TksF (n : Nat) (ts : List Tk) : Prop where
  len : ts.length ≤ n + 1
  ne : ts ≠ []
  last : ∀ d, (ts.getLastD d).kind = 5
  each : ∀ t ∈ ts, t.text.length ≤ n ∧ (t.kind ≠ 5 → t.text ≠ [])
theorem lexL_facts : ∀ (n : Nat) (l : List UInt8) (p : Nat × Nat), l.length ≤ n → (∀ ts, lexL l p = .ok ts → TksF n ts) ∧ ∀ c ln co, lexL l p = .err c ln co → c ≠ 0 := by
  intro n
  induction n with
  | zero =>
    intro l p hl
    have : l = [] := List.length_eq_zero_iff.1 (by omega)
    subst this
    rw [lexL_eq]
    refine ⟨fun ts h => ?_, fun c ln co h => ?_⟩
    · have h : LexR.ok [⟨5, [], (adv p []).1, (adv p []).2⟩] = .ok ts := h
      injection h with h
      subst h
      exact ⟨by simp, by simp, fun d => rfl, by simp⟩
    · have h : LexR.ok [⟨5, [], (adv p []).1, (adv p []).2⟩] = .err c ln co := h
      cases h
  | succ n ih =>
    intro l p hl
    rw [lexL_eq]
    cases ht : tok1 (l.drop (gap false l)) with
    | fin =>
      refine ⟨fun ts h => ?_, fun c ln co h => (by cases h)⟩
      injection h with h
      subst h
      exact ⟨by simp, by simp, fun d => rfl, by simp⟩
    | err e =>
      refine ⟨fun ts h => (by cases h), fun c ln co h => ?_⟩
      injection h with h
      rw [← h]
      exact tok1_ne ht
    | tok k m =>
      have hm := tok1_len ht
      rw [List.length_drop] at hm
      have ih := ih (l.drop (gap false l + m)) (adv (adv p (l.take (gap false l))) ((l.drop (gap false l)).take m)) (by rw [List.length_drop]; omega)
      refine ⟨fun ts h => ?_, fun c ln co h => ih.2 c ln co (more_err h)⟩
      obtain ⟨us, hu, rfl⟩ := more_ok h
      have f := ih.1 us hu
      have hlen : ((l.drop (gap false l)).take m).length = m := by rw [List.length_take, List.length_drop]; omega
      refine ⟨by have := f.len; simp; omega, by simp, fun d => ?_, fun t h => ?_⟩
      · rw [List.getLastD_cons]
        exact f.last _
      · rcases List.mem_cons.1 h with rfl | h
        · refine ⟨by rw [hlen]; omega, fun _ h0 => ?_⟩
          have h0 : (l.drop (gap false l)).take m = [] := h0
          rw [h0] at hlen
          simp at hlen
          omega
        · have := f.each t h
          exact ⟨by omega, this.2⟩
theorem lexAll_facts (l : List UInt8) : (∀ ts, lexAll l = .ok ts → TksF l.length ts) ∧ ∀ c ln co, lexAll l = .err c ln co → c ≠ 0 := by
  unfold lexAll
  split
  · refine ⟨fun ts h => (by cases h), fun c ln co h => ?_⟩
    injection h with h
    omega
  · exact lexL_facts l.length l (1, 1) (Nat.le_refl _)
theorem nx_mem {ts : List Tk} (h : ts ≠ []) (i : Nat) : nx ts i ∈ ts := by
  unfold nx
  cases e : ts[i]? with
  | some t => exact List.mem_of_getElem? e
  | none =>
    simp only
    rw [List.getLastD_eq_getLast?, List.getLast?_eq_some_getLast h]
    exact List.getLast_mem h
theorem TksF.toks {n : Nat} {ts : List Tk} (f : TksF n ts) (hn : n ≤ 1000000) : Toks ts where
  len := by have := f.len; omega
  short i := by have := (f.each _ (nx_mem f.ne i)).1; omega
  fin := f.last _
theorem TksF.num {n : Nat} {ts : List Tk} (f : TksF n ts) (i : Nat) (h : (nx ts i).kind = 3) : (nx ts i).text ≠ [] := (f.each _ (nx_mem f.ne i)).2 (by omega)
theorem toks_nil : Toks [] where
  len := by decide
  short i := by simp [nx]
  fin := rfl
theorem num_nil (i : Nat) (h : (nx [] i).kind = 3) : (nx [] i).text ≠ [] := by simp [nx] at h
end Go.Proofs.Ytlmhajfbpplpoaa
namespace Go.Proofs.Ytlmhajfbpplpoaa
open Go.RowKit

theorem den_calls {P : Program} {ents : Nat} {M : Seat} (hM : SeatOk P ents M) {f : Nat} {args : List AV} {r : AV} (h : (Dstar realA M).ask (.fn f) args [] = some (r, [])) (w : World) (us : List Value)
    (hus : RepList (fun _ => none) (fun g _ => g < w.heap.size) w args us) :
    Calls P f us.toArray w fun e w' => ∃ u, e = .returned u ∧ Below w.heap.size w w' ∧ ∃ μ' F', Rep μ' F' w' r u := by
  obtain ⟨_, t0, ht, g⟩ := star_good hM f args [] r [] h
  have hH : HRep (fun _ => none) (fun g _ => g < w.heap.size) w (fun b => if b < t0 then ([] : List ABlk)[b]? else look b []) := by
    have e : ∀ b, (if b < t0 then ([] : List ABlk)[b]? else look b []) = none := fun b => by split <;> rfl
    refine ⟨fun b k hb => ?_, fun b b' k k' p p' _ hb => ?_, fun g o hg => hg⟩
    · rw [e] at hb; cases hb
    · rw [e] at hb; cases hb
  have := g t0 (Nat.le_refl _) (fun _ => none) (fun g _ => g < w.heap.size) w [] us (by simp) hus hH (fun _ _ _ => rfl)
  refine Calls.mono this ?_
  rintro e w' ⟨u, rfl, μ', F', h1, _, _, h4, _⟩
  exact ⟨u, rfl, h4.below (Nat.le_refl _) (fun g o hg => hg), μ', F', h1⟩
end Go.Proofs.Ytlmhajfbpplpoaa
namespace Go.Proofs.Ytlmhajfbpplpoaa
open Go.RowKit

noncomputable def tabs : List (Nat × MFn) := tabEa ++ (tabEb ++ (tabRa ++ (tabWa ++ tabLa)))
def resName : List AV → Option AV
  | [.v (.string s)] => if s.size ≤ 9223372036854775807 then some (bv (nameB s.data.toList)) else none
  | _ => none
def resAll : List AV → Option AV
  | [.v (.string s)] => if s.size ≤ 9223372036854775807 then (match lexAll s.data.toList with
    | .ok ts => some (.tup [.ls (ts.map eTk), .agg [iv 0, iv 0], iv 0])
    | .err c ln co => some (.tup [.ls [], .agg [iv (ln : Int), iv (co : Int)], iv (c : Int)])) else none
  | _ => none
def resTrue : List AV → Option AV
  | [] => some (bv true)
  | _ => none
def extD (res : List AV → Option AV) : DF := fun args bs => match bs with
  | [] => (res args).map fun r => (r, [])
  | _ => none
def exts : List (Nat × DF) := [(5, extD resAll), (6, extD resAll), (54, extD resName), (44, extD resName), (4, extD resTrue)]
noncomputable def seatC : Seat := seatD ownC tabs exts
noncomputable def DC : Orc := Dstar realA seatC
/-- All are resolved out of the program. -/
def AllFn (P : Program) (ents : Nat) : List (Nat × MFn) → Prop
  | [] => True
  | p :: r => (∃ hs a b, p.2 = mfD P ents hs a b p.1) ∧ okFnD P p.1 = true ∧ AllFn P ents r
theorem allFn_mem {P : Program} {ents : Nat} : ∀ {L : List (Nat × MFn)}, AllFn P ents L → ∀ f mf, (f, mf) ∈ L → FnOk P ents f mf
  | p :: r, ⟨⟨hs, a, b, h1⟩, h2, h3⟩, f, mf, hm => by
    rcases List.mem_cons.1 hm with rfl | hm
    · have h1 : mf = _ := h1
      rw [h1]
      exact fnOk_of h2
    · exact allFn_mem h3 f mf hm
theorem allFn_app {P : Program} {ents : Nat} : ∀ {L L' : List (Nat × MFn)}, AllFn P ents L → AllFn P ents L' → AllFn P ents (L ++ L')
  | [], _, _, h => h
  | _ :: _, _, ⟨h1, h2, h3⟩, h => ⟨h1, h2, allFn_app h3 h⟩
theorem allEa : AllFn Try.prog entsC tabEa := ⟨⟨_, _, _, rfl⟩, by kernel_rfl, ⟨_, _, _, rfl⟩, by kernel_rfl, ⟨_, _, _, rfl⟩, by kernel_rfl, ⟨_, _, _, rfl⟩, by kernel_rfl, ⟨_, _, _, rfl⟩, by kernel_rfl, ⟨_, _, _, rfl⟩, by kernel_rfl, ⟨_, _, _, rfl⟩, by kernel_rfl, ⟨_, _, _, rfl⟩, by kernel_rfl, ⟨_, _, _, rfl⟩, by kernel_rfl, ⟨_, _, _, rfl⟩, by kernel_rfl, ⟨_, _, _, rfl⟩, by kernel_rfl, ⟨_, _, _, rfl⟩, by kernel_rfl, trivial⟩
theorem allEb : AllFn Try.prog entsC tabEb := ⟨⟨_, _, _, rfl⟩, by kernel_rfl, ⟨_, _, _, rfl⟩, by kernel_rfl, ⟨_, _, _, rfl⟩, by kernel_rfl, ⟨_, _, _, rfl⟩, by kernel_rfl, ⟨_, _, _, rfl⟩, by kernel_rfl, ⟨_, _, _, rfl⟩, by kernel_rfl, ⟨_, _, _, rfl⟩, by kernel_rfl, trivial⟩
theorem allRa : AllFn Try.prog entsC tabRa := ⟨⟨_, _, _, rfl⟩, by kernel_rfl, ⟨_, _, _, rfl⟩, by kernel_rfl, ⟨_, _, _, rfl⟩, by kernel_rfl, ⟨_, _, _, rfl⟩, by kernel_rfl, ⟨_, _, _, rfl⟩, by kernel_rfl, ⟨_, _, _, rfl⟩, by kernel_rfl, ⟨_, _, _, rfl⟩, by kernel_rfl, ⟨_, _, _, rfl⟩, by kernel_rfl, ⟨_, _, _, rfl⟩, by kernel_rfl, ⟨_, _, _, rfl⟩, by kernel_rfl, ⟨_, _, _, rfl⟩, by kernel_rfl, ⟨_, _, _, rfl⟩, by kernel_rfl, ⟨_, _, _, rfl⟩, by kernel_rfl, ⟨_, _, _, rfl⟩, by kernel_rfl, ⟨_, _, _, rfl⟩, by kernel_rfl, trivial⟩
theorem allWa : AllFn Try.prog entsC tabWa := ⟨⟨_, _, _, rfl⟩, by kernel_rfl, trivial⟩
theorem allLa : AllFn Try.prog entsC tabLa := ⟨⟨_, _, _, rfl⟩, by kernel_rfl, trivial⟩
theorem allTabs : AllFn Try.prog entsC tabs := allFn_app allEa (allFn_app allEb (allFn_app allRa (allFn_app allWa allLa)))
def entOkB (P : Program) (ents n : Nat) : Bool := Nat.blt ents (2 ^ n) && (List.range n).all fun g => !ents.testBit g || enterable P g
theorem entOk_of {P : Program} {ents n : Nat} (h : entOkB P ents n = true) : EntOk P ents := by
  unfold entOkB at h
  rw [Bool.and_eq_true] at h
  intro g hg
  have hn : ents < 2 ^ n := Nat.blt_eq.mp h.1
  by_cases hgn : g < n
  · have := List.all_eq_true.1 h.2 g (List.mem_range.2 hgn)
    rw [hg] at this
    simpa using this
  · have : ents < 2 ^ g := Nat.lt_of_lt_of_le hn (Nat.pow_le_pow_right (by decide) (by omega))
    rw [Nat.testBit_lt_two_pow this] at hg
    cases hg
theorem entC_ok : EntOk Try.prog entsC := entOk_of (n := 90) (by kernel_rfl)
theorem find_app {α : Type} {f : Nat} : ∀ {A B : List (Nat × α)}, findN f (A ++ B) = match findN f A with
    | some a => some a
    | none => findN f B
  | [], _ => rfl
  | (m, b) :: r, B => by
    have ih := find_app (f := f) (A := r) (B := B)
    show (match Nat.beq f m with
      | true => some b
      | false => findN f (r ++ B)) = match (match Nat.beq f m with
      | true => some b
      | false => findN f r) with
      | some a => some a
      | none => findN f B
    cases Nat.beq f m with
    | true => rfl
    | false => exact ih
/-- No number of the second list is in the first one. -/
def apartN (A B : List (Nat × MFn)) : Bool := B.all fun p => (findN p.1 A).isNone
theorem find_right {A B : List (Nat × MFn)} (h : apartN A B = true) {f : Nat} {mf : MFn} (hf : findN f B = some mf) : findN f (A ++ B) = some mf := by
  have := List.all_eq_true.1 h _ (findN_mem hf)
  have h0 : findN f A = none := Option.isNone_iff_eq_none.1 this
  rw [find_app, h0]
  exact hf
theorem find_left {A B : List (Nat × MFn)} {f : Nat} {mf : MFn} (hf : findN f A = some mf) : findN f (A ++ B) = some mf := by
  rw [find_app, hf]
theorem kEa : Knows ownC tabEa DC := knows_of (fun _ _ h => find_left h) (by kernel_rfl)
theorem kEb : Knows ownC tabEb DC := knows_of (fun _ _ h => find_right (by kernel_rfl) (find_left h)) (by kernel_rfl)
theorem kRa : Knows ownC tabRa DC := knows_of (fun _ _ h => find_right (by kernel_rfl) (find_right (by kernel_rfl) (find_left h))) (by kernel_rfl)
theorem kWa : Knows ownC tabWa DC := knows_of (fun _ _ h => find_right (by kernel_rfl) (find_right (by kernel_rfl) (find_right (by kernel_rfl) (find_left h)))) (by kernel_rfl)
theorem kLa : Knows ownC tabLa DC := knows_of (fun _ _ h => find_right (by kernel_rfl) (find_right (by kernel_rfl) (find_right (by kernel_rfl) (find_right (by kernel_rfl) h)))) (by kernel_rfl)
theorem walking_ext : DC.ask (.fn 4) [] [] = some (bv true, []) := star_ext (d := extD resTrue) rfl rfl
theorem nameF : NameF DC where
  name s hs := star_ext (d := extD resName) rfl (by
    unfold extD resName
    have h1 : (bstr s).size ≤ 9223372036854775807 := by show s.toArray.size ≤ _; simp; omega
    have h2 : (bstr s).data.toList = s := by simp [bstr]
    simp only [sv, h1, if_true, h2]
    rfl)
theorem rnameF : RNameF DC where
  name s hs := star_ext (d := extD resName) rfl (by
    unfold extD resName
    have h1 : (bstr s).size ≤ 9223372036854775807 := by show s.toArray.size ≤ _; simp; omega
    have h2 : (bstr s).data.toList = s := by simp [bstr]
    simp only [sv, h1, if_true, h2]
    rfl)
theorem all_extOk (s : ByteArray) (hs : s.size ≤ 9223372036854775807) (ts : List Tk) (h : lexAll s.data.toList = .ok ts) : AllF DC s ts 0 0 0 where
  all := star_ext (d := extD resAll) rfl (by unfold extD resAll; simp only [sv, hs, if_true, h]; rfl)
  rall := star_ext (d := extD resAll) rfl (by unfold extD resAll; simp only [sv, hs, if_true, h]; rfl)
  zero _ := ⟨rfl, rfl⟩
theorem all_extErr (s : ByteArray) (hs : s.size ≤ 9223372036854775807) (c ln co : Nat) (hc : c ≠ 0) (h : lexAll s.data.toList = .err c ln co) : AllF DC s [] ln co c where
  all := star_ext (d := extD resAll) rfl (by unfold extD resAll; simp only [sv, hs, if_true, h]; rfl)
  rall := star_ext (d := extD resAll) rfl (by unfold extD resAll; simp only [sv, hs, if_true, h]; rfl)
  zero h0 := absurd h0 hc
/-- The five contracts that are wanted. -/
structure ExtC : Prop where
  all : GoodD (SemFn Try.prog 5) (extD resAll)
  rall : GoodD (SemFn Try.prog 6) (extD resAll)
  name : GoodD (SemFn Try.prog 54) (extD resName)
  rname : GoodD (SemFn Try.prog 44) (extD resName)
  walking : GoodD (SemFn Try.prog 4) (extD resTrue)
theorem seatC_ok (E : ExtC) : SeatOk Try.prog entsC seatC where
  mixed := by kernel_rfl
  ent := entC_ok
  fns f mf h := allFn_mem allTabs f mf (findN_mem h)
  ext f d h := by
    have hm : (f, d) ∈ exts := findN_mem h
    unfold exts at hm
    simp only [List.mem_cons, Prod.mk.injEq, List.not_mem_nil, or_false] at hm
    rcases hm with ⟨rfl, rfl⟩ | ⟨rfl, rfl⟩ | ⟨rfl, rfl⟩ | ⟨rfl, rfl⟩ | ⟨rfl, rfl⟩
    · exact E.all
    · exact E.rall
    · exact E.name
    · exact E.rname
    · exact E.walking
theorem r_and (x : Int) : ∃ i : Nat, realA.bits .and .i64 x 4095 = (i : Int) ∧ i ≤ 4095 := by
  show ∃ i : Nat, IntKind.i64.wrap ((BitVec.ofInt 64 x &&& BitVec.ofInt 64 4095).toNat : Int) = (i : Int) ∧ i ≤ 4095
  have h : (BitVec.ofInt 64 x &&& BitVec.ofInt 64 4095).toNat ≤ 4095 := by
    rw [BitVec.toNat_and]
    exact Nat.le_trans Nat.and_le_right (by decide)
  refine ⟨_, ?_, h⟩
  rw [IntKind.wrap_i64]
  omega
end Go.Proofs.Ytlmhajfbpplpoaa
namespace Go.Proofs.Ytlmhajfbpplpoaa
open Go.RowKit

theorem walks_ask (s : ByteArray) (fr : Int) (vars : List ByteArray) (kn : Bool) : DC.ask (.fn 3) [sv s, iv fr, .ls (vars.map eS), bv kn] [] = some (bv true, []) := by
  obtain ⟨i, hi, hi2⟩ := r_and fr
  have hs : s.size ≤ 2000 → s.size ≤ 9223372036854775807 := fun h => by omega
  have hn : s.data.toList.length = s.size := by simp
  cases h : lexAll s.data.toList with
  | ok ts =>
    have f := (lexAll_facts s.data.toList).1 ts h
    rw [hn] at f
    exact law_ok kEa kEb nameF kRa rnameF kWa kLa walking_ext s fr vars kn ts 0 0 0 (fun k => all_extOk s (hs k) ts h) (fun k => f.toks (by omega)) (fun k => by have := f.len; omega) f.num i hi hi2
  | err c ln co =>
    have hc := (lexAll_facts s.data.toList).2 c ln co h
    exact law_ok kEa kEb nameF kRa rnameF kWa kLa walking_ext s fr vars kn [] ln co c (fun k => all_extErr s (hs k) c ln co hc h) (fun _ => toks_nil) (fun _ => by decide) num_nil i hi hi2
theorem walks_calls (E : ExtC) (s : ByteArray) (fr : Int) (vars : List ByteArray) (kn : Bool) (w : World) (v : Value) (hv : Rep (fun _ => none) (fun g _ => g < w.heap.size) w (.ls (vars.map eS)) v) :
    Calls Try.prog 3 #[.string s, .int .i64 fr, v, .bool kn] w fun e w' => e = .returned (.bool true) ∧ Below w.heap.size w w' := by
  have g := den_calls (seatC_ok E) (walks_ask s fr vars kn) w [.string s, .int .i64 fr, v, .bool kn] (by
    simp only [RepList]
    exact ⟨_, _, rfl, rep_sv _, _, _, rfl, rep_iv _, _, _, rfl, hv, _, _, rfl, rep_bv _, rfl⟩)
  refine Calls.mono g ?_
  rintro e w' ⟨u, rfl, hb, μ', F', hr⟩
  unfold bv Rep at hr
  rw [hr.1]
  exact ⟨rfl, hb⟩
end Go.Proofs.Ytlmhajfbpplpoaa
namespace Go.Proofs.Ytlmhajfbpplpoaa
open Go.RowKit

theorem goodD_ext {S : SemT} (hm : MonoS S) (res : List AV → Option AV)
    (h : ∀ args r, res args = some r → ∀ (μ : Mu) (F : Prot) (w : World) (us : List Value), RepList μ F w args us → S us w fun u w' => Below w.heap.size w w' ∧ Rep μ (newF F w w') w' r u) : GoodD S (extD res) := goodD_of hm res h
theorem ext_true {P : Program} {f : Nat} (h : ∀ w, Calls P f #[] w fun e w' => e = .returned (.bool true) ∧ Below w.heap.size w w') : GoodD (SemFn P f) (extD resTrue) := by
  refine goodD_ext (semFn_mono P f) _ fun args r hr μ F w us hus => ?_
  unfold resTrue at hr
  split at hr
  · injection hr with hr
    subst hr
    have hus : us = [] := hus
    subst hus
    refine Calls.mono (h w) ?_
    rintro e w' ⟨rfl, hb⟩
    exact ⟨_, rfl, hb, rep_bv _⟩
  · cases hr
theorem ext_name {P : Program} {f : Nat} (h : ∀ (s : ByteArray) w, s.size ≤ 9223372036854775807 → Calls P f #[.string s] w fun e w' => e = .returned (.bool (nameB s.data.toList)) ∧ Below w.heap.size w w') : GoodD (SemFn P f) (extD resName) := by
  refine goodD_ext (semFn_mono P f) _ fun args r hr μ F w us hus => ?_
  unfold resName at hr
  split at hr
  · rename_i s
    split at hr
    · rename_i hs
      injection hr with hr
      subst hr
      obtain rfl := rep_str hus
      refine Calls.mono (h s w hs) ?_
      rintro e w' ⟨rfl, hb⟩
      exact ⟨_, rfl, hb, rep_bv _⟩
    · cases hr
  · cases hr
/-- What a lexer hands back. -/
def AllSays (s : ByteArray) (ety : TypeId) (w : World) (e : Ending) (w' : World) : Prop := match lexAll s.data.toList with
  | .ok ts => ∃ v, e = .returned (.tuple #[v, .agg #[.int .i64 0, .int .i64 0], .int .i64 0]) ∧ w'.ownsRow w.heap.size ety 4 v ts.length ((ts.map tkV).flatten) ∧ Below w.heap.size w w'
  | .err c ln co => e = .returned (.tuple #[.slice none 0 0, .agg #[.int .i64 ln, .int .i64 co], .int .i64 c]) ∧ Below w.heap.size w w'
theorem rep_all {μ : Mu} {F : Prot} {w : World} {a : AV} {u : Value} {p q n : Int} (h : Rep μ F w a u) : Rep μ F w (.tup [a, .agg [iv p, iv q], iv n]) (.tuple #[u, .agg #[.int .i64 p, .int .i64 q], .int .i64 n]) := by
  simp only [Rep, RepList]
  exact ⟨_, rfl, _, _, rfl, h, _, _, rfl, ⟨_, rfl, _, _, rfl, rep_iv _, _, _, rfl, rep_iv _, rfl⟩, _, _, rfl, rep_iv _, rfl⟩
theorem ext_all {P : Program} {f : Nat} (ety : TypeId) (h : ∀ (s : ByteArray) w, s.size ≤ 9223372036854775807 → Calls P f #[.string s] w (AllSays s ety w)) : GoodD (SemFn P f) (extD resAll) := by
  refine goodD_ext (semFn_mono P f) _ fun args r hr μ F w us hus => ?_
  unfold resAll at hr
  split at hr
  · rename_i s
    split at hr
    · rename_i hs
      obtain rfl := rep_str hus
      have g := h s w hs
      unfold AllSays at g
      cases ha : lexAll s.data.toList with
      | ok ts =>
        rw [ha] at hr g
        injection hr with hr
        subst hr
        refine Calls.mono g ?_
        rintro e w' ⟨v, rfl, ho, hb⟩
        exact ⟨_, rfl, hb, rep_all (rep_tks ho)⟩
      | err c ln co =>
        rw [ha] at hr g
        injection hr with hr
        subst hr
        refine Calls.mono g ?_
        rintro e w' ⟨rfl, hb⟩
        refine ⟨_, rfl, hb, rep_all ?_⟩
        unfold Rep
        exact ⟨rfl, none, 0, rfl, Nat.le_refl _, Nat.zero_le _, fun h => absurd rfl h⟩
    · cases hr
  · cases hr
end Go.Proofs.Ytlmhajfbpplpoaa
namespace Go.Proofs.Ytlmhajfbpplpoaa
open Go.ChangeShapes Go.WideShapes Go.ChangeAt Go.RowKit

section
variable {W : World} {cs : List Value} {x : D}
theorem fit_bool (h : D.Is W (Lt W.heap.size) x cs) (ht : D.Typed Try.prog x 4) : ∃ b, x.val cs = .bool b := by
  obtain ⟨b, rfl⟩ := ht.bool_ Try.underlying4
  simp only [D.Is] at h
  subst h
  exact ⟨b, rfl⟩
theorem fit_int (h : D.Is W (Lt W.heap.size) x cs) (ht : D.Typed Try.prog x 3) : ∃ n : Int, x.val cs = .int .i64 n := by
  obtain ⟨n, rfl, _⟩ := ht.int_ Try.underlying3
  simp only [D.Is] at h
  subst h
  exact ⟨n, rfl⟩
theorem noid_strs (bs : List ByteArray) : noidR (bs.map eS) = true := by
  unfold noidR
  rw [List.all_map]
  exact List.all_eq_true.2 fun t _ => rfl
theorem rows_strs {μ : Mu} {F : Prot} {w : World} {g : Nat} (hF : ∀ o, F g o) : ∀ (bs : List ByteArray) (o : Nat), (∀ i (h : i < bs.length), w.cell? ⟨g, o + i, none⟩ = some (.string bs[i])) → RepRows μ F w g 1 (bs.map eS) o
  | [], o, _ => by
    simp only [List.map_nil, RepRows]
  | b :: r, o, h => by
    have hr := rows_strs (μ := μ) hF r (o + 1) (fun i hi => by
      have := h (i + 1) (by simpa using hi)
      rw [List.getElem_cons_succ] at this
      rw [← this]
      congr 2
      omega)
    simp only [List.map_cons, RepRows]
    refine ⟨rfl, ?_, hr⟩
    simp only [eS, RepAt]
    exact ⟨⟨hF _, _, (h 0 (by simp)).trans rfl, rep_sv _⟩, trivial⟩
theorem fit_rows (h : D.Is W (Lt W.heap.size) x cs) (ht : D.Typed Try.prog x 22) : ∃ bs : List ByteArray, Rep (fun _ => none) (fun g _ => g < W.heap.size) W (.ls (bs.map eS)) (x.val cs) := by
  obtain ⟨xs, rfl, hx⟩ := ht.slice_ Try.underlying22
  obtain ⟨bs, rfl, _⟩ := unmap (g := D.str) (Q := fun _ => True) xs fun z hz => by
    obtain ⟨n, rfl⟩ := (hx z hz).str_ Try.underlying9
    exact ⟨n, rfl, trivial⟩
  rw [show Try.prog.cellsOf 9 = 1 by kernel_rfl] at h ⊢
  obtain ⟨A, c, rfl⟩ := D.Is.slice_form h
  obtain ⟨h1, h2, h3, h4⟩ := D.Is.slice_at h
  simp only [List.length_map] at h2 h4 ⊢
  refine ⟨bs, ?_⟩
  unfold Rep
  refine ⟨noid_strs bs, A, c, by rw [List.length_map]; rfl, by rw [List.length_map]; exact h2, h3, fun h0 => ?_⟩
  have h0 : 0 < bs.length := by
    rcases bs with _ | _
    · exact absurd rfl h0
    · simp
  obtain ⟨b, o, rfl, hb, hc⟩ := h4 h0
  refine ⟨b, o, 1, rfl, rows_strs (fun _ => hb) bs o fun i hi => ?_⟩
  obtain ⟨cs, h5, h6, h7⟩ := hc i (by simpa using hi)
  rw [List.getElem_map] at h7
  simp only [D.Is] at h7
  obtain ⟨rfl, _⟩ := h7
  have := h6 0 _ rfl
  simpa using this
end
set_option maxRecDepth 100000 in
theorem exprWalks_lifted (E : ExtC) (os : Go.Os) (started : os.Started) (H : Type) (enc : TypeId × Value → H) :
    ReturnsInHanded {} Try.checked os 3 .any (Rows.exprWalksSpec.pre6 enc Try.prog Try.f3 [] false) (Rows.exprWalksSpec.post enc Try.prog Try.f3 false true false false) := by
  refine law_fit (C := Try.checked) 4 [9, 3, 22, 4] 4 own_knob started (by kernel_rfl) Try.func3
    (ChangeSpec.witness6 (enc := enc) (C := Try.checked) false ⟨#[], #[.string ⟨#[]⟩, .int .i64 0, .slice none 0 0, .bool false], []⟩ 8 (by kernel_rfl) (by kernel_rfl) (by kernel_rfl) (by kernel_rfl))
    (by kernel_rfl) rfl (by kernel_rfl) laid_out rfl Try.underlying4 rfl (fun ds h => ?_) (fun W args xs h => ?_)
  · match ds, h with
    | [d1, d2, d3, d4], _ => rfl
  · have h' : AllFit W Try.prog [9, 3, 22, 4] args.toList xs := h
    obtain ⟨args⟩ := args
    obtain ⟨v1, a1, x1, y1, r1, rfl, ⟨cs1, e1, h1, t1, z1⟩, h'⟩ := allFit_cons h'
    obtain ⟨v2, a2, x2, y2, rfl, rfl, ⟨cs2, e2, h2, t2, z2⟩, h'⟩ := allFit_cons h'
    obtain ⟨v3, a3, x3, y3, rfl, rfl, ⟨cs3, e3, h3, t3, z3⟩, h'⟩ := allFit_cons h'
    obtain ⟨v4, a4, x4, y4, rfl, rfl, ⟨cs4, e4, h4, t4, z4⟩, h'⟩ := allFit_cons h'
    obtain rfl := allFit_nil h'
    have r1 : args = [v1, v2, v3, v4] := r1
    subst r1
    obtain ⟨s1, q1, i1⟩ := fit_str h1 t1
    obtain ⟨n2, q2⟩ := fit_int h2 t2
    obtain ⟨bs, q3⟩ := fit_rows h3 t3
    obtain ⟨b4, q4⟩ := fit_bool h4 t4
    rw [q1] at e1
    rw [q2] at e2
    rw [q4] at e4
    subst e1 e2 e3 e4
    exact walks_calls E s1 n2 bs b4 W _ q3
theorem exprWalks_of (E : ExtC) : Rows.ExprWalksSaid :=
  OpenClaim.holds_of_wide 3 Try.f3 rfl rfl rfl rfl rfl rfl rfl ⟨rfl, rfl, rfl, rfl, rfl⟩ rfl rfl rfl rfl rfl (by kernel_rfl) Try.func3 (by kernel_rfl)
    (of_decide_eq_true (by kernel_rfl)) (by unfold Func.isWrapper; first | (rw [if_pos (by decide +kernel)]; kernel_rfl) | (rw [if_neg (by decide +kernel)]; exact ⟨rfl, rfl⟩))
    (fun os started H enc _ => exprWalks_lifted E os started H enc)
end Go.Proofs.Ytlmhajfbpplpoaa
