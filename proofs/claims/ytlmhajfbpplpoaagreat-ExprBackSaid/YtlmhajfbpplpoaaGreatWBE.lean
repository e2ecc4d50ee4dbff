/-
  What a whole text comes to: the program's and the reference's.
  Functions of the program as trees: what a call comes to.
  Whole texts as sums and as conditions: the program's and the reference's ParseSum and ParseCond.
-/
import Derived.Test.YtlmhajfbpplpoaaGreatWAV
import Derived.Test.YtlmhajfbpplpoaaGreatWBB
import Derived.Test.YtlmhajfbpplpoaaGreatWAS
import Derived.Test.YtlmhajfbpplpoaaGreatWBD
set_option linter.unusedSectionVars false
set_option linter.unusedSimpArgs false
set_option linter.unusedVariables false
namespace Go.Proofs.YtlmhajfbpplpoaaGreat
open Go.RowKit

def endP (ts : List Tk) (i e : Nat) : Nat × Nat × Nat := if e = 0 then (if (nx ts i).kind = 5 then (0, 0, 0) else ((nx ts i).ln, (nx ts i).co, 101)) else ((nx ts i).ln, (nx ts i).co, e)
def ifOk (e : Nat) (x : Tr) : Tr := if e = 0 then x else T0
def wholeA (x : Tr) (q : Nat × Nat × Nat) : AV := .tup [.agg (eTr (ifOk q.2.2 x)), .agg [iv (q.1 : Int), iv (q.2.1 : Int)], iv (q.2.2 : Int)]
section
variable {D : Orc}
theorem end_ok (K : Knows ownC tabRa D) (ts : List Tk) (vars : List ByteArray) (kn : Bool) (i e : Nat) (hts : ts.length < 4611686018427387904) : D.ask (.fn 52) [cuA ts vars kn i, iv (e : Int)] [] = some (.tup [.agg [iv ((endP ts i e).1 : Int), iv ((endP ts i e).2.1 : Int)], iv ((endP ts i e).2.2 : Int)], []) := by
 refine K.fn' hn52 _ rfl ((e52 ..).trans ?_)
 unfold endP
 by_cases h0 : e = 0
 ·refine (br_eqT (by omega)).trans ?_
  refine (askK_of (next_ok K ts vars kn i hts) _).trans ?_
  rw [if_pos h0]
  simp only [eTk, ND]
  by_cases h5 : (nx ts i).kind = 5
  ·refine (br_eqT (by omega)).trans ?_
   refine (br_eqT (by omega)).trans ?_
   rw [if_pos h5]
   rfl
  ·refine (br_eqF (by omega)).trans ?_
   refine (br_eqF (by omega)).trans ?_
   refine (askK_of (next_ok K ts vars kn i hts) _).trans ?_
   rw [if_neg h5]
   simp only [eTk, ND]
   rfl
 ·refine (br_eqF (by omega)).trans ?_
  refine (br_eqF (by omega)).trans ?_
  refine (askK_of (next_ok K ts vars kn i hts) _).trans ?_
  rw [if_neg h0]
  simp only [eTk, ND]
theorem whole_err (Kw : Knows ownC tabWa D) (s : ByteArray) (vars : List ByteArray) (kn : Bool) (x : List (List AV)) (ln co e : Nat) (he : e ≠ 0) (hall : D.ask (.fn 91) [sv s] [] = some (.tup [.ls x, .agg [iv (ln : Int), iv (co : Int)], iv (e : Int)], [])) : D.ask (.fn 53) [sv s, .ls (vars.map eS), bv kn, .fn (.func 54) [] []] [] = some (wholeA T0 (ln, co, e), []) := by
 refine Kw.fn' hn53 _ rfl ((e53 ..).trans ?_)
 refine (askK_of hall _).trans ?_
 simp only [ND]
 refine (br_eqF (by omega)).trans ?_
 unfold wholeA ifOk
 rw [if_neg he]
 rfl
theorem whole_ok (K : Knows ownC tabEa D) (Kb : Knows ownC tabEb D) (L : NameF D) (Kw : Knows ownC tabWa D) (s : ByteArray) {ts : List Tk} (H : Toks ts) (vars : List ByteArray) (kn : Bool) (hv : vars.length < 4611686018427387904) (hall : D.ask (.fn 91) [sv s] [] = some (.tup [.ls (ts.map eTk), .agg [iv 0, iv 0], iv 0], [])) : D.ask (.fn 53) [sv s, .ls (vars.map eS), bv kn, .fn (.func 54) [] []] [] = some (wholeA (condP ts vars kn 0).2.2 (endP ts (condP ts vars kn 0).1 (condP ts vars kn 0).2.1), []) := by
 have hl := H.len
 have g := condAt_ok H 0 (by omega) vars kn hv K Kb L
 have hf : (condP ts vars kn 0).1 ≤ ts.length := by
  unfold condP
  rw [if_pos (by omega)]
  have f : Far ts 0 _ _ := jbP_far H vars kn (4 * ts.length + 3) .cond 0 0 (by omega)
  exact f.le
 refine Kw.fn' hn53 _ rfl ((e53 ..).trans ?_)
 refine (askK_of hall _).trans ?_
 simp only [ND]
 refine (br_eqT rfl).trans ?_
 refine (askK_of g _).trans ?_
 revert hf
 rcases condP ts vars kn 0 with ⟨j, e, ⟨k, l, r, o, p, q, ks⟩⟩
 intro hf
 have hj : j ≤ ts.length := hf
 have ha := at_ok K ts vars kn j (by omega) (by omega)
 simp only [eTr, cuB, ND]
 unfold wholeA endP ifOk
 by_cases h0 : e = 0
 ·refine (br_eqT (by omega)).trans ?_
  refine (askK_of ha _).trans ?_
  simp only [eTk, cuB, ND]
  by_cases h5 : (nx ts j).kind = 5
  ·refine (br_eqT (by omega)).trans ?_
   refine (br_eqT (by omega)).trans ?_
   simp only [h0, h5, if_true]
   rfl
  ·refine (br_eqF (by omega)).trans ?_
   refine (br_eqF (by omega)).trans ?_
   refine (askK_of ha _).trans ?_
   simp only [eTk, cuB, ND, h0, h5, if_true, if_false]
   rfl
 ·refine (br_eqF (by omega)).trans ?_
  first | refine (br_eqF (by omega)).trans ?_ | skip
  refine (askK_of ha _).trans ?_
  simp only [eTk, cuB, ND, h0, if_false]
  rfl
end
structure AllF (D : Orc) (s : ByteArray) (ts : List Tk) (ln co e : Nat) : Prop where
 all : D.ask (.fn 91) [sv s] [] = some (.tup [.ls (ts.map eTk), .agg [iv (ln : Int), iv (co : Int)], iv (e : Int)], [])
 rall : D.ask (.fn 50) [sv s] [] = some (.tup [.ls (ts.map eTk), .agg [iv (ln : Int), iv (co : Int)], iv (e : Int)], [])
 zero : e = 0 → ln = 0 ∧ co = 0
end Go.Proofs.YtlmhajfbpplpoaaGreat
namespace Go.Proofs.YtlmhajfbpplpoaaGreat
open Go.RowKit
def hs16 : Hints := []
noncomputable def mf16 : MFn := mfD Tryz.prog entsC hs16 false false 16
def hs18 : Hints := []
noncomputable def mf18 : MFn := mfD Tryz.prog entsC hs18 false false 18
noncomputable def tabRb : List (Nat × MFn) := [(16, mf16), (18, mf18)]
end Go.Proofs.YtlmhajfbpplpoaaGreat
namespace Go.Proofs.YtlmhajfbpplpoaaGreat
open Go.RowKit

def ifOkL (e : Nat) (l : List Mo) : List Mo := if e = 0 then l else []
def wholeS (l : List Mo) (q : Nat × Nat × Nat) : AV := .tup [.ls ((ifOkL q.2.2 l).map eMo), .agg [iv (q.1 : Int), iv (q.2.1 : Int)], iv (q.2.2 : Int)]
def psumP (s : List UInt8) : List Mo × (Nat × Nat × Nat) := match lexAll s with
 | .err c ln co => ([], (ln, co, c))
 | .ok ts => ((sumP ts [] false 0).2.2, endP ts (sumP ts [] false 0).1 (sumP ts [] false 0).2.1)
def pcondP (s : List UInt8) : Tr × (Nat × Nat × Nat) := match lexAll s with
 | .err c ln co => (T0, (ln, co, c))
 | .ok ts => ((condP ts [] false 0).2.2, endP ts (condP ts [] false 0).1 (condP ts [] false 0).2.1)
theorem lexAll_len {l : List UInt8} {ts : List Tk} (h : lexAll l = .ok ts) : l.length ≤ 16384 := by
 unfold lexAll at h
 split at h
 ·cases h
 ·omega
section
variable {D : Orc}
structure LexF (D : Orc) : Prop where
 ok : ∀ (s : ByteArray) (ts : List Tk), s.size ≤ 9223372036854775807 → lexAll s.data.toList = .ok ts → AllF D s ts 0 0 0
 err : ∀ (s : ByteArray) (c ln co : Nat), s.size ≤ 9223372036854775807 → lexAll s.data.toList = .err c ln co → AllF D s [] ln co c
structure LexA (D : Orc) : Prop where
 ok : ∀ (s : ByteArray) (ts : List Tk), s.size ≤ 9223372036854775807 → lexAll s.data.toList = .ok ts → D.ask (.fn 91) [sv s] [] = some (.tup [.ls (ts.map eTk), .agg [iv 0, iv 0], iv 0], [])
 err : ∀ (s : ByteArray) (c ln co : Nat), s.size ≤ 9223372036854775807 → lexAll s.data.toList = .err c ln co → D.ask (.fn 91) [sv s] [] = some (.tup [.ls [], .agg [iv (ln : Int), iv (co : Int)], iv (c : Int)], [])
theorem wholeS_err (Kw : Knows ownC tabWb D) (s : ByteArray) (vars : List ByteArray) (kn : Bool) (x : List (List AV)) (ln co e : Nat) (he : e ≠ 0) (hall : D.ask (.fn 91) [sv s] [] = some (.tup [.ls x, .agg [iv (ln : Int), iv (co : Int)], iv (e : Int)], [])) : D.ask (.fn 48) [sv s, .ls (vars.map eS), bv kn, .fn (.func 49) [] []] [] = some (wholeS [] (ln, co, e), []) := by
 refine Kw.fn' hn48 _ rfl ((e48 ..).trans ?_)
 refine (askK_of hall _).trans ?_
 simp only [ND]
 refine (br_eqF (by omega)).trans ?_
 unfold wholeS ifOkL
 rw [if_neg he]
 rfl
theorem wholeS_ok (K : Knows ownC tabEa D) (L : NameF D) (Kw : Knows ownC tabWb D) (s : ByteArray) {ts : List Tk} (H : Toks ts) (vars : List ByteArray) (kn : Bool) (hv : vars.length < 4611686018427387904) (hall : D.ask (.fn 91) [sv s] [] = some (.tup [.ls (ts.map eTk), .agg [iv 0, iv 0], iv 0], [])) : D.ask (.fn 48) [sv s, .ls (vars.map eS), bv kn, .fn (.func 49) [] []] [] = some (wholeS (sumP ts vars kn 0).2.2 (endP ts (sumP ts vars kn 0).1 (sumP ts vars kn 0).2.1), []) := by
 have hl := H.len
 have g := sum_ok K L ts vars kn (by omega) hv H.short 0 (by omega)
 have f : Far ts 0 _ _ := sumP_far H vars kn (Nat.zero_le _)
 refine Kw.fn' hn48 _ rfl ((e48 ..).trans ?_)
 refine (askK_of hall _).trans ?_
 simp only [ND]
 refine (br_eqT rfl).trans ?_
 refine (askK_of g _).trans ?_
 revert f
 rcases sumP ts vars kn 0 with ⟨j, e, l⟩
 intro f
 have hj : j ≤ ts.length := f.le
 have ha := at_ok K ts vars kn j (by omega) (by omega)
 simp only [cuB, ND]
 unfold wholeS endP ifOkL
 by_cases h0 : e = 0
 ·refine (br_eqT (by omega)).trans ?_
  refine (askK_of ha _).trans ?_
  simp only [eTk, cuB, ND]
  by_cases h5 : (nx ts j).kind = 5
  ·refine (br_eqT (by omega)).trans ?_
   refine (br_eqT (by omega)).trans ?_
   simp only [h0, h5, if_true]
   rfl
  ·refine (br_eqF (by omega)).trans ?_
   refine (br_eqF (by omega)).trans ?_
   refine (askK_of ha _).trans ?_
   simp only [eTk, cuB, ND, h0, h5, if_true, if_false]
   rfl
 ·refine (br_eqF (by omega)).trans ?_
  first | refine (br_eqF (by omega)).trans ?_ | skip
  refine (askK_of ha _).trans ?_
  simp only [eTk, cuB, ND, h0, if_false]
  rfl
set_option linter.unusedSectionVars false
variable (K : Knows ownC tabEa D) (Kb : Knows ownC tabEb D) (L : NameF D) (Kw : Knows ownC tabWa D) (Kx : Knows ownC tabWb D)
section
variable (A : LexA D)
include K Kb L Kw Kx A
theorem parseSum_ok (s : ByteArray) (hs : s.size ≤ 9223372036854775807) : D.ask (.fn 15) [sv s] [] = some (wholeS (psumP s.data.toList).1 (psumP s.data.toList).2, []) := by
 refine Kx.fn' hn15 _ rfl ((e15 ..).trans ?_)
 unfold psumP
 cases h : lexAll s.data.toList with
 | err c ln co =>
  have hc := (lexAll_facts s.data.toList).2 c ln co h
  have g := wholeS_err Kx s [] false _ ln co c hc (A.err s c ln co hs h)
  refine (askK_of g _).trans ?_
  unfold wholeS
  simp only [ND]
 | ok ts =>
  have f := (lexAll_facts s.data.toList).1 ts h
  have hn := lexAll_len h
  have g := wholeS_ok K L Kx s (f.toks (by omega)) [] false (by simp) (A.ok s ts hs h)
  refine (askK_of g _).trans ?_
  unfold wholeS
  simp only [ND]
theorem parseCond_ok (s : ByteArray) (hs : s.size ≤ 9223372036854775807) : D.ask (.fn 17) [sv s] [] = some (wholeA (pcondP s.data.toList).1 (pcondP s.data.toList).2, []) := by
 refine Kx.fn' hn17 _ rfl ((e17 ..).trans ?_)
 unfold pcondP
 cases h : lexAll s.data.toList with
 | err c ln co =>
  have hc := (lexAll_facts s.data.toList).2 c ln co h
  have g := whole_err Kw s [] false _ ln co c hc (A.err s c ln co hs h)
  refine (askK_of g _).trans ?_
  unfold wholeA ifOk
  simp only [hc, if_false, T0, eTr, ND]
 | ok ts =>
  have f := (lexAll_facts s.data.toList).1 ts h
  have hn := lexAll_len h
  have g := whole_ok K Kb L Kw s (f.toks (by omega)) [] false (by simp) (A.ok s ts hs h)
  refine (askK_of g _).trans ?_
  unfold wholeA
  rcases ifOk (endP ts (condP ts [] false 0).1 (condP ts [] false 0).2.1).2.2 (condP ts [] false 0).2.2 with ⟨k, l, r, o, p, q, ks⟩
  simp only [eTr, ND]
end
variable (Kr : Knows ownC tabRa D) (R : RNameF D) (Ky : Knows ownC tabRb D) (A : LexF D)
include Kr R Ky A
end
end Go.Proofs.YtlmhajfbpplpoaaGreat
