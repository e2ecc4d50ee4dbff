/-
  Which trees are right; what they are as text. No program in sight.
  What expr's tests of trees come to.
  Layer 11's alive answers true.
  ExprParses' law: what the program parses, the reference parses.
-/
import Derived.Test.YtlmhajfbpplpoaaGreatZAW
import Derived.Test.YtlmhajfbpplpoaaGreatZBG
import Derived.Test.YtlmhajfbpplpoaaGreatZBC
import Derived.Test.YtlmhajfbpplpoaaGreatZBF
set_option linter.unusedSectionVars false
set_option linter.unusedSimpArgs false
set_option linter.unusedVariables false
namespace Go.Proofs.YtlmhajfbpplpoaaGreat
open Go.RowKit

def Tr.kind : Tr → Int
 | .mk k _ _ _ _ _ _ => k
def Tr.kids : Tr → List Tr
 | .mk _ _ _ _ _ _ ks => ks
def bareB : Tr → Bool
 | .mk _ l r op p q _ => decide (l.length = 0) && decide (r.length = 0) && decide (op = 0) && decide (p = bstr []) && decide (q = bstr [])
def cmpB : Tr → Bool
 | .mk k l r op p q ks => decide (k = 2) && rsB l && rsB r && decide (0 ≤ op) && decide (op ≤ 5) && decide (p = bstr []) && decide (q = bstr []) && decide (ks.length = 0)
def arI (k : Int) : Int := if k = 0 then 0 else if k = 1 then 0 else if k = 3 then 1 else if k = 4 then 2 else if k = 5 then 2 else -1
def brk (p : Int) (i : Nat) (k : Int) : Bool := if p = 3 then decide (k = 4) || decide (k = 5) else if p = 4 then decide (k = 5) || (decide (i = 1) && decide (k = 4)) else if p = 5 then decide (i = 1) && decide (k = 5) else false
def upD (b : Bool) (d : Nat) : Nat := if b then d + 1 else d
mutual
def rightB : Tr → Nat → Bool
 | .mk k l r op p q ks, d => if k = 2 then cmpB (.mk k l r op p q ks) else bareB (.mk k l r op p q ks) && decide ((ks.length : Int) = arI k) && decide (upD (decide (k = 3)) d ≤ 60) && kidsB k (upD (decide (k = 3)) d) 0 ks
def kidsB (k : Int) (d : Nat) : Nat → List Tr → Bool
 | _, [] => true
 | i, x :: r => (decide (upD (brk k i x.kind) d ≤ 60) && rightB x (upD (brk k i x.kind) d)) && kidsB k d (i + 1) r
end
inductive WzT : Tr → Prop where
 | mk {k : Int} {l r : List Mo} {op : Int} {p q : ByteArray} {ks : List Tr} (hl : l.length < 4611686018427387904) (hr : r.length < 4611686018427387904) (hk : ks.length < 4611686018427387904)
  (zl : ∀ m ∈ l, m.num.size ≤ 9223372036854775807 ∧ m.var.size ≤ 9223372036854775807) (zr : ∀ m ∈ r, m.num.size ≤ 9223372036854775807 ∧ m.var.size ≤ 9223372036854775807) (h : ∀ x ∈ ks, WzT x) : WzT (.mk k l r op p q ks)
end Go.Proofs.YtlmhajfbpplpoaaGreat
namespace Go.Proofs.YtlmhajfbpplpoaaGreat
open Go.RowKit

section
variable {D : Orc}
variable (K : Knows ownC tabTa D)
include K
end
end Go.Proofs.YtlmhajfbpplpoaaGreat
namespace Go.Proofs.YtlmhajfbpplpoaaGreat
open Go.RowKit

theorem chkTerm_of {o : Option (AV × List BO)} (h : chkTerm o = true) : ∃ xs a b, o = some (.tup [.agg [.ls xs, bv a, .ls b], bv true], []) ∧ lenR xs = 1 := by
 unfold chkTerm at h
 split at h
 ·exact ⟨_, _, _, rfl, Nat.eq_of_beq_eq_true h⟩
 ·cases h
theorem chkForm_of {o : Option (AV × List BO)} (h : chkForm o = true) : ∃ a b c d e, o = some (.tup [.agg [iv 4, .ls a, bv b, .ls c, bv d, .ls e], bv true], []) := by
 unfold chkForm at h
 split at h
 ·exact ⟨_, _, _, _, _, rfl⟩
 ·cases h
theorem isLs_of {l : List UInt8} {o : Option (AV × List BO)} (h : isLs l o = true) : o = some (sv (bstr l), []) := by
 unfold isLs at h
 split at h
 ·rename_i s
  have : s.data.toList = l := by simpa using h
  subst this
  unfold sv bstr
  rfl
 ·cases h
theorem isT_of {o : Option (AV × List BO)} (h : isT' o = true) : o = some (bv true, []) := by
 unfold isT' at h
 split at h
 ·rfl
 ·cases h
theorem nthK_cons (x : List AV) (r : List (List AV)) (k : List AV → KR) : nthK (x :: r) 0 k = k x := rfl
structure AlF (D : Orc) : Prop where
 term : ∃ xs a b, D.ask (.fn 44) [.ls (ms1.map eMo), .ls [[sv (bstr [120])]]] [] = some (.tup [.agg [.ls xs, bv a, .ls b], bv true], []) ∧ lenR xs = 1
 form : ∃ a b c d e, D.ask (.fn 27) [.agg (eTr t1), .ls [[sv (bstr [120])], [sv (bstr [121])], [sv (bstr [97])]]] [] = some (.tup [.agg [iv 4, .ls a, bv b, .ls c, bv d, .ls e], bv true], [])
 text : D.ask (.fn 25) [.agg (eTr t1)] [] = some (sv (bstr s1), [])
 sumText : D.ask (.fn 22) [.ls (ms1.map eMo)] [] = some (sv (bstr s3), [])
 right : D.ask (.fn 24) [.agg (eTr t1)] [] = some (bv true, [])
 rightSum : D.ask (.fn 23) [.ls (ms1.map eMo)] [] = some (bv true, [])
 bare : D.ask (.fn 45) [.agg (eTr t1)] [] = some (bv true, [])
 cmp : D.ask (.fn 46) [.agg (eTr cmp1)] [] = some (bv true, [])
 ct : D.ask (.fn 47) [.agg (eTr cmp1)] [] = some (sv (bstr s4), [])
section
variable {D : Orc}
set_option maxRecDepth 100000 in
theorem alive_ok (K : Knows ownC tabEa D) (Kb : Knows ownC tabEb D) (L : NameF D) (Kw : Knows ownC tabWa D) (Kx : Knows ownC tabWb D) (A : LexA D) (Kv : Knows ownC tabAv D) (F : AlF D) : D.ask (.fn 14) [] [] = some (bv true, []) := by
 obtain ⟨tx, ta, tb, hterm, tl⟩ := F.term
 obtain ⟨f1, f2, f3, f4, f5, hform⟩ := F.form
 have a1 := parseCond_ok K Kb L Kw Kx A (bstr s1) (by rw [bstr_size]; decide)
 have a2 := parseCond_ok K Kb L Kw Kx A (bstr s2) (by rw [bstr_size]; decide)
 have a3 := parseSum_ok K Kb L Kw Kx A (bstr s3) (by rw [bstr_size]; decide)
 rw [bstr_data] at a1 a2 a3
 rw [pc1, show wholeA t1 (0, 0, 0) = .tup [.agg (eTr t1), .agg [iv 0, iv 0], iv 0] from rfl] at a1
 rw [pc2, show wholeA T0 (1, 4, 101) = .tup [.agg (eTr T0), .agg [iv 1, iv 4], iv 101] from rfl] at a2
 rw [ps3, show wholeS ms1 (0, 0, 0) = .tup [.ls (ms1.map eMo), .agg [iv 0, iv 0], iv 0] from rfl] at a3
 have hS := F.sumText
 have htext := F.text
 have hright := F.right
 have hrs := F.rightSum
 have hbare := F.bare
 have hcmp := F.cmp
 have hct := F.ct
 refine Kv.fn' hn14 _ rfl ((e14 ..).trans ?_)
 refine (askK_of a1 _).trans ?_
 simp only [t1, leafT, eTr, ND]
 refine (askK_of a2 _).trans ?_
 simp only [T0, eTr, ND]
 refine (askK_of a3 _).trans ?_
 simp only [ND]
 refine (br_eqT rfl).trans ?_
 refine (br_f _ _).trans ?_
 refine (br_eqT rfl).trans ?_
 refine (br_eqT rfl).trans ?_
 refine (br_eqT rfl).trans ?_
 refine (br_f _ _).trans ?_
 refine (br_eqT rfl).trans ?_
 refine (br_eqT rfl).trans ?_
 refine (askK_of hterm _).trans ?_
 simp only [ND]
 refine (askK_of hform _).trans ?_
 simp only [ND]
 refine (askK_of htext _).trans ?_
 simp only [ND]
 refine (br_seqT rfl).trans ?_
 refine (askK_of hS _).trans ?_
 simp only [ND]
 refine (br_seqT rfl).trans ?_
 refine (askK_of hright _).trans ?_
 simp only [ND]
 refine (askK_of hrs _).trans ?_
 simp only [ND]
 rw [tl]
 refine (br_eqT rfl).trans ?_
 refine (br_eqT rfl).trans ?_
 refine (askK_of hbare _).trans ?_
 simp only [eTrs_map, List.map_cons, nthK_cons, cmp1, eTr, ND]
 refine (askK_of hcmp _).trans ?_
 simp only [nthK_cons, ND]
 refine (askK_of hct _).trans ?_
 simp only [ND]
 refine (br_seqT rfl).trans ?_
 rfl
end
end Go.Proofs.YtlmhajfbpplpoaaGreat
namespace Go.Proofs.YtlmhajfbpplpoaaGreat
open Go.RowKit

theorem psumP_len (s : List UInt8) : (psumP s).1.length ≤ 64 := by
 unfold psumP
 split
 ·exact Nat.zero_le _
 ·exact sumP_len _ _ _ _
theorem pcondP_wf (s : List UInt8) : WfT (pcondP s).1 := by
 unfold pcondP
 split
 ·exact T0_wf
 ·exact condP_wf _ _ _ _
theorem band_same (a b : Int) : realA.band (realA.eq a a) (realA.band (realA.eq b b) true) = true := by
 rw [r_eq, r_eq, decide_eq_true rfl, decide_eq_true rfl]
 rfl
section
variable {D : Orc}
theorem parses_ok (K : Knows ownC tabEa D) (Kb : Knows ownC tabEb D) (L : NameF D) (Kr : Knows ownC tabRa D) (R : RNameF D) (Kw : Knows ownC tabWa D) (Kx : Knows ownC tabWb D) (Ky : Knows ownC tabRb D) (A : LexF D) (Ks : Knows ownC tabSa D) (Kl : Knows ownC tabLb D)
  (ha : D.ask (.fn 14) [] [] = some (bv true, [])) (s : ByteArray) (hs : s.size ≤ 9223372036854775807) : D.ask (.fn 3) [sv s] [] = some (bv true, []) := by
 refine Kl.fn' hn3 _ rfl ((e3 ..).trans ?_)
 refine (askK_of ha _).trans ?_
 simp only [ND]
 refine (askK_of (parseSum_ok K Kb L Kw Kx A.toA s hs) _).trans ?_
 unfold wholeS
 simp only [ND]
 refine (askK_of (rparseSum_ok Kr R Ky A s hs) _).trans ?_
 unfold wholeS
 simp only [ND]
 have g := parseCond_ok K Kb L Kw Kx A.toA s hs
 have g2 := rparseCond_ok Kr R Ky A s hs
 have wf := pcondP_wf s.data.toList
 have wf2 : WfT (ifOk (pcondP s.data.toList).2.2.2 (pcondP s.data.toList).1) := by
  unfold ifOk
  split
  ·exact wf
  ·exact T0_wf
 unfold wholeA at g g2
 revert g g2 wf2
 rcases ifOk (pcondP s.data.toList).2.2.2 (pcondP s.data.toList).1 with ⟨k, l, r, o, p, q, ks⟩
 intro g g2 wf2
 simp only [eTr] at g g2
 refine (askK_of g _).trans ?_
 simp only [ND]
 refine (askK_of g2 _).trans ?_
 simp only [ND]
 refine (br_eqT rfl).trans ?_
 rw [band_same]
 refine (br_t _ _).trans ?_
 have hl : (ifOkL (psumP s.data.toList).2.2.2 (psumP s.data.toList).1).length < 4611686018427387904 := by
  have := psumP_len s.data.toList
  unfold ifOkL
  split
  ·omega
  ·simp
 refine (askK_of (samesum_ok Ks _ hl) _).trans ?_
 simp only [ND]
 refine (br_eqT rfl).trans ?_
 rw [band_same]
 refine (br_t _ _).trans ?_
 have g3 := same_ok Ks _ _ (Nat.lt_succ_self _) wf2
 simp only [eTr] at g3
 refine (askK_of g3 _).trans ?_
 simp only [ND]
end
end Go.Proofs.YtlmhajfbpplpoaaGreat
