/-
  Layer 11's alive answers true.
  ExprParses' law: what the program parses, the reference parses.
-/
import Derived.Test.YtlmhajfbpplpoaaGreatZBH
import Derived.Test.YtlmhajfbpplpoaaGreatZBD
import Derived.Test.YtlmhajfbpplpoaaGreatZBG
set_option linter.unusedSectionVars false
set_option linter.unusedSimpArgs false
set_option linter.unusedVariables false
namespace Go.Proofs.YtlmhajfbpplpoaaGreat
open Go.RowKit

theorem chkTerm_of {o : Option (AV × List BO)} (h : chkTerm o = true) : ∃ xs a b, o = some (.tup [.agg [.ls xs, bv a, .ls b], bv true], []) ∧ lenR xs = 1 := by
 unfold chkTerm at h
 split at h
 ·exact ⟨_, _, _, rfl, Nat.eq_of_beq_eq_true h⟩
 ·cases h
theorem chkForm_of {o : Option (AV × List BO)} (h : chkForm o = true) : ∃ a b c d e, o = some (.tup [.agg [iv 4, .ls a, bv b, .ls c, bv d, .ls e], bv true], []) := by
 unfold chkForm at h
 split at h
 ·exact ⟨_, _, _, _, _, rfl⟩
 ·cases h
theorem isLs_of {l : List UInt8} {o : Option (AV × List BO)} (h : isLs l o = true) : o = some (sv (bstr l), []) := by
 unfold isLs at h
 split at h
 ·rename_i s
  have : s.data.toList = l := by simpa using h
  subst this
  unfold sv bstr
  rfl
 ·cases h
theorem isT_of {o : Option (AV × List BO)} (h : isT' o = true) : o = some (bv true, []) := by
 unfold isT' at h
 split at h
 ·rfl
 ·cases h
theorem nthK_cons (x : List AV) (r : List (List AV)) (k : List AV → KR) : nthK (x :: r) 0 k = k x := rfl
section
variable {D : Orc}
set_option maxRecDepth 100000 in
theorem alive_ok (K : Knows ownC tabEa D) (Kb : Knows ownC tabEb D) (L : NameF D) (Kr : Knows ownC tabRa D) (R : RNameF D) (Kw : Knows ownC tabWa D) (Kx : Knows ownC tabWb D) (Ky : Knows ownC tabRb D) (A : LexF D) (Kv : Knows ownC tabAv D)
  (hD : ∀ f ∈ [44, 27, 25, 24, 23, 45, 46, 47], ∀ args r, DAk.ask (.fn f) args [] = some r → D.ask (.fn f) args [] = some r)
  (hS : D.ask (.fn 22) [.ls (ms1.map eMo)] [] = some (sv (bstr s3), [])) : D.ask (.fn 14) [] [] = some (bv true, []) := by
 obtain ⟨tx, ta, tb, hterm, tl⟩ := chkTerm_of k_term
 obtain ⟨f1, f2, f3, f4, f5, hform⟩ := chkForm_of k_form
 have a1 := parseCond_ok K Kb L Kr R Kw Kx Ky A (bstr s1) (by rw [bstr_size]; decide)
 have a2 := parseCond_ok K Kb L Kr R Kw Kx Ky A (bstr s2) (by rw [bstr_size]; decide)
 have a3 := parseSum_ok K Kb L Kr R Kw Kx Ky A (bstr s3) (by rw [bstr_size]; decide)
 rw [bstr_data] at a1 a2 a3
 rw [pc1, show wholeA t1 (0, 0, 0) = .tup [.agg (eTr t1), .agg [iv 0, iv 0], iv 0] from rfl] at a1
 rw [pc2, show wholeA T0 (1, 4, 101) = .tup [.agg (eTr T0), .agg [iv 1, iv 4], iv 101] from rfl] at a2
 rw [ps3, show wholeS ms1 (0, 0, 0) = .tup [.ls (ms1.map eMo), .agg [iv 0, iv 0], iv 0] from rfl] at a3
 have hterm := hD _ (by decide) _ _ hterm
 have hform := hD _ (by decide) _ _ hform
 have htext := hD 25 (by decide) _ _ (isLs_of k_text)
 have hright := hD 24 (by decide) _ _ (isT_of k_right)
 have hrs := hD 23 (by decide) _ _ (isT_of k_rightSum)
 have hbare := hD 45 (by decide) _ _ (isT_of k_bare)
 have hcmp := hD 46 (by decide) _ _ (isT_of k_compares)
 have hct := hD 47 (by decide) _ _ (isLs_of k_compareText)
 refine Kv.fn' hn14 _ rfl ((e14 ..).trans ?_)
 refine (askK_of a1 _).trans ?_
 simp only [t1, leafT, eTr, ND]
 refine (askK_of a2 _).trans ?_
 simp only [T0, eTr, ND]
 refine (askK_of a3 _).trans ?_
 simp only [ND]
 refine (br_eqT rfl).trans ?_
 refine (br_f _ _).trans ?_
 refine (br_eqT rfl).trans ?_
 refine (br_eqT rfl).trans ?_
 refine (br_eqT rfl).trans ?_
 refine (br_f _ _).trans ?_
 refine (br_eqT rfl).trans ?_
 refine (br_eqT rfl).trans ?_
 refine (askK_of hterm _).trans ?_
 simp only [ND]
 refine (askK_of hform _).trans ?_
 simp only [ND]
 refine (askK_of htext _).trans ?_
 simp only [ND]
 refine (br_seqT rfl).trans ?_
 refine (askK_of hS _).trans ?_
 simp only [ND]
 refine (br_seqT rfl).trans ?_
 refine (askK_of hright _).trans ?_
 simp only [ND]
 refine (askK_of hrs _).trans ?_
 simp only [ND]
 rw [tl]
 refine (br_eqT rfl).trans ?_
 refine (br_eqT rfl).trans ?_
 refine (askK_of hbare _).trans ?_
 simp only [eTrs_map, List.map_cons, nthK_cons, cmp1, eTr, ND]
 refine (askK_of hcmp _).trans ?_
 simp only [nthK_cons, ND]
 refine (askK_of hct _).trans ?_
 simp only [ND]
 refine (br_seqT rfl).trans ?_
 rfl
end
end Go.Proofs.YtlmhajfbpplpoaaGreat
namespace Go.Proofs.YtlmhajfbpplpoaaGreat
open Go.RowKit

theorem psumP_len (s : List UInt8) : (psumP s).1.length ≤ 64 := by
 unfold psumP
 split
 ·exact Nat.zero_le _
 ·exact sumP_len _ _ _ _
theorem pcondP_wf (s : List UInt8) : WfT (pcondP s).1 := by
 unfold pcondP
 split
 ·exact T0_wf
 ·exact condP_wf _ _ _ _
theorem band_same (a b : Int) : realA.band (realA.eq a a) (realA.band (realA.eq b b) true) = true := by
 rw [r_eq, r_eq, decide_eq_true rfl, decide_eq_true rfl]
 rfl
section
variable {D : Orc}
theorem parses_ok (K : Knows ownC tabEa D) (Kb : Knows ownC tabEb D) (L : NameF D) (Kr : Knows ownC tabRa D) (R : RNameF D) (Kw : Knows ownC tabWa D) (Kx : Knows ownC tabWb D) (Ky : Knows ownC tabRb D) (A : LexF D) (Kl : Knows ownC tabLb D)
  (ha : D.ask (.fn 14) [] [] = some (bv true, [])) (s : ByteArray) (hs : s.size ≤ 9223372036854775807) : D.ask (.fn 3) [sv s] [] = some (bv true, []) := by
 refine Kl.fn' hn3 _ rfl ((e3 ..).trans ?_)
 refine (askK_of ha _).trans ?_
 simp only [ND]
 refine (askK_of (parseSum_ok K Kb L Kr R Kw Kx Ky A s hs) _).trans ?_
 unfold wholeS
 simp only [ND]
 refine (askK_of (rparseSum_ok K Kb L Kr R Kw Kx Ky A s hs) _).trans ?_
 unfold wholeS
 simp only [ND]
 have g := parseCond_ok K Kb L Kr R Kw Kx Ky A s hs
 have g2 := rparseCond_ok K Kb L Kr R Kw Kx Ky A s hs
 have wf := pcondP_wf s.data.toList
 have wf2 : WfT (ifOk (pcondP s.data.toList).2.2.2 (pcondP s.data.toList).1) := by
  unfold ifOk
  split
  ·exact wf
  ·exact T0_wf
 unfold wholeA at g g2
 revert g g2 wf2
 rcases ifOk (pcondP s.data.toList).2.2.2 (pcondP s.data.toList).1 with ⟨k, l, r, o, p, q, ks⟩
 intro g g2 wf2
 simp only [eTr] at g g2
 refine (askK_of g _).trans ?_
 simp only [ND]
 refine (askK_of g2 _).trans ?_
 simp only [ND]
 refine (br_eqT rfl).trans ?_
 rw [band_same]
 refine (br_t _ _).trans ?_
 have hl : (ifOkL (psumP s.data.toList).2.2.2 (psumP s.data.toList).1).length < 4611686018427387904 := by
  have := psumP_len s.data.toList
  unfold ifOkL
  split
  ·omega
  ·simp
 refine (askK_of (samesum_ok Kr _ hl) _).trans ?_
 simp only [ND]
 refine (br_eqT rfl).trans ?_
 rw [band_same]
 refine (br_t _ _).trans ?_
 have g3 := same_ok Kr _ _ (Nat.lt_succ_self _) wf2
 simp only [eTr] at g3
 refine (askK_of g3 _).trans ?_
 simp only [ND]
end
end Go.Proofs.YtlmhajfbpplpoaaGreat
