/-
  Which trees are right; what they are as text. No program in sight.
  What expr's tests of trees come to.
  Layer 11's alive answers true.
-/
import Derived.Test.YtlmhajfbpplpoaaGreatWAV
import Derived.Test.YtlmhajfbpplpoaaGreatWBF
import Derived.Test.YtlmhajfbpplpoaaGreatWBB
set_option linter.unusedSectionVars false
set_option linter.unusedSimpArgs false
set_option linter.unusedVariables false
namespace Go.Proofs.YtlmhajfbpplpoaaGreat
open Go.RowKit

def Tr.kind : Tr → Int
 | .mk k _ _ _ _ _ _ => k
def Tr.kids : Tr → List Tr
 | .mk _ _ _ _ _ _ ks => ks
def bareB : Tr → Bool
 | .mk _ l r op p q _ => decide (l.length = 0) && decide (r.length = 0) && decide (op = 0) && decide (p = bstr []) && decide (q = bstr [])
def cmpB : Tr → Bool
 | .mk k l r op p q ks => decide (k = 2) && rsB l && rsB r && decide (0 ≤ op) && decide (op ≤ 5) && decide (p = bstr []) && decide (q = bstr []) && decide (ks.length = 0)
def arI (k : Int) : Int := if k = 0 then 0 else if k = 1 then 0 else if k = 3 then 1 else if k = 4 then 2 else if k = 5 then 2 else -1
def brk (p : Int) (i : Nat) (k : Int) : Bool := if p = 3 then decide (k = 4) || decide (k = 5) else if p = 4 then decide (k = 5) || (decide (i = 1) && decide (k = 4)) else if p = 5 then decide (i = 1) && decide (k = 5) else false
def upD (b : Bool) (d : Nat) : Nat := if b then d + 1 else d
mutual
def rightB : Tr → Nat → Bool
 | .mk k l r op p q ks, d => if k = 2 then cmpB (.mk k l r op p q ks) else bareB (.mk k l r op p q ks) && decide ((ks.length : Int) = arI k) && decide (upD (decide (k = 3)) d ≤ 60) && kidsB k (upD (decide (k = 3)) d) 0 ks
def kidsB (k : Int) (d : Nat) : Nat → List Tr → Bool
 | _, [] => true
 | i, x :: r => (decide (upD (brk k i x.kind) d ≤ 60) && rightB x (upD (brk k i x.kind) d)) && kidsB k d (i + 1) r
end
inductive WzT : Tr → Prop where
 | mk {k : Int} {l r : List Mo} {op : Int} {p q : ByteArray} {ks : List Tr} (hl : l.length < 4611686018427387904) (hr : r.length < 4611686018427387904) (hk : ks.length < 4611686018427387904)
  (zl : ∀ m ∈ l, m.num.size ≤ 9223372036854775807 ∧ m.var.size ≤ 9223372036854775807) (zr : ∀ m ∈ r, m.num.size ≤ 9223372036854775807 ∧ m.var.size ≤ 9223372036854775807) (h : ∀ x ∈ ks, WzT x) : WzT (.mk k l r op p q ks)
end Go.Proofs.YtlmhajfbpplpoaaGreat
namespace Go.Proofs.YtlmhajfbpplpoaaGreat
open Go.RowKit

section
variable {D : Orc}
variable (K : Knows ownC tabTa D)
include K
theorem bare_ok (t : Tr) : D.ask (.fn 45) [.agg (eTr t)] [] = some (bv (bareB t), []) := by
 obtain ⟨k, l, r, op, p, q, ks⟩ := t
 refine K.fn' hn45 _ rfl ((e45 ..).trans ?_)
 unfold bareB
 rw [lenR_map, lenR_map]
 simp only [r_eq, r_seq, br_if, decide_eq_true_eq, ci0]
 by_cases h1 : l.length = 0 <;> by_cases h2 : r.length = 0 <;> by_cases h3 : op = 0 <;> by_cases h4 : p = bstr [] <;> by_cases h5 : q = bstr [] <;> simp [h1, h2, h3, h4, h5]
theorem arity_ok (k : Int) : D.ask (.fn 110) [iv k] [] = some (iv (arI k), []) := by
 refine K.fn' hn110 _ rfl ((e110 ..).trans ?_)
 unfold arI
 simp only [r_eq, br_if, decide_eq_true_eq]
 repeat' split
 all_goals rfl
theorem bracketed_ok (p : Int) (i : Nat) (t : Tr) : D.ask (.fn 111) [iv p, iv (i : Int), .agg (eTr t)] [] = some (bv (brk p i t.kind), []) := by
 obtain ⟨k, l, r, op, q, v, ks⟩ := t
 refine K.fn' hn111 _ rfl ((e111 ..).trans ?_)
 unfold brk Tr.kind
 simp only [r_eq, br_if, decide_eq_true_eq, ci1]
 by_cases h1 : p = 3
 ·by_cases h2 : k = 4 <;> by_cases h3 : k = 5 <;> simp [h1, h2, h3]
 ·by_cases h4 : p = 4
  ·by_cases h2 : k = 4 <;> by_cases h3 : k = 5 <;> by_cases h5 : i = 1 <;> simp [h4, h2, h3, h5]
  ·by_cases h6 : p = 5
   ·by_cases h3 : k = 5 <;> by_cases h5 : i = 1 <;> simp [h6, h3, h5]
   ·simp [h1, h4, h6]
theorem treecmp_ok (L : LexN D) (t : Tr) (hz : WzT t) : D.ask (.fn 46) [.agg (eTr t)] [] = some (bv (cmpB t), []) := by
 obtain ⟨k, l, r, op, p, q, ks⟩ := t
 obtain ⟨hl, hr, hk, zl, zr, _⟩ := hz
 have g1 := rightSum_ok K L l zl hl
 have g2 := rightSum_ok K L r zr hr
 refine K.fn' hn46 _ rfl ((e46 ..).trans ?_)
 unfold cmpB
 rw [eTrs_map, lenR_map]
 by_cases h0 : k = 2
 ·refine (br_eqT h0).trans ?_
  refine (askK_of g1 _).trans ?_
  simp only [ND]
  cases rsB l with
  | false => simp [h0, ND]
  | true =>
   simp only [ND]
   refine (askK_of g2 _).trans ?_
   simp only [ND]
   cases rsB r with
   | false => simp [h0, ND]
   | true =>
    simp only [ND, r_le, r_eq, r_seq, br_if, decide_eq_true_eq, ci0]
    by_cases h3 : 0 ≤ op <;> by_cases h4 : op ≤ 5 <;> by_cases h5 : p = bstr [] <;> by_cases h6 : q = bstr [] <;> by_cases h7 : ks.length = 0 <;> simp [h0, h3, h4, h5, h6, h7]
 ·refine (br_eqF h0).trans ?_
  simp [h0]
omit K in
theorem kids_mem {x : Tr} {ks : List Tr} (h : x ∈ ks) : SizeOf.sizeOf x < SizeOf.sizeOf ks := List.sizeOf_lt_of_mem h
def boxT (t : Tr) : ABlk := ABlk.mk (eTr t) true false
theorem right_lp (t : Tr) (d : Nat) (hd : d ≤ 60) (ks : List Tr) (hk : ks.length < 4611686018427387904) (g : ∀ x ∈ ks, ∀ d : Nat, d ≤ 60 → D.ask (.fn 62) [.agg (eTr x), iv (d : Int)] [] = some (bv (rightB x d), [])) : ∀ (n i : Nat), ks.length - i = n →
  D.ask (.lp 62 0) [iv (d : Int), .ptr 0 0, .ls (ks.map eTr), iv (ks.length : Int), iv (i : Int)] [boxT t] = some (if kidsB t.kind d i (ks.drop i) then .tup [iv 0] else .tup [bv true, bv false], [.del]) := by
 intro n
 obtain ⟨k, l, r, op, p, q, kz⟩ := t
 induction n with
 | zero =>
  intro i hi
  refine K.lp' hn62 _ rfl (by kernel_rfl) ((e62_0 ..).trans ?_)
  rw [show ks.drop i = [] from List.drop_eq_nil_of_le (by omega)]
  refine (br_ltF (by omega)).trans ?_
  rfl
 | succ n ih =>
  intro i hi
  have hlt : i < ks.length := by omega
  have ih := ih (i + 1) (by omega)
  rw [show ks.drop i = ks[i] :: ks.drop (i + 1) from List.drop_eq_getElem_cons hlt]
  have gx := g ks[i] (List.getElem_mem hlt)
  have hb := bracketed_ok K k i ks[i]
  refine K.lp' hn62 _ rfl (by kernel_rfl) ((e62_0 ..).trans ?_)
  refine (br_ltT (by omega)).trans ?_
  rw [unI_n, nthK_some (List.getElem?_eq_getElem hlt)]
  revert gx hb
  generalize ks[i] = x
  obtain ⟨xk, xl, xr, xo, xp, xq, xs⟩ := x
  intro gx hb
  unfold kidsB Tr.kind
  unfold Tr.kind at hb ih
  simp only [eTr, ND]
  refine (askK_of hb _).trans ?_
  simp only [ND]
  have tl : ∀ (b : Bool), (if b = true then kidsB k d (i + 1) (ks.drop (i + 1)) = true else False) → True := fun _ _ => trivial
  cases hbk : brk k i xk with
  | true =>
   refine (br_t _ _).trans ?_
   rw [add1 (by omega)]
   by_cases h60 : d + 1 ≤ 60
   ·refine (br_ltF (by omega)).trans ?_
    refine (askK_of (gx (d + 1) h60) _).trans ?_
    simp only [ND]
    rw [show upD true d = d + 1 from rfl, decide_eq_true h60, Bool.true_and]
    cases rightB (.mk xk xl xr xo xp xq xs) (d + 1) with
    | false => rfl
    | true =>
     refine (br_t _ _).trans ?_
     rw [add1 (by omega)]
     refine (askK_of ih _).trans ?_
     rw [Bool.true_and]
     cases kidsB k d (i + 1) (ks.drop (i + 1)) <;> rfl
   ·refine (br_ltT (by omega)).trans ?_
    rw [show upD true d = d + 1 from rfl, decide_eq_false h60, Bool.false_and, Bool.false_and]
    rfl
  | false =>
   refine (br_f _ _).trans ?_
   refine (br_ltF (by omega)).trans ?_
   refine (askK_of (gx d hd) _).trans ?_
   simp only [ND]
   rw [show upD false d = d from rfl, decide_eq_true hd, Bool.true_and]
   cases rightB (.mk xk xl xr xo xp xq xs) d with
   | false => rfl
   | true =>
    refine (br_t _ _).trans ?_
    rw [add1 (by omega)]
    refine (askK_of ih _).trans ?_
    rw [Bool.true_and]
    cases kidsB k d (i + 1) (ks.drop (i + 1)) <;> rfl
theorem right_ok (L : LexN D) : ∀ (n : Nat) (t : Tr), SizeOf.sizeOf t < n → WzT t → ∀ d : Nat, d ≤ 60 → D.ask (.fn 62) [.agg (eTr t), iv (d : Int)] [] = some (bv (rightB t d), []) := by
 intro n
 induction n with
 | zero => intro t h; omega
 | succ n ih =>
  intro t ht hz d hd
  have gb := bare_ok K t
  have gc := treecmp_ok K L t hz
  obtain ⟨k, l, r, op, p, q, ks⟩ := t
  obtain ⟨hl, hr, hk, zl, zr, hx⟩ := hz
  have ga := arity_ok K k
  have gk : ∀ x ∈ ks, ∀ d : Nat, d ≤ 60 → D.ask (.fn 62) [.agg (eTr x), iv (d : Int)] [] = some (bv (rightB x d), []) := fun x hm d hd => ih x (by
   have h1 := kids_mem hm
   simp only [Tr.mk.sizeOf_spec] at ht
   omega) (hx x hm) d hd
  have glp := fun (d : Nat) (hd : d ≤ 60) => right_lp K (.mk k l r op p q ks) d hd ks hk gk _ 0 rfl
  simp only [List.drop_zero, Tr.kind, boxT, eTr] at glp
  refine K.fn' hn62 _ rfl ((e62 ..).trans ?_)
  unfold rightB
  rw [eTrs_map] at glp ⊢
  rw [lenR_map]
  simp only [eTr, eTrs_map] at gb gc
  by_cases h2 : k = 2
  ·refine (br_eqT h2).trans ?_
   refine (askK_of gc _).trans ?_
   simp only [ND]
   rw [if_pos h2]
   cases cmpB (.mk k l r op p q ks) <;> rfl
  ·refine (br_eqF h2).trans ?_
   rw [if_neg h2]
   have fin : ∀ (d : Nat), d ≤ 61 → ∀ (X : KR), (d ≤ 60 → X = some (bv (kidsB k d 0 ks), [])) → br (realA.lt 60 (d : Int)) (some (bv false, [])) X = some (bv (decide (d ≤ 60) && kidsB k d 0 ks), []) := fun d h61 X hX => by
    by_cases h : d ≤ 60
    ·refine (br_ltF (by omega)).trans ?_
     rw [hX h, decide_eq_true h, Bool.true_and]
    ·refine (br_ltT (by omega)).trans ?_
     rw [decide_eq_false h, Bool.false_and]
   by_cases h3 : k = 3
   ·refine (br_eqT h3).trans ?_
    refine (askK_of gb _).trans ?_
    simp only [ND]
    cases bareB (.mk k l r op p q ks) with
    | false => rfl
    | true =>
     refine (br_t _ _).trans ?_
     refine (askK_of ga _).trans ?_
     simp only [ND]
     by_cases h4 : (ks.length : Int) = arI k
     ·refine (br_eqT h4).trans ?_
      rw [decide_eq_true h4, Bool.true_and, Bool.true_and, decide_eq_true h3, add1 (by omega)]
      refine fin (d + 1) (by omega) _ fun h => ?_
      refine (askK_of (glp (d + 1) h) _).trans ?_
      cases kidsB k (d + 1) 0 ks <;> rfl
     ·refine (br_eqF h4).trans ?_
      rw [decide_eq_false h4, Bool.true_and, Bool.false_and, Bool.false_and]
   ·refine (br_eqF h3).trans ?_
    refine (askK_of gb _).trans ?_
    simp only [ND]
    cases bareB (.mk k l r op p q ks) with
    | false => rfl
    | true =>
     refine (br_t _ _).trans ?_
     refine (askK_of ga _).trans ?_
     simp only [ND]
     by_cases h4 : (ks.length : Int) = arI k
     ·refine (br_eqT h4).trans ?_
      rw [decide_eq_true h4, Bool.true_and, Bool.true_and, decide_eq_false h3]
      refine fin d (by omega) _ fun h => ?_
      refine (askK_of (glp d h) _).trans ?_
      cases kidsB k d 0 ks <;> rfl
     ·refine (br_eqF h4).trans ?_
      rw [decide_eq_false h4, Bool.true_and, Bool.false_and, Bool.false_and]
theorem Right_ok (L : LexN D) (t : Tr) (hz : WzT t) : D.ask (.fn 24) [.agg (eTr t)] [] = some (bv (rightB t 0), []) := by
 have g := right_ok K L _ t (Nat.lt_succ_self _) hz 0 (by omega)
 obtain ⟨k, l, r, op, p, q, ks⟩ := t
 refine K.fn' hn24 _ rfl ((e24 ..).trans ?_)
 refine (askK_of g _).trans ?_
 simp only [ND]
 cases rightB (.mk k l r op p q ks) 0 <;> rfl
end
end Go.Proofs.YtlmhajfbpplpoaaGreat
namespace Go.Proofs.YtlmhajfbpplpoaaGreat
open Go.RowKit

theorem chkTerm_of {o : Option (AV × List BO)} (h : chkTerm o = true) : ∃ xs a b, o = some (.tup [.agg [.ls xs, bv a, .ls b], bv true], []) ∧ lenR xs = 1 := by
 unfold chkTerm at h
 split at h
 ·exact ⟨_, _, _, rfl, Nat.eq_of_beq_eq_true h⟩
 ·cases h
theorem chkForm_of {o : Option (AV × List BO)} (h : chkForm o = true) : ∃ a b c d e, o = some (.tup [.agg [iv 4, .ls a, bv b, .ls c, bv d, .ls e], bv true], []) := by
 unfold chkForm at h
 split at h
 ·exact ⟨_, _, _, _, _, rfl⟩
 ·cases h
theorem nthK_cons (x : List AV) (r : List (List AV)) (k : List AV → KR) : nthK (x :: r) 0 k = k x := rfl
structure AlF (D : Orc) : Prop where
 term : ∃ xs a b, D.ask (.fn 44) [.ls (ms1.map eMo), .ls [[sv (bstr [120])]]] [] = some (.tup [.agg [.ls xs, bv a, .ls b], bv true], []) ∧ lenR xs = 1
 form : ∃ a b c d e, D.ask (.fn 27) [.agg (eTr t1), .ls [[sv (bstr [120])], [sv (bstr [121])], [sv (bstr [97])]]] [] = some (.tup [.agg [iv 4, .ls a, bv b, .ls c, bv d, .ls e], bv true], [])
 text : D.ask (.fn 25) [.agg (eTr t1)] [] = some (sv (bstr s1), [])
 sumText : D.ask (.fn 22) [.ls (ms1.map eMo)] [] = some (sv (bstr s3), [])
 right : D.ask (.fn 24) [.agg (eTr t1)] [] = some (bv true, [])
 rightSum : D.ask (.fn 23) [.ls (ms1.map eMo)] [] = some (bv true, [])
 bare : D.ask (.fn 45) [.agg (eTr t1)] [] = some (bv true, [])
 cmp : D.ask (.fn 46) [.agg (eTr cmp1)] [] = some (bv true, [])
 ct : D.ask (.fn 47) [.agg (eTr cmp1)] [] = some (sv (bstr s4), [])
section
variable {D : Orc}
set_option maxRecDepth 100000 in
theorem alive_ok (K : Knows ownC tabEa D) (Kb : Knows ownC tabEb D) (L : NameF D) (Kw : Knows ownC tabWa D) (Kx : Knows ownC tabWb D) (A : LexA D) (Kv : Knows ownC tabAv D) (F : AlF D) : D.ask (.fn 14) [] [] = some (bv true, []) := by
 obtain ⟨tx, ta, tb, hterm, tl⟩ := F.term
 obtain ⟨f1, f2, f3, f4, f5, hform⟩ := F.form
 have a1 := parseCond_ok K Kb L Kw Kx A (bstr s1) (by rw [bstr_size]; decide)
 have a2 := parseCond_ok K Kb L Kw Kx A (bstr s2) (by rw [bstr_size]; decide)
 have a3 := parseSum_ok K Kb L Kw Kx A (bstr s3) (by rw [bstr_size]; decide)
 rw [bstr_data] at a1 a2 a3
 rw [pc1, show wholeA t1 (0, 0, 0) = .tup [.agg (eTr t1), .agg [iv 0, iv 0], iv 0] from rfl] at a1
 rw [pc2, show wholeA T0 (1, 4, 101) = .tup [.agg (eTr T0), .agg [iv 1, iv 4], iv 101] from rfl] at a2
 rw [ps3, show wholeS ms1 (0, 0, 0) = .tup [.ls (ms1.map eMo), .agg [iv 0, iv 0], iv 0] from rfl] at a3
 have hS := F.sumText
 have htext := F.text
 have hright := F.right
 have hrs := F.rightSum
 have hbare := F.bare
 have hcmp := F.cmp
 have hct := F.ct
 refine Kv.fn' hn14 _ rfl ((e14 ..).trans ?_)
 refine (askK_of a1 _).trans ?_
 simp only [t1, leafT, eTr, ND]
 refine (askK_of a2 _).trans ?_
 simp only [T0, eTr, ND]
 refine (askK_of a3 _).trans ?_
 simp only [ND]
 refine (br_eqT rfl).trans ?_
 refine (br_f _ _).trans ?_
 refine (br_eqT rfl).trans ?_
 refine (br_eqT rfl).trans ?_
 refine (br_eqT rfl).trans ?_
 refine (br_f _ _).trans ?_
 refine (br_eqT rfl).trans ?_
 refine (br_eqT rfl).trans ?_
 refine (askK_of hterm _).trans ?_
 simp only [ND]
 refine (askK_of hform _).trans ?_
 simp only [ND]
 refine (askK_of htext _).trans ?_
 simp only [ND]
 refine (br_seqT rfl).trans ?_
 refine (askK_of hS _).trans ?_
 simp only [ND]
 refine (br_seqT rfl).trans ?_
 refine (askK_of hright _).trans ?_
 simp only [ND]
 refine (askK_of hrs _).trans ?_
 simp only [ND]
 rw [tl]
 refine (br_eqT rfl).trans ?_
 refine (br_eqT rfl).trans ?_
 refine (askK_of hbare _).trans ?_
 simp only [eTrs_map, List.map_cons, nthK_cons, cmp1, eTr, ND]
 refine (askK_of hcmp _).trans ?_
 simp only [nthK_cons, ND]
 refine (askK_of hct _).trans ?_
 simp only [ND]
 refine (br_seqT rfl).trans ?_
 rfl
end
theorem m2_wz (n : Bool) (a b : List UInt8) (h1 : a.length ≤ 100) (h2 : b.length ≤ 100) : (m2 n a b).num.size ≤ 9223372036854775807 ∧ (m2 n a b).var.size ≤ 9223372036854775807 := by
 unfold m2
 simp only [bstr_size]
 omega
theorem cmp1_wz : WzT cmp1 := .mk (by decide) (by decide) (by decide) (by
  intro m h
  simp only [List.mem_cons, List.not_mem_nil, or_false] at h
  rcases h with rfl | rfl <;> exact m2_wz _ _ _ (by decide) (by decide)) (by
  intro m h
  simp only [List.mem_cons, List.not_mem_nil, or_false] at h
  rcases h with rfl; exact m2_wz _ _ _ (by decide) (by decide)) (by simp)
theorem cmp2_wz : WzT cmp2 := .mk (by decide) (by decide) (by decide) (by
  intro m h
  simp only [List.mem_cons, List.not_mem_nil, or_false] at h
  rcases h with rfl; exact m2_wz _ _ _ (by decide) (by decide)) (by
  intro m h
  simp only [List.mem_cons, List.not_mem_nil, or_false] at h
  rcases h with rfl; exact m2_wz _ _ _ (by decide) (by decide)) (by simp)
theorem leafT_wz (k : Int) (ks : List Tr) (h0 : ks.length ≤ 10) (h : ∀ x ∈ ks, WzT x) : WzT (leafT k ks) := .mk (by simp) (by simp) (by omega) (by simp) (by simp) h
theorem t1_wz : WzT t1 := leafT_wz _ _ (by decide) (by
 intro x h
 simp only [List.mem_cons, List.not_mem_nil, or_false] at h
 rcases h with rfl | rfl
 ·exact cmp1_wz
 ·refine leafT_wz _ _ (by decide) ?_
  intro x h
  simp only [List.mem_cons, List.not_mem_nil, or_false] at h
  subst h
  refine leafT_wz _ _ (by decide) ?_
  intro x h
  simp only [List.mem_cons, List.not_mem_nil, or_false] at h
  rcases h with rfl | rfl
  ·exact cmp2_wz
  ·exact leafT_wz _ _ (by decide) (by simp))
end Go.Proofs.YtlmhajfbpplpoaaGreat
