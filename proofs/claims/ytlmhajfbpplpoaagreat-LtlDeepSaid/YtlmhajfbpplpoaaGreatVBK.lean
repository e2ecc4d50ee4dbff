/-
  Layer 14's alive: its parts, computed.
  Layer 14's laws: alive, few systems.
  Functions of the program as trees: what a call comes to.
  ExprParses' law: what the program parses, the reference parses.
  LtlDeep's law.
-/
import Derived.Test.YtlmhajfbpplpoaaGreatVAZ
import Derived.Test.YtlmhajfbpplpoaaGreatVBJ
import Derived.Test.YtlmhajfbpplpoaaGreatVBI
import Derived.Test.YtlmhajfbpplpoaaGreatVBA
import Derived.Test.YtlmhajfbpplpoaaGreatVAS
import Derived.Test.YtlmhajfbpplpoaaGreatVBE
set_option linter.unusedSectionVars false
set_option linter.unusedSimpArgs false
set_option linter.unusedVariables false
namespace Go.Proofs.YtlmhajfbpplpoaaGreat
open Go.RowKit

noncomputable def DAn : Orc := Dn realA seatAm 60
def sysY : Sy := ⟨[bstr [120], bstr [121]], [], 0, [], false, [], false, [], [⟨bstr [112], [bstr [97], bstr [98]], []⟩], []⟩
def q4cmp : Tr := .mk 2 [⟨false, bstr [], bstr [120]⟩] [⟨false, bstr [48], bstr []⟩] 4 (bstr []) (bstr []) []
def q4at : Tr := .mk 6 [] [] 0 (bstr [112]) (bstr [98]) []
def q4 : Tr := lmk 9 [lmk 7 [q4cmp, lmk 10 [q4at]]]
def q4bad : Tr := lmk 99 []
def s41 : List UInt8 := [71, 32, 40, 120, 32, 62, 32, 48, 32, 45, 62, 32, 70, 32, 64, 112, 46, 98, 41]
def s42 : List UInt8 := [120, 32, 61, 32, 49, 32, 85]
def s43 : List UInt8 := [64, 112, 46, 99]
set_option maxRecDepth 1000000
theorem p41 : lparseP s41 sysY.vars sysY.ps = (q4, 0, 0, 0) := by
 unfold lparseP
 rw [lexAllK_eq]
 kernel_rfl
theorem p42 : lparseP s42 sysY.vars sysY.ps = (T0, 1, 8, 101) := by
 unfold lparseP
 rw [lexAllK_eq]
 kernel_rfl
theorem p43 : lparseP s43 sysY.vars sysY.ps = (T0, 1, 4, 110) := by
 unfold lparseP
 rw [lexAllK_eq]
 kernel_rfl
def chkRes : Option (AV × List BO) → Bool
 | some (.tup [.agg [.v (.int .i64 9), .v (.int .i64 _), .ls _], .ls [_, [.v (.bool true), .v (.int .i64 _), .v (.int .i64 1), .v (.int .i64 _), .ls _, .v (.bool _), .ls _, .v (.bool _), .ls _]], .v (.bool true)], []) => true
 | _ => false
def chkNo : Option (AV × List BO) → Bool
 | some (.tup [.agg [.v (.int .i64 _), .v (.int .i64 _), .ls _], .ls _, .v (.bool false)], []) => true
 | _ => false
def isLs4 (l : List UInt8) : Option (AV × List BO) → Bool
 | some (.v (.string s), []) => s.data.toList == l
 | _ => false
theorem k_res : chkRes (DAn.ask (.fn 34) [.agg (eTr q4), .agg (eSy sysY)] []) = true := by kernel_rfl
theorem k_no : chkNo (DAn.ask (.fn 34) [.agg (eTr q4bad), .agg (eSy sysY)] []) = true := by kernel_rfl
theorem k_ltext : isLs4 s41 (DAn.ask (.fn 38) [.agg (eTr q4)] []) = true := by kernel_rfl
end Go.Proofs.YtlmhajfbpplpoaaGreat
namespace Go.Proofs.YtlmhajfbpplpoaaGreat
open Go.RowKit

theorem chkRes_of {o : Option (AV × List BO)} (h : chkRes o = true) : ∃ a b c d e f g i j k, o = some (.tup [.agg [iv 9, iv a, .ls b], .ls [c, [bv true, iv d, iv 1, iv e, .ls f, bv g, .ls i, bv j, .ls k]], bv true], []) := by
 unfold chkRes at h
 split at h
 ·exact ⟨_, _, _, _, _, _, _, _, _, _, rfl⟩
 ·cases h
theorem chkNo_of {o : Option (AV × List BO)} (h : chkNo o = true) : ∃ a b c d, o = some (.tup [.agg [iv a, iv b, .ls c], .ls d, bv false], []) := by
 unfold chkNo at h
 split at h
 ·exact ⟨_, _, _, _, rfl⟩
 ·cases h
theorem isLs4_of {l : List UInt8} {o : Option (AV × List BO)} (h : isLs4 l o = true) : o = some (sv (bstr l), []) := by
 unfold isLs4 at h
 split at h
 ·rename_i s
  have : s.data.toList = l := by simpa using h
  subst this
  rfl
 ·cases h
def fewB (y : Sy) : Bool := decide (y.vars.length ≤ 50) && decide (y.ps.length ≤ 12) && y.ps.all fun p => decide (p.locs.length ≤ 50)
structure FewY (y : Sy) : Prop where
 v : y.vars.length ≤ 50
 p : y.ps.length ≤ 12
 q : ∀ p ∈ y.ps, p.locs.length ≤ 50
theorem fewB_iff {y : Sy} : fewB y = true ↔ FewY y := by
 unfold fewB
 simp only [Bool.and_eq_true, decide_eq_true_eq, List.all_eq_true]
 exact ⟨fun ⟨⟨a, b⟩, c⟩ => ⟨a, b, c⟩, fun ⟨a, b, c⟩ => ⟨⟨a, b⟩, c⟩⟩
structure Al4F (D : Orc) : Prop where
 res : ∃ a b c d e f g i j k, D.ask (.fn 34) [.agg (eTr q4), .agg (eSy sysY)] [] = some (.tup [.agg [iv 9, iv a, .ls b], .ls [c, [bv true, iv d, iv 1, iv e, .ls f, bv g, .ls i, bv j, .ls k]], bv true], [])
 no : ∃ a b c d, D.ask (.fn 34) [.agg (eTr q4bad), .agg (eSy sysY)] [] = some (.tup [.agg [iv a, iv b, .ls c], .ls d, bv false], [])
 text : D.ask (.fn 38) [.agg (eTr q4)] [] = some (sv (bstr s41), [])
section
variable {D : Orc}
theorem sys_ok (Kv : Knows ownC tabAv4 D) : D.ask (.fn 42) [] [] = some (.agg (eSy sysY), []) :=
 Kv.fn' hn42 _ rfl ((e42 ..).trans rfl)
theorem few_lp (Kv : Knows ownC tabAv4 D) (ps : List Pr) (hp : ps.length < 4611686018427387904) : ∀ (k i : Nat), ps.length - i = k → D.ask (.lp 31 0) [.ls (ps.map ePr), iv (ps.length : Int), iv (i : Int)] []
  = some (if (ps.drop i).all (fun p => decide (p.locs.length ≤ 50)) then .tup [iv 0] else .tup [bv true, bv false], []) := by
 intro k
 induction k with
 | zero =>
  intro i hi
  refine Kv.lp' hn31 _ rfl (by kernel_rfl) ((e31_0 ..).trans ?_)
  rw [show ps.drop i = [] from List.drop_eq_nil_of_le (by omega)]
  refine (br_ltF (by omega)).trans ?_
  rfl
 | succ k ih =>
  intro i hi
  have hlt : i < ps.length := by omega
  have ih' := ih (i + 1) (by omega)
  rw [show ps.drop i = ps[i] :: ps.drop (i + 1) from List.drop_eq_getElem_cons hlt, List.all_cons]
  refine Kv.lp' hn31 _ rfl (by kernel_rfl) ((e31_0 ..).trans ?_)
  refine (br_ltT (by omega)).trans ?_
  rw [unI_n, nthK_some (List.getElem?_eq_getElem hlt)]
  simp only [ePr, ND, lenR_map]
  by_cases h : ps[i].locs.length ≤ 50
  ·refine (br_ltF (by omega)).trans ?_
   rw [decide_eq_true h, add1 (by omega), Bool.true_and]
   refine (askK_of ih' _).trans ?_
   cases (ps.drop (i + 1)).all (fun p => decide (p.locs.length ≤ 50)) <;> rfl
  ·refine (br_ltT (by omega)).trans ?_
   rw [decide_eq_false h, Bool.false_and]
   rfl
theorem sysY_few : FewY sysY := fewB_iff.1 rfl
theorem q4_wz : WzT q4 := by
 have z : (bstr []).size ≤ 9223372036854775807 := by decide
 have at' : WzT q4at := .mk (by simp) (by simp) (by simp) (by simp) (by simp) (by simp)
 have cm : WzT q4cmp := .mk (by simp) (by simp) (by simp) (by simp; exact ⟨by decide, by decide⟩) (by simp; exact ⟨by decide, by decide⟩) (by simp)
 have f : WzT (lmk 10 [q4at]) := .mk (by simp) (by simp) (by simp) (by simp) (by simp) (by simpa using at')
 have im : WzT (lmk 7 [q4cmp, lmk 10 [q4at]]) := .mk (by simp) (by simp) (by simp) (by simp) (by simp) (by intro x hx; rcases List.mem_cons.1 hx with rfl | hx; exact cm; rcases List.mem_cons.1 hx with rfl | hx; exact f; cases hx)
 exact .mk (by simp) (by simp) (by simp) (by simp) (by simp) (by simpa using im)
theorem q4_wp : WzP q4 := by
 have at' : WzP q4at := .mk (by decide) (by decide) (by simp)
 have cm : WzP q4cmp := .mk (by decide) (by decide) (by simp)
 have f : WzP (lmk 10 [q4at]) := .mk (by decide) (by decide) (by simpa using at')
 have im : WzP (lmk 7 [q4cmp, lmk 10 [q4at]]) := .mk (by decide) (by decide) (by intro x hx; rcases List.mem_cons.1 hx with rfl | hx; exact cm; rcases List.mem_cons.1 hx with rfl | hx; exact f; cases hx)
 exact .mk (by decide) (by decide) (by simpa using im)
set_option maxRecDepth 100000 in
theorem q4_right : lrightB q4 0 = true := by kernel_rfl
theorem nth_hd (a : List AV) (r : List (List AV)) (k : List AV → KR) : nthK (a :: r) 0 k = k a := rfl
theorem nth_sn (a b : List AV) (r : List (List AV)) (k : List AV → KR) : nthK (a :: b :: r) 1 k = k b := rfl
set_option maxRecDepth 100000 in
theorem alive4_ok (K : Knows ownC tabEa D) (Kb : Knows ownC tabEb D) (Kq : Knows ownC tabTq D) (Kr : Knows ownC tabTr D) (Kw : Knows ownC tabWa D) (L : NameF D) (A : LexA D) (Kl : Knows ownC tabTl D) (Kt : Knows ownC tabTa D) (N : LexN D) (Kv : Knows ownC tabAv4 D) (F : Al4F D) : D.ask (.fn 30) [] [] = some (bv true, []) := by
 have hf := sysY_few
 have par := fun (l : List UInt8) (hl : (bstr l).size ≤ 9223372036854775807) => lparse_ok K Kb Kq Kr Kw L sysY (by have := hf.v; omega) (by have := hf.p; omega) (fun p hp => by have := hf.q p hp; omega) A (bstr l) hl
 have g1 := par s41 (by decide)
 have g2 := par s42 (by decide)
 have g3 := par s43 (by decide)
 rw [bstr_data, p41] at g1
 rw [bstr_data, p42] at g2
 rw [bstr_data, p43] at g3
 have gs := sys_ok Kv
 obtain ⟨a, b, c, d, e, f, g, i, j, k, r1⟩ := F.res
 obtain ⟨a', b', c', d', r2⟩ := F.no
 have gr := lRight_ok Kl Kt N q4 q4_wz q4_wp
 rw [q4_right] at gr
 have gt := F.text
 obtain ⟨k7, hq⟩ : ∃ k7, eTr q4 = [iv 9, .ls [], .ls [], iv 0, sv (bstr []), sv (bstr []), .ls [[iv 7, .ls [], .ls [], iv 0, sv (bstr []), sv (bstr []), .ls k7]]] := ⟨_, rfl⟩
 have g1 : D.ask (.fn 32) [sv (bstr s41), .agg (eSy sysY)] [] = some (.tup [.agg (eTr q4), .agg [iv 0, iv 0], iv 0], []) := g1
 have g2 : D.ask (.fn 32) [sv (bstr s42), .agg (eSy sysY)] [] = some (.tup [.agg (eTr T0), .agg [iv 1, iv 8], iv 101], []) := g2
 have g3 : D.ask (.fn 32) [sv (bstr s43), .agg (eSy sysY)] [] = some (.tup [.agg (eTr T0), .agg [iv 1, iv 4], iv 110], []) := g3
 rw [hq] at g1 r1 gr gt
 refine Kv.fn' hn30 _ rfl ((e30 ..).trans ?_)
 refine (askK_of gs _).trans ?_
 simp only [eSy, ND]
 refine (askK_of g1 _).trans ?_
 simp only [ND]
 refine (askK_of gs _).trans ?_
 simp only [eSy, ND]
 refine (askK_of g2 _).trans ?_
 simp only [T0, eTr, ND]
 refine (askK_of gs _).trans ?_
 simp only [eSy, ND]
 refine (askK_of g3 _).trans ?_
 simp only [T0, eTr, ND]
 refine (br_eqT rfl).trans ?_
 refine (br_eqT rfl).trans ?_
 refine Eq.trans (nth_hd _ _ _) ?_
 simp only [ND]
 refine (br_eqT rfl).trans ?_
 refine (br_eqT rfl).trans ?_
 rw [show realA.not (realA.band (realA.eq 1 1) (realA.band (realA.eq 8 8) true)) = false from not_same 1 8]
 refine (br_f _ _).trans ?_
 refine (br_eqT rfl).trans ?_
 refine (askK_of gs _).trans ?_
 simp only [eSy, ND]
 refine (askK_of r1 _).trans ?_
 simp only [ND]
 refine (askK_of gs _).trans ?_
 simp only [eSy, ND]
 refine (askK_of r2 _).trans ?_
 simp only [ND]
 refine (askK_of gt _).trans ?_
 simp only [ND]
 refine (br_seqT rfl).trans ?_
 refine (askK_of gr _).trans ?_
 simp only [ND]
 refine (br_eqT rfl).trans ?_
 refine (br_eqT rfl).trans ?_
 refine Eq.trans (nth_sn _ _ _ _) ?_
 simp only [ND]
 refine Eq.trans (nth_sn _ _ _ _) ?_
 simp only [ND]
 refine (br_eqT rfl).trans ?_
 rfl
end
end Go.Proofs.YtlmhajfbpplpoaaGreat
namespace Go.Proofs.YtlmhajfbpplpoaaGreat
open Go.RowKit
def hs3 : Hints := []
noncomputable def mf3 : MFn := mfD Tryz.prog entsC hs3 false false 3
def hn3 : Hnt := ⟨[(14, (.bool, [])), (15, (.tup [.ls, .agg [.int .i64, .int .i64], .int .i64], [])), (16, (.tup [.ls, .agg [.int .i64, .int .i64], .int .i64], [])), (17, (.tup [.agg [.int .i64, .ls, .ls, .int .i64, .str, .str, .ls], .agg [.int .i64, .int .i64], .int .i64], [])), (18, (.tup [.agg [.int .i64, .ls, .ls, .int .i64, .str, .str, .ls], .agg [.int .i64, .int .i64], .int .i64], [])), (19, (.bool, [])), (20, (.bool, []))], [], [(45, [.int .i64, .int .i64]), (46, [.int .i64, .int .i64]), (60, [.int .i64, .int .i64]), (61, [.int .i64, .int .i64]), (65, [.int .i64, .ls, .ls, .int .i64, .str, .str, .ls]), (66, [.int .i64, .ls, .ls, .int .i64, .str, .str, .ls])]⟩
theorem e3 (A : Ar) (D : Orc) (x0 : ByteArray) : fnK A D ownC hn3 .n 3 mf3 [sv x0] [] =
 askK D (Key.fn 14) [] [] fun r o =>
 unBool r fun b =>
 unEnd o <|
 br b
 (askK D (Key.fn 15) [sv x0] [] fun r1 o1 =>
 unTup r1 fun cs =>
 cLs cs fun xs l =>
 unCons l fun c l1 =>
 unAgg c fun cs1 =>
 cInt IntKind.i64 cs1 fun n l2 =>
 cInt IntKind.i64 l2 fun n1 l3 =>
 unNil l3 <|
 cInt IntKind.i64 l1 fun n2 l4 =>
 unNil l4 <|
 unEnd o1 <|
 askK D (Key.fn 16) [sv x0] [] fun r2 o2 =>
 unTup r2 fun cs2 =>
 cLs cs2 fun xs1 l5 =>
 unCons l5 fun c1 l6 =>
 unAgg c1 fun cs3 =>
 cInt IntKind.i64 cs3 fun n3 l7 =>
 cInt IntKind.i64 l7 fun n4 l8 =>
 unNil l8 <|
 cInt IntKind.i64 l6 fun n5 l9 =>
 unNil l9 <|
 unEnd o2 <|
 askK D (Key.fn 17) [sv x0] [] fun r3 o3 =>
 unTup r3 fun cs4 =>
 unCons cs4 fun c2 l10 =>
 unAgg c2 fun cs5 =>
 cInt IntKind.i64 cs5 fun n6 l11 =>
 cLs l11 fun xs2 l12 =>
 cLs l12 fun xs3 l13 =>
 cInt IntKind.i64 l13 fun n7 l14 =>
 cStr l14 fun s l15 =>
 cStr l15 fun s1 l16 =>
 cLs l16 fun xs4 l17 =>
 unNil l17 <|
 unCons l10 fun c3 l18 =>
 unAgg c3 fun cs6 =>
 cInt IntKind.i64 cs6 fun n8 l19 =>
 cInt IntKind.i64 l19 fun n9 l20 =>
 unNil l20 <|
 cInt IntKind.i64 l18 fun n10 l21 =>
 unNil l21 <|
 unEnd o3 <|
 askK D (Key.fn 18) [sv x0] [] fun r4 o4 =>
 unTup r4 fun cs7 =>
 unCons cs7 fun c4 l22 =>
 unAgg c4 fun cs8 =>
 cInt IntKind.i64 cs8 fun n11 l23 =>
 cLs l23 fun xs5 l24 =>
 cLs l24 fun xs6 l25 =>
 cInt IntKind.i64 l25 fun n12 l26 =>
 cStr l26 fun s2 l27 =>
 cStr l27 fun s3 l28 =>
 cLs l28 fun xs7 l29 =>
 unNil l29 <|
 unCons l22 fun c5 l30 =>
 unAgg c5 fun cs9 =>
 cInt IntKind.i64 cs9 fun n13 l31 =>
 cInt IntKind.i64 l31 fun n14 l32 =>
 unNil l32 <|
 cInt IntKind.i64 l30 fun n15 l33 =>
 unNil l33 <|
 unEnd o4 <|
 br (A.eq n2 n5)
 (br (A.band (A.eq n n3) (A.band (A.eq n1 n4) true))
 (askK D (Key.fn 19) [AV.ls xs, AV.ls xs1] [] fun r5 o5 =>
 unBool r5 fun b1 =>
 unEnd o5 <|
 br b1
 (br (A.eq n10 n15)
 (br (A.band (A.eq n8 n13) (A.band (A.eq n9 n14) true))
 (askK D (Key.fn 20) [AV.agg [iv n6, AV.ls xs2, AV.ls xs3, iv n7, sv s, sv s1, AV.ls xs4], AV.agg [iv n11, AV.ls xs5, AV.ls xs6, iv n12, sv s2, sv s3, AV.ls xs7]] [] fun r6 o6 =>
 unBool r6 fun b2 =>
 unEnd o6 <|
 br b2
 (some ((bv true, [])))
 (some ((bv false, []))))
 (some ((bv false, []))))
 (some ((bv false, []))))
 (some ((bv false, []))))
 (some ((bv false, []))))
 (some ((bv false, []))))
 (some ((bv false, []))) := by kernel_rfl
end Go.Proofs.YtlmhajfbpplpoaaGreat
namespace Go.Proofs.YtlmhajfbpplpoaaGreat
open Go.RowKit

theorem band_same (a b : Int) : realA.band (realA.eq a a) (realA.band (realA.eq b b) true) = true := by
 rw [r_eq, r_eq, decide_eq_true rfl, decide_eq_true rfl]
 rfl
section
variable {D : Orc}
end
end Go.Proofs.YtlmhajfbpplpoaaGreat
namespace Go.Proofs.YtlmhajfbpplpoaaGreat
open Go.RowKit

theorem r_and15 (x : Int) : ∃ i : Nat, realA.bits .and .i64 x 15 = (i : Int) ∧ i ≤ 15 := by
 show ∃ i : Nat, IntKind.i64.wrap ((BitVec.ofInt 64 x &&& BitVec.ofInt 64 15).toNat : Int) = (i : Int) ∧ i ≤ 15
 have h : (BitVec.ofInt 64 x &&& BitVec.ofInt 64 15).toNat ≤ 15 := by
  rw [BitVec.toNat_and]
  exact Nat.le_trans Nat.and_le_right (by decide)
 refine ⟨_, ?_, h⟩
 rw [IntKind.wrap_i64]
 omega
theorem r_and1023 (x : Int) : ∃ i : Nat, realA.bits .and .i64 x 1023 = (i : Int) ∧ i ≤ 1023 := by
 show ∃ i : Nat, IntKind.i64.wrap ((BitVec.ofInt 64 x &&& BitVec.ofInt 64 1023).toNat : Int) = (i : Int) ∧ i ≤ 1023
 have h : (BitVec.ofInt 64 x &&& BitVec.ofInt 64 1023).toNat ≤ 1023 := by
  rw [BitVec.toNat_and]
  exact Nat.le_trans Nat.and_le_right (by decide)
 refine ⟨_, ?_, h⟩
 rw [IntKind.wrap_i64]
 omega
theorem r_rem5 (i : Nat) (h : i ≤ 1023) : realA.rem .i64 (i : Int) 5 = ((i % 5 : Nat) : Int) := by
 show (i : Int).tmod 5 = _
 rfl
def lturnN (turn : Int) (i : Nat) : Nat := (realA.bits .and .i64 (realA.shr .i64 turn (realA.bits .and .i64 (i : Int) 15)) 1023).toNat % 5
def lturns (turn : Int) (n : Nat) : List Nat := (List.range n).map (lturnN turn)
theorem lturns_succ (turn : Int) (i : Nat) : lturns turn (i + 1) = lturns turn i ++ [lturnN turn i] := by
 unfold lturns
 rw [List.range_succ, List.map_append]
 rfl
theorem lturns_len (turn : Int) (n : Nat) : (lturns turn n).length = n := by simp [lturns]
theorem cntN_snoc (b : Nat) : ∀ l : List Nat, cntN (l ++ [b]) = cntN l + (if b = 0 then 1 else 0)
 | [] => by simp [cntN]
 | c :: r => by rw [List.cons_append, cntN, cntN, cntN_snoc b r]; omega
theorem sumN_snoc (b : Nat) : ∀ l : List Nat, sumN (l ++ [b]) = sumN l + opnL b
 | [] => by simp [sumN]
 | c :: r => by rw [List.cons_append, sumN, sumN, sumN_snoc b r]; omega
theorem opn_at (b : Nat) (h : b < 5) : [sv (bstr [40]), sv (bstr [33]), sv (bstr [88, 32]), sv (bstr [71, 32]), sv (bstr [70, 32])][b]? = some (sv (bstr (opnB b))) := by
 match b, h with
 | 0, _ => rfl
 | 1, _ => rfl
 | 2, _ => rfl
 | 3, _ => rfl
 | 4, _ => rfl
theorem opn_40 (b : Nat) : (opnB b = [40]) ↔ b = 0 := by
 rcases opn_cases b with rfl | rfl | rfl | rfl | ⟨e, _, _, _, _, h⟩
 ·simp [opnB]
 ·simp [opnB]
 ·simp [opnB]
 ·simp [opnB]
 ·rw [e]
  constructor
  ·intro h; simp at h
  ·intro h; omega
theorem rdK_one (cs : List AV) (i : Nat) (x : AV) (h : cs[i]? = some x) (k : List AV → KR) : rdK cs (0 + i * 1) 1 k = k [x] := by
 obtain ⟨hl, hx⟩ := List.getElem?_eq_some_iff.1 h
 unfold rdK
 have : Nat.ble (0 + i * 1 + 1) cs.length = true := by simp; omega
 rw [this]
 simp only [Nat.zero_add, Nat.mul_one]
 rw [List.drop_eq_getElem_cons hl, hx]
 rfl
theorem lnestX_wz : ∀ bs, WzT (lnestX bs) ∧ WzP (lnestX bs)
 | [] => ⟨.mk (by simp) (by simp) (by simp) (by simp) (by simp) (by simp), .mk (by decide) (by decide) (by simp)⟩
 | 0 :: r => lnestX_wz r
 | (b + 1) :: r => ⟨.mk (by simp) (by simp) (by simp) (by simp) (by simp) (by simpa using (lnestX_wz r).1), .mk (by decide) (by decide) (by simpa using (lnestX_wz r).2)⟩
theorem opnT_cases (b : Nat) : opnT (b + 1) = 3 ∨ opnT (b + 1) = 8 ∨ opnT (b + 1) = 9 ∨ opnT (b + 1) = 10 := by
 unfold opnT
 repeat' split
 all_goals simp
theorem lnestX_kind : ∀ bs, (lnestX bs).kind = 0 ∨ (lnestX bs).kind = 3 ∨ (lnestX bs).kind = 8 ∨ (lnestX bs).kind = 9 ∨ (lnestX bs).kind = 10
 | [] => .inl rfl
 | 0 :: r => lnestX_kind r
 | (b + 1) :: r => .inr (opnT_cases b)
theorem lnestX_right : ∀ (bs : List Nat) (d : Nat), d + bs.length ≤ 60 → lrightB (lnestX bs) d = true
 | [], d, h => rfl
 | 0 :: r, d, h => by
  rw [List.length_cons] at h
  unfold lnestX
  exact lnestX_right r d (by omega)
 | (b + 1) :: r, d, h => by
  rw [List.length_cons] at h
  have ih := lnestX_right r (d + 1) (by omega)
  have h0 : d + 1 ≤ 60 := by omega
  have hk := lnestX_kind r
  have hb : ∀ k, (k = 3 ∨ k = 8 ∨ k = 9 ∨ k = 10) → lbrk k 0 (lnestX r).kind = false ∧ larI k = 1 := fun k hk2 => by
   rcases hk with h | h | h | h | h <;> rw [h] <;> rcases hk2 with rfl | rfl | rfl | rfl <;> exact ⟨rfl, rfl⟩
  obtain ⟨hb1, hb2⟩ := hb _ (opnT_cases b)
  unfold lnestX lmk
  rw [lrightB, hb2]
  unfold lkidsB lkidsB
  rw [hb1]
  simp [bareB, upD, h0, ih]
section
variable {D : Orc}
def colN (turn : Int) (i : Nat) : Nat := 1 + sumN ((lturns turn i).take 60)
theorem colN_succ (turn : Int) (i : Nat) : colN turn (i + 1) = if i < 60 then colN turn i + opnL (lturnN turn i) else colN turn i := by
 unfold colN
 rw [lturns_succ]
 have hl := lturns_len turn i
 split
 ·rename_i h
  rw [List.take_of_length_le (by rw [List.length_append, hl]; simp; omega), List.take_of_length_le (by rw [hl]; omega), sumN_snoc]
  omega
 ·rename_i h
  rw [List.take_append_of_le_length (by rw [hl]; omega)]
theorem lturn_rem (turn : Int) (i : Nat) : realA.rem .i64 (realA.bits .and .i64 (realA.shr .i64 turn (realA.bits .and .i64 (i : Int) 15)) 1023) 5 = (lturnN turn i : Int) := by
 obtain ⟨j, h1, h2⟩ := r_and1023 (realA.shr .i64 turn (realA.bits .and .i64 (i : Int) 15))
 unfold lturnN
 rw [h1, r_rem5 j h2]
 rfl
theorem ldeep_lp (Kl : Knows ownC tabLe4 D) (turn : Int) (n : Nat) (hn : n ≤ 127) : ∀ (k i : Nat), i ≤ n → n - i = k → D.ask (.lp 13 0) [iv (n : Int), iv turn, sv (bstr ((lturns turn i).flatMap opnB)), sv (bstr (List.replicate (cntN (lturns turn i)) 41)), iv (colN turn i : Int), iv (i : Int)] [] =
  some (.tup [iv 0, iv (n : Int), sv (bstr ((lturns turn n).flatMap opnB)), sv (bstr (List.replicate (cntN (lturns turn n)) 41)), iv (colN turn n : Int)], []) := by
 intro k
 induction k with
 | zero =>
  intro i hi hk
  obtain rfl : i = n := by omega
  refine Kl.lp' hn13 _ rfl (by kernel_rfl) ((e13_0 ..).trans ?_)
  refine (br_ltF (by omega)).trans ?_
  rfl
 | succ k ih =>
  intro i hi hk
  have ih := ih (i + 1) (by omega) (by omega)
  refine Kl.lp' hn13 _ rfl (by kernel_rfl) ((e13_0 ..).trans ?_)
  refine (br_ltT (by omega)).trans ?_
  obtain ⟨j, hj, hj2⟩ := r_and15 (i : Int)
  have hnot : ¬ realA.bits .and .i64 (i : Int) 15 < 0 := by rw [hj]; omega
  refine (br_ltF hnot).trans ?_
  refine (br_eqF (by decide)).trans ?_
  rw [lturn_rem, unI_n]
  have hlt : lturnN turn i < 5 := by unfold lturnN; exact Nat.mod_lt _ (by decide)
  rw [show Nat.blt (lturnN turn i) 5 = true by simpa using hlt]
  refine (br_t _ _).trans ?_
  refine (rdK_one _ _ _ (opn_at _ hlt) _).trans ?_
  simp only [ND]
  have hc := cntN_le (lturns turn i)
  have hs0 := sumN_le (lturns turn i)
  rw [lturns_len] at hc hs0
  have ho := opnL_le (lturnN turn i)
  have hs : (bstr ((lturns turn i).flatMap opnB)).size = sumN (lturns turn i) := by rw [bstr_size, flat_len]
  have hs1 : (bstr (opnB (lturnN turn i))).size = opnL (lturnN turn i) := by rw [bstr_size, opnB_len]
  have hs2 : (bstr (List.replicate (cntN (lturns turn i)) 41)).size ≤ i := by rw [bstr_size, List.length_replicate]; exact hc
  have s2 : (bstr [41]).size = 1 := rfl
  rw [lturns_succ, List.flatMap_append, cntN_snoc, colN_succ] at ih
  rw [show [lturnN turn i].flatMap opnB = opnB (lturnN turn i) by simp] at ih
  have hcol : colN turn i ≤ 1 + 2 * i := by
   unfold colN
   have := sumN_le ((lturns turn i).take 60)
   rw [List.length_take, lturns_len] at this
   omega
  have hadd : realA.add .i64 (colN turn i : Int) ((opnL (lturnN turn i) : Nat) : Int) = ((colN turn i + opnL (lturnN turn i) : Nat) : Int) := by
   rw [r_add (by omega) (by omega)]
   rfl
  rw [add1 (show i < 4611686018427387904 by omega)]
  simp only [r_slen, r_cat, cat_bs, hs1, hadd]
  by_cases hb : lturnN turn i = 0
  ·rw [if_pos hb] at ih
   refine (br_seqT (by rw [(opn_40 _).2 hb])).trans ?_
   refine (br_ble (by rw [s2]; omega) _ _).trans ?_
   have e : ([41] ++ List.replicate (cntN (lturns turn i)) 41 : List UInt8) = List.replicate (cntN (lturns turn i) + 1) 41 := rfl
   rw [e]
   by_cases h60 : i < 60
   ·rw [if_pos h60] at ih
    refine (br_ltT (by omega)).trans ?_
    refine (br_ble (by rw [hs]; omega) _ _).trans ?_
    refine (askK_of ih _).trans ?_
    rfl
   ·rw [if_neg h60] at ih
    refine (br_ltF (by omega)).trans ?_
    refine (br_ble (by rw [hs]; omega) _ _).trans ?_
    refine (askK_of ih _).trans ?_
    rfl
  ·rw [if_neg hb] at ih
   refine (br_seqF (fun e => hb ((opn_40 _).1 (bstr_inj.1 e)))).trans ?_
   by_cases h60 : i < 60
   ·rw [if_pos h60] at ih
    refine (br_ltT (by omega)).trans ?_
    refine (br_ble (by rw [hs]; omega) _ _).trans ?_
    refine (askK_of ih _).trans ?_
    rfl
   ·rw [if_neg h60] at ih
    refine (br_ltF (by omega)).trans ?_
    refine (br_ble (by rw [hs]; omega) _ _).trans ?_
    refine (askK_of ih _).trans ?_
    rfl
theorem ldeep_ok (K : Knows ownC tabEa D) (Kb : Knows ownC tabEb D) (Kq : Knows ownC tabTq D) (Kr : Knows ownC tabTr D) (Kw : Knows ownC tabWa D) (L : NameF D) (A : LexA D) (Kk : Knows ownC tabTl D) (Kt : Knows ownC tabTa D) (N : LexN D) (Kv : Knows ownC tabAv4 D) (Kl : Knows ownC tabLe4 D)
  (ha : D.ask (.fn 30) [] [] = some (bv true, [])) (x turn : Int) : D.ask (.fn 13) [iv x, iv turn] [] = some (bv true, []) := by
 obtain ⟨n, hn, hn2⟩ := r_and127 x
 refine Kl.fn' hn13 _ rfl ((e13 ..).trans ?_)
 refine (askK_of ha _).trans ?_
 simp only [ND]
 rw [hn]
 have g := ldeep_lp Kl turn n hn2 n 0 (Nat.zero_le _) rfl
 refine (askK_of g _).trans ?_
 simp only [ND]
 have hc := cntN_le (lturns turn n)
 have hs0 := sumN_le (lturns turn n)
 rw [lturns_len] at hc hs0
 have hs : (bstr ((lturns turn n).flatMap opnB)).size = sumN (lturns turn n) := by rw [bstr_size, flat_len]
 have hs2 : (bstr (List.replicate (cntN (lturns turn n)) 41)).size ≤ n := by rw [bstr_size, List.length_replicate]; exact hc
 have s4 : (bstr [116, 114, 117, 101]).size = 4 := rfl
 simp only [r_slen, r_cat]
 refine (br_ble (by rw [hs, s4]; omega) _ _).trans ?_
 refine (br_ble (by rw [ByteArray.size_append, hs, s4]; omega) _ _).trans ?_
 have e : bstr ((lturns turn n).flatMap opnB) ++ bstr [116, 114, 117, 101] ++ bstr (List.replicate (cntN (lturns turn n)) 41) = bstr (lnestS (lturns turn n) (cntN (lturns turn n))) := by
  rw [cat_bs, cat_bs, List.append_assoc]
  rfl
 rw [e]
 refine (askK_of (sys_ok Kv) _).trans ?_
 simp only [eSy, ND]
 have hf := sysY_few
 have hp := lparse_ok K Kb Kq Kr Kw L sysY (by have := hf.v; omega) (by have := hf.p; omega) (fun p hp => by have := hf.q p hp; omega) A (bstr (lnestS (lturns turn n) (cntN (lturns turn n)))) (by rw [bstr_size, lnestS_len]; omega)
 unfold lparseP at hp
 rw [bstr_data, lexAll_lnest _ _ (by rw [lturns_len]; omega)] at hp
 have hr0 := lprop_nest (lturns turn n) sysY.vars true sysY.ps
 simp only [Prod.ext_iff] at hr0
 obtain ⟨hr1, hr2⟩ := hr0
 have hr2 : endP (lnestT (lturns turn n) (cntN (lturns turn n)) 1) (lpropP (lnestT (lturns turn n) (cntN (lturns turn n)) 1) sysY.vars true sysY.ps).1 (lpropP (lnestT (lturns turn n) (cntN (lturns turn n)) 1) sysY.vars true sysY.ps).2.1 = (lnestR (lturns turn n)).2 := by
  rw [Prod.ext_iff, Prod.ext_iff]; exact hr2
 simp only at hp hr1
 rw [hr1, hr2] at hp
 unfold lnestR at hp
 rw [lturns_len] at hp
 by_cases h60 : n ≤ 60
 ·rw [if_pos h60] at hp
  obtain ⟨w1, w2⟩ := lnestX_wz (lturns turn n)
  have hr := lRight_ok Kk Kt N (lnestX (lturns turn n)) w1 w2
  rw [lnestX_right _ 0 (by rw [lturns_len]; omega)] at hr
  unfold wholeA ifOk at hp
  simp only [if_true] at hp
  revert hp hr
  rcases lnestX (lturns turn n) with ⟨k, l, r, o, p, q, ks⟩
  intro hr hp
  simp only [eTr] at hp hr
  refine (askK_of hp _).trans ?_
  simp only [ND]
  refine (br_ltF (by omega)).trans ?_
  refine (br_eqT rfl).trans ?_
  refine (askK_of hr _).trans ?_
  simp only [ND]
 ·rw [if_neg h60, show wholeA T0 (1, 1 + sumN ((lturns turn n).take 60), 102) = .tup [.agg (eTr T0), .agg [iv 1, iv (colN turn n : Int)], iv 102] from rfl] at hp
  refine (askK_of hp _).trans ?_
  simp only [T0, eTr, ND]
  refine (br_ltT (by omega)).trans ?_
  refine (br_eqT rfl).trans ?_
  rw [band_same]
  rfl
end
end Go.Proofs.YtlmhajfbpplpoaaGreat
