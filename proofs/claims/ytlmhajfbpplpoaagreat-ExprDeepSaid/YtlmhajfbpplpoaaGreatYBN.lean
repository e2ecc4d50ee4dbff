/-
  ExprDeep: the row.
-/
import Derived.Test.YtlmhajfbpplpoaaGreatYAD
import Derived.Test.YtlmhajfbpplpoaaGreatYBC
import Derived.Test.YtlmhajfbpplpoaaGreatYBG
import Derived.Test.YtlmhajfbpplpoaaGreatYBI
import Derived.Test.YtlmhajfbpplpoaaGreatYBM
import Derived.ProofKit
set_option linter.unusedSectionVars false
set_option linter.unusedSimpArgs false
set_option linter.unusedVariables false
namespace Go.Proofs.YtlmhajfbpplpoaaGreat
open Go.ChangeShapes Go.WideShapes Go.ChangeAt Go.RowKit

theorem nameFD : NameF DDe where
 name s hs := xNameDe (by
  unfold extD resName
  have h1 : (bstr s).size ≤ 9223372036854775807 := by show s.toArray.size ≤ _; simp; omega
  have h2 : (bstr s).data.toList = s := by simp [bstr]
  simp only [sv, h1, if_true, h2]
  rfl)
theorem lexND : LexN DDe where
 name s hs := xNameDe (by unfold extD resName; simp only [sv, hs, if_true]; rfl)
 num s hs := xNumberDe (by unfold extD resNumber; simp only [sv, hs, if_true]; rfl)
theorem lexAD : LexA DDe where
 ok s ts hs h := xAllDe (by unfold extD resAll; simp only [sv, hs, if_true, h]; rfl)
 err s c ln co hs h := xAllDe (by unfold extD resAll; simp only [sv, hs, if_true, h]; rfl)
theorem seatD_good : SeatOk Tryz.prog entsC seatDe := seatDe_ok gAll gName gNumber gSumText (gAl _) (gAl _) (gAl _) (gAl _)
theorem alFD : AlF DDe where
 term := by
  obtain ⟨a, b, c, h, h2⟩ := chkTerm_of k_term
  exact ⟨a, b, c, xTermDe h, h2⟩
 form := by
  obtain ⟨a, b, c, d, e, h⟩ := chkForm_of k_form
  exact ⟨a, b, c, d, e, xFormDe h⟩
 text := xTextDe (isLs_of k_text)
 sumText := xSumTextDe (by unfold extD; rw [resSumText_of ms1 (by kernel_rfl)]; kernel_rfl)
 right := Right_ok kTaDe lexND t1 t1_wz
 rightSum := rightSum_ok kTaDe lexND ms1 (okMos_iff.1 (show okMos ms1 = true by kernel_rfl)).2 (by decide)
 bare := bare_ok kTaDe t1
 cmp := treecmp_ok kTaDe lexND cmp1 cmp1_wz
 ct := xCompareTextDe (isLs_of k_compareText)
theorem aliveD : DDe.ask (.fn 14) [] [] = some (bv true, []) := alive_ok kEaDe kEbDe nameFD kWaDe kWbDe lexAD kAvDe alFD
theorem deep_calls (x y : Int) (w : World) : Calls Tryz.prog 7 #[.int .i64 x, .int .i64 y] w fun e w' => e = .returned (.bool true) ∧ Below w.heap.size w w' := by
 have g := den_calls seatD_good (deep_ok kEaDe kEbDe nameFD kWaDe kWbDe lexAD kTaDe lexND kLdDe aliveD x y) w [.int .i64 x, .int .i64 y] (by
  simp only [RepList]
  exact ⟨_, _, rfl, rep_iv _, _, _, rfl, rep_iv _, rfl⟩)
 refine Calls.mono g ?_
 rintro e w' ⟨u, rfl, hb, μ', F', hr⟩
 unfold bv Rep at hr
 rw [hr.1]
 exact ⟨rfl, hb⟩
theorem fit_int1 {W : World} {cs : List Value} {x : D} (h : D.Is W (Lt W.heap.size) x cs) (ht : D.Typed Tryz.prog x 3) : ∃ n : Int, x.val cs = .int .i64 n := by
 obtain ⟨n, rfl, _⟩ := ht.int_ Tryz.underlying3
 simp only [D.Is] at h
 subst h
 exact ⟨n, rfl⟩
set_option maxRecDepth 100000 in
theorem exprDeep_lifted (os : Go.Os) (started : os.Started) (H : Type) (enc : TypeId × Value → H) :
  ReturnsInHanded {} Tryz.checked os 7 .any (Rows.exprDeepSpec.pre6 enc Tryz.prog Tryz.f7 [] false) (Rows.exprDeepSpec.post enc Tryz.prog Tryz.f7 false true false false) := by
 refine law_fit (C := Tryz.checked) 2 [3, 3] 4 own_knob started (by kernel_rfl) Tryz.func7
  (ChangeSpec.witness6 (enc := enc) (C := Tryz.checked) false ⟨#[], #[.int .i64 0, .int .i64 0], []⟩ 8 (by kernel_rfl) (by kernel_rfl) (by kernel_rfl) (by kernel_rfl))
  (by kernel_rfl) rfl (by kernel_rfl) laid_out rfl Tryz.underlying4 rfl (fun ds h => ?_) (fun W args xs h => ?_)
 ·match ds, h with
  | [d1, d2], _ => rfl
 ·have h' : AllFit W Tryz.prog [3, 3] args.toList xs := h
  obtain ⟨args⟩ := args
  obtain ⟨v1, a1, x1, y1, r1, rfl, ⟨cs1, e1, h1, t1, z1⟩, h'⟩ := allFit_cons h'
  obtain ⟨v2, a2, x2, y2, rfl, rfl, ⟨cs2, e2, h2, t2, z2⟩, h'⟩ := allFit_cons h'
  obtain rfl := allFit_nil h'
  have r1 : args = [v1, v2] := r1
  subst r1
  obtain ⟨n1, q1⟩ := fit_int1 h1 t1
  obtain ⟨n2, q2⟩ := fit_int1 h2 t2
  rw [q1] at e1
  rw [q2] at e2
  subst e1 e2
  exact deep_calls n1 n2 W
theorem exprDeep_holds : Rows.ExprDeepSaid :=
 OpenClaim.holds_of_wide 7 Tryz.f7 rfl rfl rfl rfl rfl rfl rfl ⟨rfl, rfl, rfl, rfl, rfl⟩ rfl rfl rfl rfl rfl (by kernel_rfl) Tryz.func7 (by kernel_rfl)
  (of_decide_eq_true (by kernel_rfl)) (by unfold Func.isWrapper; first | (rw [if_pos (by decide +kernel)]; kernel_rfl) | (rw [if_neg (by decide +kernel)]; exact ⟨rfl, rfl⟩))
  (fun os started H enc _ => exprDeep_lifted os started H enc)
end Go.Proofs.YtlmhajfbpplpoaaGreat
