/-
  ExprParses: the row.
-/
import Derived.Test.YtlmhajfbpplpoaaGreatZAD
import Derived.Test.YtlmhajfbpplpoaaGreatZBD
import Derived.Test.YtlmhajfbpplpoaaGreatZBH
import Derived.Test.YtlmhajfbpplpoaaGreatZBP
import Derived.ProofKit
set_option linter.unusedSectionVars false
set_option linter.unusedSimpArgs false
set_option linter.unusedVariables false
namespace Go.Proofs.YtlmhajfbpplpoaaGreat
open Go.ChangeShapes Go.WideShapes Go.ChangeAt Go.RowKit

theorem nameFM : NameF DM where
 name s hs := xNameM (by
  unfold extD resName
  have h1 : (bstr s).size ≤ 9223372036854775807 := by show s.toArray.size ≤ _; simp; omega
  have h2 : (bstr s).data.toList = s := by simp [bstr]
  simp only [sv, h1, if_true, h2]
  rfl)
theorem rnameFM : RNameF DM where
 name s hs := xRNameM (by
  unfold extD resName
  have h1 : (bstr s).size ≤ 9223372036854775807 := by show s.toArray.size ≤ _; simp; omega
  have h2 : (bstr s).data.toList = s := by simp [bstr]
  simp only [sv, h1, if_true, h2]
  rfl)
theorem lexFM : LexF DM where
 ok s ts hs h := ⟨xAllM (by unfold extD resAll; simp only [sv, hs, if_true, h]; rfl), xRAllM (by unfold extD resAll; simp only [sv, hs, if_true, h]; rfl), fun _ => ⟨rfl, rfl⟩⟩
 err s c ln co hs h := ⟨xAllM (by unfold extD resAll; simp only [sv, hs, if_true, h]; rfl), xRAllM (by unfold extD resAll; simp only [sv, hs, if_true, h]; rfl), fun h0 => absurd h0 ((lexAll_facts s.data.toList).2 c ln co h)⟩
theorem seatM_good : SeatOk Tryz.prog entsC seatM := seatM_ok gAll gRAll gName gRName gSumText (gAl _) (gAl _) (gAl _) (gAl _) (gAl _) (gAl _) (gAl _) (gAl _)
theorem alFM : AlF DM where
 term := by
  obtain ⟨a, b, c, h, h2⟩ := chkTerm_of k_term
  exact ⟨a, b, c, xTermM h, h2⟩
 form := by
  obtain ⟨a, b, c, d, e, h⟩ := chkForm_of k_form
  exact ⟨a, b, c, d, e, xFormM h⟩
 text := xTextM (isLs_of k_text)
 sumText := xSumTextM (by unfold extD; rw [resSumText_of ms1 (by kernel_rfl)]; kernel_rfl)
 right := xRightM (isT_of k_right)
 rightSum := xRightSumM (isT_of k_rightSum)
 bare := xBareM (isT_of k_bare)
 cmp := xComparesM (isT_of k_compares)
 ct := xCompareTextM (isLs_of k_compareText)
theorem aliveM : DM.ask (.fn 14) [] [] = some (bv true, []) := alive_ok kEaM kEbM nameFM kWaM kWbM lexFM.toA kAvM alFM
theorem parses_calls (s : ByteArray) (hs : s.size ≤ 9223372036854775807) (w : World) : Calls Tryz.prog 3 #[.string s] w fun e w' => e = .returned (.bool true) ∧ Below w.heap.size w w' := by
 have g := den_calls seatM_good (parses_ok kEaM kEbM nameFM kRaM rnameFM kWaM kWbM kRbM lexFM kSaM kLbM aliveM s hs) w [.string s] (by
  simp only [RepList]
  exact ⟨_, _, rfl, rep_sv _, rfl⟩)
 refine Calls.mono g ?_
 rintro e w' ⟨u, rfl, hb, μ', F', hr⟩
 unfold bv Rep at hr
 rw [hr.1]
 exact ⟨rfl, hb⟩
set_option maxRecDepth 100000 in
theorem exprParses_lifted (os : Go.Os) (started : os.Started) (H : Type) (enc : TypeId × Value → H) :
  ReturnsInHanded {} Tryz.checked os 3 .any (Rows.exprParsesSpec.pre6 enc Tryz.prog Tryz.f3 [] false) (Rows.exprParsesSpec.post enc Tryz.prog Tryz.f3 false true false false) := by
 refine law_fit (C := Tryz.checked) 1 [9] 4 own_knob started (by kernel_rfl) Tryz.func3
  (ChangeSpec.witness6 (enc := enc) (C := Tryz.checked) false ⟨#[], #[.string ⟨#[]⟩], []⟩ 8 (by kernel_rfl) (by kernel_rfl) (by kernel_rfl) (by kernel_rfl))
  (by kernel_rfl) rfl (by kernel_rfl) laid_out rfl Tryz.underlying4 rfl (fun ds h => ?_) (fun W args xs h => ?_)
 ·match ds, h with
  | [d1], _ => rfl
 ·have h' : AllFit W Tryz.prog [9] args.toList xs := h
  obtain ⟨args⟩ := args
  obtain ⟨v1, a1, x1, y1, r1, rfl, ⟨cs1, e1, h1, t1, z1⟩, h'⟩ := allFit_cons h'
  obtain rfl := allFit_nil h'
  have r1 : args = [v1] := r1
  subst r1
  obtain ⟨s1, q1, i1⟩ := fit_str h1 t1
  rw [q1] at e1
  subst e1
  exact parses_calls s1 (by omega) W
theorem exprParses_holds : Rows.ExprParsesSaid :=
 OpenClaim.holds_of_wide 3 Tryz.f3 rfl rfl rfl rfl rfl rfl rfl ⟨rfl, rfl, rfl, rfl, rfl⟩ rfl rfl rfl rfl rfl (by kernel_rfl) Tryz.func3 (by kernel_rfl)
  (of_decide_eq_true (by kernel_rfl)) (by unfold Func.isWrapper; first | (rw [if_pos (by decide +kernel)]; kernel_rfl) | (rw [if_neg (by decide +kernel)]; exact ⟨rfl, rfl⟩))
  (fun os started H enc _ => exprParses_lifted os started H enc)
end Go.Proofs.YtlmhajfbpplpoaaGreat
