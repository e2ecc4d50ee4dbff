/-
  ExprTwice: the row.
-/
import Derived.Test.YtlmhajfbpplpoaaGreatXAD
import Derived.Test.YtlmhajfbpplpoaaGreatXBC
import Derived.Test.YtlmhajfbpplpoaaGreatXBG
import Derived.Test.YtlmhajfbpplpoaaGreatXBK
import Derived.Test.YtlmhajfbpplpoaaGreatXBO
import Derived.ProofKit
set_option linter.unusedSectionVars false
set_option linter.unusedSimpArgs false
set_option linter.unusedVariables false
namespace Go.Proofs.YtlmhajfbpplpoaaGreat
open Go.ChangeShapes Go.WideShapes Go.ChangeAt Go.RowKit

theorem nameFTw : NameF DTw where
 name s hs := xNameTw (by
  unfold extD resName
  have h1 : (bstr s).size ≤ 9223372036854775807 := by show s.toArray.size ≤ _; simp; omega
  have h2 : (bstr s).data.toList = s := by simp [bstr]
  simp only [sv, h1, if_true, h2]
  rfl)
theorem lexNTw : LexN DTw where
 name s hs := xNameTw (by unfold extD resName; simp only [sv, hs, if_true]; rfl)
 num s hs := xNumberTw (by unfold extD resNumber; simp only [sv, hs, if_true]; rfl)
theorem lexATw : LexA DTw where
 ok s ts hs h := xAllTw (by unfold extD resAll; simp only [sv, hs, if_true, h]; rfl)
 err s c ln co hs h := xAllTw (by unfold extD resAll; simp only [sv, hs, if_true, h]; rfl)
theorem okMos_rs {ms : List Mo} (h : rsB ms = true) : okMos ms = true := okMos_iff.2 ⟨by have := (rsB_all h).2.1; omega, (rs_wz h).2⟩
theorem sumFTw : SumF DTw where
 sum ms h := xSumTextTw (by unfold extD; rw [resSumText_of ms (okMos_rs h)]; rfl)
theorem seatTw_good : SeatOk Tryz.prog entsC seatTw := seatTw_ok gAll gName gNumber gSumText (gAl _) (gAl _)
theorem t1_right : rightB t1 0 = true := by kernel_rfl
theorem t1_txt : txt t1 = s1 := by kernel_rfl
theorem cmp1_txt : ∃ l r : List Mo, ∃ op : Int, cmp1 = .mk 2 l r op (bstr []) (bstr []) [] ∧ rsB l = true ∧ rsB r = true ∧ 0 ≤ op ∧ op ≤ 5 ∧ cmpTx l r op = s4 := ⟨_, _, _, rfl, by kernel_rfl, by kernel_rfl, by decide, by decide, by kernel_rfl⟩
theorem alFTw : AlF DTw where
 term := by
  obtain ⟨a, b, c, h, h2⟩ := chkTerm_of k_term
  exact ⟨a, b, c, xTermTw h, h2⟩
 form := by
  obtain ⟨a, b, c, d, e, h⟩ := chkForm_of k_form
  exact ⟨a, b, c, d, e, xFormTw h⟩
 text := by
  have g := Text_ok kTxTw kTaTw lexNTw kEaTw sumFTw t1 t1_right (by rw [t1_txt]; decide)
  rwa [t1_txt] at g
 sumText := xSumTextTw (by unfold extD; rw [resSumText_of ms1 (by kernel_rfl)]; kernel_rfl)
 right := (Right_ok kTaTw lexNTw t1 t1_wz).trans (by rw [t1_right])
 rightSum := rightSum_ok kTaTw lexNTw ms1 (okMos_iff.1 (show okMos ms1 = true by kernel_rfl)).2 (by decide)
 bare := bare_ok kTaTw t1
 cmp := treecmp_ok kTaTw lexNTw cmp1 cmp1_wz
 ct := by
  obtain ⟨l, r, op, h, h1, h2, h3, h4, h5⟩ := cmp1_txt
  have g := cmpText_ok kTxTw kTaTw lexNTw kEaTw sumFTw h1 h2 h3 h4
  rw [h5] at g
  rw [h]
  exact g
theorem aliveTw : DTw.ask (.fn 14) [] [] = some (bv true, []) := alive_ok kEaTw kEbTw nameFTw kWaTw kWbTw lexATw kAvTw alFTw
theorem twice_calls (s : ByteArray) (hs : s.size ≤ 9223372036854775807) (w : World) : Calls Tryz.prog 5 #[.string s] w fun e w' => e = .returned (.bool true) ∧ Below w.heap.size w w' := by
 have g := den_calls seatTw_good (twice_ok kEaTw kEbTw nameFTw kWaTw kWbTw lexATw kSaTw kTaTw lexNTw kTxTw sumFTw kLcTw aliveTw s hs) w [.string s] (by
  simp only [RepList]
  exact ⟨_, _, rfl, rep_sv _, rfl⟩)
 refine Calls.mono g ?_
 rintro e w' ⟨u, rfl, hb, μ', F', hr⟩
 unfold bv Rep at hr
 rw [hr.1]
 exact ⟨rfl, hb⟩
set_option maxRecDepth 100000 in
theorem exprTwice_lifted (os : Go.Os) (started : os.Started) (H : Type) (enc : TypeId × Value → H) :
  ReturnsInHanded {} Tryz.checked os 5 .any (Rows.exprTwiceSpec.pre6 enc Tryz.prog Tryz.f5 [] false) (Rows.exprTwiceSpec.post enc Tryz.prog Tryz.f5 false true false false) := by
 refine law_fit (C := Tryz.checked) 1 [9] 4 own_knob started (by kernel_rfl) Tryz.func5
  (ChangeSpec.witness6 (enc := enc) (C := Tryz.checked) false ⟨#[], #[.string ⟨#[]⟩], []⟩ 8 (by kernel_rfl) (by kernel_rfl) (by kernel_rfl) (by kernel_rfl))
  (by kernel_rfl) rfl (by kernel_rfl) laid_out rfl Tryz.underlying4 rfl (fun ds h => ?_) (fun W args xs h => ?_)
 ·match ds, h with
  | [d1], _ => rfl
 ·have h' : AllFit W Tryz.prog [9] args.toList xs := h
  obtain ⟨args⟩ := args
  obtain ⟨v1, a1, x1, y1, r1, rfl, ⟨cs1, e1, h1, t1, z1⟩, h'⟩ := allFit_cons h'
  obtain rfl := allFit_nil h'
  have r1 : args = [v1] := r1
  subst r1
  obtain ⟨s1, q1, i1⟩ := fit_str h1 t1
  rw [q1] at e1
  subst e1
  exact twice_calls s1 (by omega) W
theorem exprTwice_holds : Rows.ExprTwiceSaid :=
 OpenClaim.holds_of_wide 5 Tryz.f5 rfl rfl rfl rfl rfl rfl rfl ⟨rfl, rfl, rfl, rfl, rfl⟩ rfl rfl rfl rfl rfl (by kernel_rfl) Tryz.func5 (by kernel_rfl)
  (of_decide_eq_true (by kernel_rfl)) (by unfold Func.isWrapper; first | (rw [if_pos (by decide +kernel)]; kernel_rfl) | (rw [if_neg (by decide +kernel)]; exact ⟨rfl, rfl⟩))
  (fun os started H enc _ => exprTwice_lifted os started H enc)
end Go.Proofs.YtlmhajfbpplpoaaGreat
