/-
  The contracts that hand-walked texts tell.
  The seat of ExprTwice and ExprBack.
-/
import Derived.Test.YtlmhajfbpplpoaaGreatWBA
import Derived.Test.YtlmhajfbpplpoaaGreatWBN
import Derived.Test.YtlmhajfbpplpoaaGreatWAD
import Derived.Test.YtlmhajfbpplpoaaGreatWBC
import Derived.Test.YtlmhajfbpplpoaaGreatWBG
import Derived.Test.YtlmhajfbpplpoaaGreatWBK
import Derived.ProofKit
set_option linter.unusedSectionVars false
set_option linter.unusedSimpArgs false
set_option linter.unusedVariables false
namespace Go.Proofs.YtlmhajfbpplpoaaGreat
open Go.RowKit

theorem gAll : GoodD (SemFn Tryz.prog 91) (extD resAll) := ext_all 164 fun s w hs => (all_any s w hs).mono fun e w' h => by
 unfold AllRet at h
 unfold AllSays
 exact h
theorem gName : GoodD (SemFn Tryz.prog 109) (extD resName) := ext_name fun s w hs => name_any s w hs
theorem gNumber : GoodD (SemFn Tryz.prog 108) (extD resNumber) := ext_number fun s w hs => number_any s w hs
theorem gSumText : GoodD (SemFn Tryz.prog 22) (extD resSumText) := ext_sumText gName gNumber
theorem gAl (f : Nat) : GoodD (SemFn Tryz.prog f) ((Dn realA seatAl 60).ask (.fn f)) := (dn_good (seatAl_ok gName gNumber gSumText clone_nat clone_part grow_part) 60).1 f
end Go.Proofs.YtlmhajfbpplpoaaGreat
namespace Go.Proofs.YtlmhajfbpplpoaaGreat
open Go.ChangeShapes Go.WideShapes Go.ChangeAt Go.RowKit

theorem nameFTw : NameF DTw where
 name s hs := xNameTw (by
  unfold extD resName
  have h1 : (bstr s).size ≤ 9223372036854775807 := by show s.toArray.size ≤ _; simp; omega
  have h2 : (bstr s).data.toList = s := by simp [bstr]
  simp only [sv, h1, if_true, h2]
  rfl)
theorem lexNTw : LexN DTw where
 name s hs := xNameTw (by unfold extD resName; simp only [sv, hs, if_true]; rfl)
 num s hs := xNumberTw (by unfold extD resNumber; simp only [sv, hs, if_true]; rfl)
theorem lexATw : LexA DTw where
 ok s ts hs h := xAllTw (by unfold extD resAll; simp only [sv, hs, if_true, h]; rfl)
 err s c ln co hs h := xAllTw (by unfold extD resAll; simp only [sv, hs, if_true, h]; rfl)
theorem sumGTw : SumG DTw where
 sum ms h1 h2 := xSumTextTw (by unfold extD; rw [resSumText_of ms (okMos_iff.2 ⟨h1, h2⟩)]; rfl)
theorem sumFTw : SumF DTw := sumGTw.f
theorem seatTw_good : SeatOk Tryz.prog entsC seatTw := seatTw_ok gAll gName gNumber gSumText (gAl _) (gAl _)
theorem t1_right : rightB t1 0 = true := by kernel_rfl
theorem t1_txt : txt t1 = s1 := by kernel_rfl
theorem cmp1_txt : ∃ l r : List Mo, ∃ op : Int, cmp1 = .mk 2 l r op (bstr []) (bstr []) [] ∧ rsB l = true ∧ rsB r = true ∧ 0 ≤ op ∧ op ≤ 5 ∧ cmpTx l r op = s4 := ⟨_, _, _, rfl, by kernel_rfl, by kernel_rfl, by decide, by decide, by kernel_rfl⟩
theorem alFTw : AlF DTw where
 term := by
  obtain ⟨a, b, c, h, h2⟩ := chkTerm_of k_term
  exact ⟨a, b, c, xTermTw h, h2⟩
 form := by
  obtain ⟨a, b, c, d, e, h⟩ := chkForm_of k_form
  exact ⟨a, b, c, d, e, xFormTw h⟩
 text := by
  have g := Text_ok kTxTw kTaTw lexNTw kEaTw sumFTw t1 t1_right (by rw [t1_txt]; decide)
  rwa [t1_txt] at g
 sumText := xSumTextTw (by unfold extD; rw [resSumText_of ms1 (by kernel_rfl)]; kernel_rfl)
 right := (Right_ok kTaTw lexNTw t1 t1_wz).trans (by rw [t1_right])
 rightSum := rightSum_ok kTaTw lexNTw ms1 (okMos_iff.1 (show okMos ms1 = true by kernel_rfl)).2 (by decide)
 bare := bare_ok kTaTw t1
 cmp := treecmp_ok kTaTw lexNTw cmp1 cmp1_wz
 ct := by
  obtain ⟨l, r, op, h, h1, h2, h3, h4, h5⟩ := cmp1_txt
  have g := cmpText_ok kTxTw kTaTw lexNTw kEaTw sumFTw h1 h2 h3 h4
  rw [h5] at g
  rw [h]
  exact g
theorem aliveTw : DTw.ask (.fn 14) [] [] = some (bv true, []) := alive_ok kEaTw kEbTw nameFTw kWaTw kWbTw lexATw kAvTw alFTw
end Go.Proofs.YtlmhajfbpplpoaaGreat
