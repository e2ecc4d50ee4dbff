/-
  LtlDeep: the row.
-/
import Derived.Test.YtlmhajfbpplpoaaGreatVAD
import Derived.Test.YtlmhajfbpplpoaaGreatVBB
import Derived.Test.YtlmhajfbpplpoaaGreatVBK
import Derived.Test.YtlmhajfbpplpoaaGreatVBO
import Derived.ProofKit
set_option linter.unusedSectionVars false
set_option linter.unusedSimpArgs false
set_option linter.unusedVariables false
namespace Go.Proofs.YtlmhajfbpplpoaaGreat
open Go.ChangeShapes Go.WideShapes Go.ChangeAt Go.RowKit

theorem nameFD4 : NameF DLd4 where
 name s hs := xNameLd4 (by
  unfold extD resName
  have h1 : (bstr s).size ≤ 9223372036854775807 := by show s.toArray.size ≤ _; simp; omega
  have h2 : (bstr s).data.toList = s := by simp [bstr]
  simp only [sv, h1, if_true, h2]
  rfl)
theorem lexND4 : LexN DLd4 where
 name s hs := xNameLd4 (by unfold extD resName; simp only [sv, hs, if_true]; rfl)
 num s hs := xNumberLd4 (by unfold extD resNumber; simp only [sv, hs, if_true]; rfl)
theorem lexAD4 : LexA DLd4 where
 ok s ts hs h := xAllLd4 (by unfold extD resAll; simp only [sv, hs, if_true, h]; rfl)
 err s c ln co hs h := xAllLd4 (by unfold extD resAll; simp only [sv, hs, if_true, h]; rfl)
theorem seatD4_good : SeatOk Tryz.prog entsC seatLd4 := seatLd4_ok gAll gName gNumber gSumText (gAm _) (gAm _)
theorem alFD4 : Al4F DLd4 where
 res := by
  obtain ⟨a, b, c, d, e, f, g, i, j, k, h⟩ := chkRes_of k_res
  exact ⟨a, b, c, d, e, f, g, i, j, k, xResolveLd4 h⟩
 no := by
  obtain ⟨a, b, c, d, h⟩ := chkNo_of k_no
  exact ⟨a, b, c, d, xResolveLd4 h⟩
 text := xTextLd4 (isLs4_of k_ltext)
theorem aliveD4 : DLd4.ask (.fn 30) [] [] = some (bv true, []) := alive4_ok kEaLd4 kEbLd4 kTqLd4 kTrLd4 kWaLd4 nameFD4 lexAD4 kTlLd4 kTaLd4 lexND4 kAv4Ld4 alFD4
theorem ldeep_calls (x y : Int) (w : World) : Calls Tryz.prog 13 #[.int .i64 x, .int .i64 y] w fun e w' => e = .returned (.bool true) ∧ Below w.heap.size w w' := by
 have g := den_calls seatD4_good (ldeep_ok kEaLd4 kEbLd4 kTqLd4 kTrLd4 kWaLd4 nameFD4 lexAD4 kTlLd4 kTaLd4 lexND4 kAv4Ld4 kLe4Ld4 aliveD4 x y) w [.int .i64 x, .int .i64 y] (by
  simp only [RepList]
  exact ⟨_, _, rfl, rep_iv _, _, _, rfl, rep_iv _, rfl⟩)
 refine Calls.mono g ?_
 rintro e w' ⟨u, rfl, hb, μ', F', hr⟩
 unfold bv Rep at hr
 rw [hr.1]
 exact ⟨rfl, hb⟩
theorem fit_int4 {W : World} {cs : List Value} {x : D} (h : D.Is W (Lt W.heap.size) x cs) (ht : D.Typed Tryz.prog x 3) : ∃ n : Int, x.val cs = .int .i64 n := by
 obtain ⟨n, rfl, _⟩ := ht.int_ Tryz.underlying3
 simp only [D.Is] at h
 subst h
 exact ⟨n, rfl⟩
set_option maxRecDepth 100000 in
theorem ltlDeep_lifted (os : Go.Os) (started : os.Started) (H : Type) (enc : TypeId × Value → H) :
  ReturnsInHanded {} Tryz.checked os 13 .any (Rows.ltlDeepSpec.pre6 enc Tryz.prog Tryz.f13 [] false) (Rows.ltlDeepSpec.post enc Tryz.prog Tryz.f13 false true false false) := by
 refine law_fit (C := Tryz.checked) 2 [3, 3] 4 own_knob started (by kernel_rfl) Tryz.func13
  (ChangeSpec.witness6 (enc := enc) (C := Tryz.checked) false ⟨#[], #[.int .i64 0, .int .i64 0], []⟩ 8 (by kernel_rfl) (by kernel_rfl) (by kernel_rfl) (by kernel_rfl))
  (by kernel_rfl) rfl (by kernel_rfl) laid_out rfl Tryz.underlying4 rfl (fun ds h => ?_) (fun W args xs h => ?_)
 ·match ds, h with
  | [d1, d2], _ => rfl
 ·have h' : AllFit W Tryz.prog [3, 3] args.toList xs := h
  obtain ⟨args⟩ := args
  obtain ⟨v1, a1, x1, y1, r1, rfl, ⟨cs1, e1, h1, t1, z1⟩, h'⟩ := allFit_cons h'
  obtain ⟨v2, a2, x2, y2, rfl, rfl, ⟨cs2, e2, h2, t2, z2⟩, h'⟩ := allFit_cons h'
  obtain rfl := allFit_nil h'
  have r1 : args = [v1, v2] := r1
  subst r1
  obtain ⟨n1, q1⟩ := fit_int4 h1 t1
  obtain ⟨n2, q2⟩ := fit_int4 h2 t2
  rw [q1] at e1
  rw [q2] at e2
  subst e1 e2
  exact ldeep_calls n1 n2 W
theorem ltlDeep_holds : Rows.LtlDeepSaid :=
 OpenClaim.holds_of_wide 13 Tryz.f13 rfl rfl rfl rfl rfl rfl rfl ⟨rfl, rfl, rfl, rfl, rfl⟩ rfl rfl rfl rfl rfl (by kernel_rfl) Tryz.func13 (by kernel_rfl)
  (of_decide_eq_true (by kernel_rfl)) (by unfold Func.isWrapper; first | (rw [if_pos (by decide +kernel)]; kernel_rfl) | (rw [if_neg (by decide +kernel)]; exact ⟨rfl, rfl⟩))
  (fun os started H enc _ => ltlDeep_lifted os started H enc)
end Go.Proofs.YtlmhajfbpplpoaaGreat
