/-
  ExprBack: the row.
-/
import Derived.Test.YtlmhajfbpplpoaaGreatWBO
import Derived.Test.YtlmhajfbpplpoaaGreatWBQ
import Derived.ProofKit
set_option linter.unusedSectionVars false
set_option linter.unusedSimpArgs false
set_option linter.unusedVariables false
namespace Go.Proofs.YtlmhajfbpplpoaaGreat
open Go.ChangeShapes Go.WideShapes Go.ChangeAt Go.RowKit

theorem wf_of_wz : ∀ (n : Nat) (t : Tr), SizeOf.sizeOf t < n → WzT t → WfT t := by
 intro n
 induction n with
 | zero => intro t h; omega
 | succ n ih =>
  intro t hn hz
  obtain ⟨hl, hr, hk, _, _, hx⟩ := hz
  exact .mk hl hr hk fun x hm => ih x (by
   have h1 := kids_mem hm
   simp only [Tr.mk.sizeOf_spec] at hn
   omega) (hx x hm)
theorem back_calls (v1 v2 : Value) (ms : List Mo) (h1 : ms.length < 4611686018427387904) (h2 : ∀ m ∈ ms, WzMo m) (t : Tr) (hz : WzT t) (w : World) (r1 : Rep (fun _ => none) (fun g _ => g < w.heap.size) w (.ls (ms.map eMo)) v1) (r2 : Rep (fun _ => none) (fun g _ => g < w.heap.size) w (.agg (eTr t)) v2) :
  Calls Tryz.prog 4 #[v1, v2] w fun e w' => e = .returned (.bool true) ∧ Below w.heap.size w w' := by
 have g := den_calls seatTw_good (back_ok kEaTw kEbTw nameFTw kWaTw kWbTw lexATw kSaTw kTaTw lexNTw kTxTw sumGTw kLcTw aliveTw ms h1 h2 t hz (wf_of_wz _ t (Nat.lt_succ_self _) hz)) w [v1, v2] (by
  simp only [RepList]
  exact ⟨_, _, rfl, r1, _, _, rfl, r2, rfl⟩)
 refine Calls.mono g ?_
 rintro e w' ⟨u, rfl, hb, μ', F', hr⟩
 unfold bv Rep at hr
 rw [hr.1]
 exact ⟨rfl, hb⟩
set_option maxRecDepth 100000 in
theorem exprBack_lifted (os : Go.Os) (started : os.Started) (H : Type) (enc : TypeId × Value → H) :
  ReturnsInHanded {} Tryz.checked os 4 .any (Rows.exprBackSpec.pre6 enc Tryz.prog Tryz.f4 [] false) (Rows.exprBackSpec.post enc Tryz.prog Tryz.f4 false true false false) := by
 refine law_fit (C := Tryz.checked) 2 [4, 9, 3, 115, 23, 33, 31] 4 own_knob started (by kernel_rfl) Tryz.func4
  (ChangeSpec.witness6 (enc := enc) (C := Tryz.checked) false ⟨#[], #[.slice none 0 0, .agg #[.int .i64 0, .slice none 0 0, .slice none 0 0, .int .i64 0, .string ⟨#[]⟩, .string ⟨#[]⟩, .slice none 0 0]], []⟩ 8 (by kernel_rfl) (by kernel_rfl) (by kernel_rfl) (by kernel_rfl))
  (by kernel_rfl) rfl (by kernel_rfl) laid_out rfl Tryz.underlying4 rfl (fun ds h => ?_) (fun W args xs h => ?_)
 ·match ds, h with
  | [d1, d2], _ => rfl
 ·have h' : AllFit W Tryz.prog [23, 33] args.toList xs := h
  obtain ⟨args⟩ := args
  obtain ⟨v1, a1, x1, y1, r1, rfl, ⟨cs1, e1, h1, t1, z1⟩, h'⟩ := allFit_cons h'
  obtain ⟨v2, a2, x2, y2, rfl, rfl, ⟨cs2, e2, h2, t2, z2⟩, h'⟩ := allFit_cons h'
  obtain rfl := allFit_nil h'
  have r1 : args = [v1, v2] := r1
  subst r1
  obtain ⟨ms, m1, m2, m3⟩ := mos_of t1 z1
  obtain ⟨t, k1, k2⟩ := tr_of _ x2 (Nat.le_refl _) t2 z2
  have i1 := is_rep (μ := fun _ => none) (F := fun g _ => g < W.heap.size) (fun g hg _ => hg) x1 cs1 h1
  have i2 := is_rep (μ := fun _ => none) (F := fun g _ => g < W.heap.size) (fun g hg _ => hg) x2 cs2 h2
  rw [m1] at i1
  rw [k1] at i2
  obtain ⟨ys, rfl, _⟩ := t1.slice_ Tryz.underlying23
  obtain ⟨zs, rfl, _⟩ := t2.struct_ Tryz.underlying33
  rw [RepList] at i1
  obtain ⟨u, tl, rfl, i1, i3⟩ := i1
  rw [RepList] at i3
  subst i3
  have e1 : v1 = u := e1
  have e2 : v2 = .agg cs2.toArray := e2
  subst e1 e2
  exact back_calls v1 _ ms m2 m3 t k2 W i1 (by rw [Rep]; exact ⟨cs2.toArray, rfl, i2⟩)
theorem exprBack_holds : Rows.ExprBackSaid :=
 OpenClaim.holds_of_wide 4 Tryz.f4 rfl rfl rfl rfl rfl rfl rfl ⟨rfl, rfl, rfl, rfl, rfl⟩ rfl rfl rfl rfl rfl (by kernel_rfl) Tryz.func4 (by kernel_rfl)
  (of_decide_eq_true (by kernel_rfl)) (by unfold Func.isWrapper; first | (rw [if_pos (by decide +kernel)]; kernel_rfl) | (rw [if_neg (by decide +kernel)]; exact ⟨rfl, rfl⟩))
  (fun os started H enc _ => exprBack_lifted os started H enc)
end Go.Proofs.YtlmhajfbpplpoaaGreat
