/-
  WordShifts: for every input the law returns true, and its arguments read as they read before. No condition.
-/
import Derived.Test.YtedbjkjncfinnaaRows
import Derived.Test.YtedbjkjncfinnaaShiftsL
import Derived.Test.YtedbjkjncfinnaaLawP
import Derived.ProofKit
namespace Go.Proofs.Ytedbjkjncfinnaa
open Go.ChangeShapes Go.WideShapes Go.ChangeAt Go.RowKit

set_option maxRecDepth 100000 in
theorem wordShifts_lifted (os : Os) (started : os.Started) (H : Type) (enc : TypeId × Value → H) :
    ReturnsInHanded {} Try.checked os 7 .any (Rows.wordShiftsSpec.pre6 enc Try.prog Try.f7 [] false) (Rows.wordShiftsSpec.post enc Try.prog Try.f7 false true false false) := by
  refine law_fit (C := Try.checked) 3 [24, 3, 22, 4, 27, 25, 58] 4 own_knob started (by kernel_rfl) Try.func7
    (ChangeSpec.witness6 (enc := enc) (C := Try.checked) false ⟨#[], #[.agg #[.int .i64 0, .int .i64 0, .slice none 0 0], .agg #[.slice none 0 0, .slice none 0 0], .int .i64 0], []⟩ 8 (by kernel_rfl) (by kernel_rfl) (by kernel_rfl) (by kernel_rfl))
    (by kernel_rfl) rfl (by kernel_rfl) laid_out rfl Try.underlying4 rfl (fun ds h => ?_) (fun W args xs h => ?_)
  · match ds, h with
    | [d1, d2, d3], _ => rfl
  · have h' : AllFit W Try.prog [24, 27, 3] args.toList xs := h
    obtain ⟨args⟩ := args
    obtain ⟨v1, a1, x1, y1, r1, _, ⟨cs1, e1, h1, t1, z1⟩, h'⟩ := allFit_cons h'
    obtain ⟨v2, a2, x2, y2, rfl, _, ⟨cs2, e2, h2, t2, z2⟩, h'⟩ := allFit_cons h'
    obtain ⟨v3, a3, x3, y3, rfl, _, ⟨cs3, e3, h3, t3, z3⟩, h'⟩ := allFit_cons h'
    obtain rfl := allFit_nil h'
    have r1 : args = [v1, v2, v3] := r1
    subst r1
    obtain ⟨f1, k1, p1, K1, n1, c1, q1, i1⟩ := fit_ltl h1 t1
    obtain ⟨w2, A2, B2, c2, d2, q2, i2, b2⟩ := fit_word h2 t2 z2
    obtain ⟨n3, q3, lo3, hi3⟩ := fit_int h3 t3
    rw [q1] at e1
    rw [q2] at e2
    rw [q3] at e3
    subst e1 e2 e3
    exact wordShifts_any f1 w2 k1 p1 K1 n1 c1 A2 B2 c2 d2 n3 W (by omega) hi3 i1 i2

theorem wordShifts_holds : Rows.WordShiftsSaid :=
  OpenClaim.holds_of_wide 7 Try.f7 rfl rfl rfl rfl rfl rfl rfl ⟨rfl, rfl, rfl, rfl, rfl⟩ rfl rfl rfl rfl rfl (by kernel_rfl) Try.func7 (by kernel_rfl)
    (of_decide_eq_true (by kernel_rfl)) (by unfold Func.isWrapper; first | (rw [if_pos (by decide +kernel)]; kernel_rfl) | (rw [if_neg (by decide +kernel)]; exact ⟨rfl, rfl⟩))
    (fun os started H enc _ => wordShifts_lifted os started H enc)
end Go.Proofs.Ytedbjkjncfinnaa
