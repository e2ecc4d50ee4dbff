/-
  LexBetween: for every input the law returns true, and its arguments read as they read before. No condition.
-/
import Derived.Test.YtedbjkjncfinnabRows
import Derived.Test.YtedbjkjncfinnabLexBe
import Derived.Test.YtedbjkjncfinnabLawG
import Derived.ProofKit
namespace Go.Proofs.Ytedbjkjncfinnab
open Go.ChangeShapes Go.WideShapes Go.ChangeAt Go.RowKit

set_option maxRecDepth 100000 in
theorem lexBetween_lifted (os : Os) (started : os.Started) (H : Type) (enc : TypeId × Value → H) :
    ReturnsInHanded {} Try.checked os 6 .any (Rows.lexBetweenSpec.pre6 enc Try.prog Try.f6 [] false) (Rows.lexBetweenSpec.post enc Try.prog Try.f6 false true false false) := by
  refine law_fit (C := Try.checked) 3 [9, 4, 38, 3] 4 own_knob started (by kernel_rfl) Try.func6
    (ChangeSpec.witness6 (enc := enc) (C := Try.checked) false ⟨#[], #[.string ⟨#[]⟩, .string ⟨#[]⟩, .slice none 0 0], []⟩ 8 (by kernel_rfl) (by kernel_rfl) (by kernel_rfl) (by kernel_rfl))
    (by kernel_rfl) rfl (by kernel_rfl) laid_out rfl Try.underlying4 rfl (fun ds h => ?_) (fun W args xs h => ?_)
  · match ds, h with
    | [d1, d2, d3], _ => rfl
  · have h' : AllFit W Try.prog [9, 9, 38] args.toList xs := h
    obtain ⟨args⟩ := args
    obtain ⟨v1, a1, x1, y1, r1, _, ⟨cs1, e1, h1, t1, z1⟩, h'⟩ := allFit_cons h'
    obtain ⟨v2, a2, x2, y2, rfl, _, ⟨cs2, e2, h2, t2, z2⟩, h'⟩ := allFit_cons h'
    obtain ⟨v3, a3, x3, y3, rfl, _, ⟨cs3, e3, h3, t3, z3⟩, h'⟩ := allFit_cons h'
    obtain rfl := allFit_nil h'
    have r1 : args = [v1, v2, v3] := r1
    subst r1
    obtain ⟨s1, q1, i1⟩ := fit_str h1 t1
    obtain ⟨s2, q2, i2⟩ := fit_str h2 t2
    obtain ⟨s3, A3, c3, q3, l3, i3⟩ := fit_ints h3 t3
    rw [q1] at e1
    rw [q2] at e2
    rw [q3] at e3
    subst e1 e2 e3
    exact lexBetween_any s1 s2 _ s3 W i1 i2 ⟨A3, c3, rfl, l3, i3⟩

theorem lexBetween_holds : Rows.LexBetweenSaid :=
  OpenClaim.holds_of_wide 6 Try.f6 rfl rfl rfl rfl rfl rfl rfl ⟨rfl, rfl, rfl, rfl, rfl⟩ rfl rfl rfl rfl rfl (by kernel_rfl) Try.func6 (by kernel_rfl)
    (of_decide_eq_true (by kernel_rfl)) (by unfold Func.isWrapper; first | (rw [if_pos (by decide +kernel)]; kernel_rfl) | (rw [if_neg (by decide +kernel)]; exact ⟨rfl, rfl⟩))
    (fun os started H enc _ => lexBetween_lifted os started H enc)
end Go.Proofs.Ytedbjkjncfinnab
