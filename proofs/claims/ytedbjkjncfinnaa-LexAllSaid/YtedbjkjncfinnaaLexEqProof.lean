/-
  LexAll: for every input the law returns true, and its arguments read as they read before. No condition.
-/
import Derived.Test.YtedbjkjncfinnaaRows
import Derived.Test.YtedbjkjncfinnaaLexEq
import Derived.Test.YtedbjkjncfinnaaLawG
import Derived.ProofKit
namespace Go.Proofs.Ytedbjkjncfinnaa
open Go.ChangeShapes Go.WideShapes Go.ChangeAt Go.RowKit

set_option maxRecDepth 100000 in
theorem lexAll_lifted (os : Os) (started : os.Started) (H : Type) (enc : TypeId × Value → H) :
    ReturnsInHanded {} Try.checked os 8 .any (Rows.lexAllSpec.pre6 enc Try.prog Try.f8 [] false) (Rows.lexAllSpec.post enc Try.prog Try.f8 false true false false) := by
  refine law_fit (C := Try.checked) 1 [9, 4] 4 own_knob started (by kernel_rfl) Try.func8
    (ChangeSpec.witness6 (enc := enc) (C := Try.checked) false ⟨#[], #[.string ⟨#[]⟩], []⟩ 8 (by kernel_rfl) (by kernel_rfl) (by kernel_rfl) (by kernel_rfl))
    (by kernel_rfl) rfl (by kernel_rfl) laid_out rfl Try.underlying4 rfl (fun ds h => ?_) (fun W args xs h => ?_)
  · match ds, h with
    | [d1], _ => rfl
  · have h' : AllFit W Try.prog [9] args.toList xs := h
    obtain ⟨args⟩ := args
    obtain ⟨v1, a1, x1, y1, r1, _, ⟨cs1, e1, h1, t1, z1⟩, h'⟩ := allFit_cons h'
    obtain rfl := allFit_nil h'
    have r1 : args = [v1] := r1
    subst r1
    obtain ⟨s1, q1, i1⟩ := fit_str h1 t1
    rw [q1] at e1
    subst e1
    exact lexAll_any s1 W i1

theorem lexAll_holds : Rows.LexAllSaid :=
  OpenClaim.holds_of_wide 8 Try.f8 rfl rfl rfl rfl rfl rfl rfl ⟨rfl, rfl, rfl, rfl, rfl⟩ rfl rfl rfl rfl rfl (by kernel_rfl) Try.func8 (by kernel_rfl)
    (of_decide_eq_true (by kernel_rfl)) (by unfold Func.isWrapper; first | (rw [if_pos (by decide +kernel)]; kernel_rfl) | (rw [if_neg (by decide +kernel)]; exact ⟨rfl, rfl⟩))
    (fun os started H enc _ => lexAll_lifted os started H enc)
end Go.Proofs.Ytedbjkjncfinnaa
