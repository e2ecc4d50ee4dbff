/-
  WordPlains: for every input the law returns true, and its arguments read as they read before. No condition.
-/
import Derived.Test.YtedbjkjncfinnaaRows
import Derived.Test.YtedbjkjncfinnaaPlainsL
import Derived.Test.YtedbjkjncfinnaaRead
import Derived.ProofKit
namespace Go.Proofs.Ytedbjkjncfinnaa
open Go.ChangeShapes Go.WideShapes Go.ChangeAt Go.RowKit

theorem own_knob : ownKnob Try.prog.godebug = none := by kernel_rfl
theorem laid_out : laidOutB Try.prog = true := by kernel_rfl

theorem allIs_cons {w : World} {P : Program} {t : TypeId} {ts : List TypeId} {vs : List Value} {xs : List D} (h : AllIs w P (t :: ts) vs xs) :
    ∃ v vs' x xs', vs = v :: vs' ∧ xs = x :: xs' ∧ (∃ cs, v = x.val cs ∧ D.Is w (Lt w.heap.size) x cs ∧ D.Typed P x t) ∧ AllIs w P ts vs' xs' := by
  cases vs with
  | nil => cases xs <;> exact h.elim
  | cons v vs' =>
    cases xs with
    | nil => exact h.elim
    | cons x xs' => exact ⟨v, vs', x, xs', rfl, rfl, h.1, h.2⟩
theorem allIs_nil {w : World} {P : Program} {vs : List Value} {xs : List D} (h : AllIs w P [] vs xs) : vs = [] := by
  cases vs with
  | nil => rfl
  | cons v vs' => cases xs <;> exact h.elim
/-- An argument that is a property. -/
theorem arg_ltl {W : World} {cs : List Value} {x : D} (h : D.Is W (Lt W.heap.size) x cs) (ht : D.Typed Try.prog x 24) :
    ∃ (f : Ltl) (k p : Int) (A : Option Addr) (n c : Nat), x.val cs = .agg #[.int .i64 k, .int .i64 p, .slice A n c] ∧ Ltl.Is W (Lt W.heap.size) f [.int .i64 k, .int .i64 p, .slice A n c] := by
  obtain ⟨⟨k, p, r⟩, rfl, _⟩ := ltl_of ht
  have h1 : Ltl.Is W (Lt W.heap.size) (.mk k p r) cs := h
  obtain ⟨A, n, c, rfl, _⟩ := h1.form
  exact ⟨.mk k p r, k, p, A, n, c, by simp only [Ltl.d, D.val], h1⟩
theorem arg_bool {W : World} {cs : List Value} {x : D} (h : D.Is W (Lt W.heap.size) x cs) (ht : D.Typed Try.prog x 4) : ∃ b, x.val cs = .bool b := by
  obtain ⟨b, rfl⟩ := ht.bool_ Try.underlying4
  simp only [D.Is] at h
  subst h
  exact ⟨b, rfl⟩

set_option maxRecDepth 100000 in
theorem wordPlains_lifted (os : Os) (started : os.Started) (H : Type) (enc : TypeId × Value → H) :
    ReturnsInHanded {} Try.checked os 4 .any (Rows.wordPlainsSpec.pre6 enc Try.prog Try.f4 [] false) (Rows.wordPlainsSpec.post enc Try.prog Try.f4 false true false false) := by
  refine law_lifted (C := Try.checked) 3 [24, 3, 22, 4] 4 own_knob started (by kernel_rfl) Try.func4
    (ChangeSpec.witness6 (enc := enc) (C := Try.checked) false ⟨#[], #[.agg #[.int .i64 0, .int .i64 0, .slice none 0 0], .agg #[.int .i64 0, .int .i64 0, .slice none 0 0], .bool false], []⟩ 8 (by kernel_rfl) (by kernel_rfl) (by kernel_rfl) (by kernel_rfl))
    (by kernel_rfl) rfl (by kernel_rfl) laid_out rfl Try.underlying4 rfl (fun ds h => ?_) (fun W args xs h => ?_)
  · match ds, h with
    | [d1, d2, d3], _ => rfl
  · have h' : AllIs W Try.prog [24, 24, 4] args.toList xs := h
    obtain ⟨args⟩ := args
    obtain ⟨v1, a1, x1, y1, r1, _, ⟨cs1, e1, h1, t1⟩, h'⟩ := allIs_cons h'
    obtain ⟨v2, a2, x2, y2, rfl, _, ⟨cs2, e2, h2, t2⟩, h'⟩ := allIs_cons h'
    obtain ⟨v3, a3, x3, y3, rfl, _, ⟨cs3, e3, h3, t3⟩, h'⟩ := allIs_cons h'
    obtain rfl := allIs_nil h'
    have r1 : args = [v1, v2, v3] := r1
    subst r1
    obtain ⟨f, k, p, A, n, c, q1, hf⟩ := arg_ltl h1 t1
    obtain ⟨g, k', p', A', n', c', q2, hg⟩ := arg_ltl h2 t2
    obtain ⟨b, q3⟩ := arg_bool h3 t3
    rw [q1] at e1
    rw [q2] at e2
    rw [q3] at e3
    subst e1 e2 e3
    exact wordPlains_any f g k p A n c k' p' A' n' c' b W hf hg

theorem wordPlains_holds : Rows.WordPlainsSaid :=
  OpenClaim.holds_of_wide 4 Try.f4 rfl rfl rfl rfl rfl rfl rfl ⟨rfl, rfl, rfl, rfl, rfl⟩ rfl rfl rfl rfl rfl (by kernel_rfl) Try.func4 (by kernel_rfl)
    (of_decide_eq_true (by kernel_rfl)) (by unfold Func.isWrapper; first | (rw [if_pos (by decide +kernel)]; kernel_rfl) | (rw [if_neg (by decide +kernel)]; exact ⟨rfl, rfl⟩))
    (fun os started H enc _ => wordPlains_lifted os started H enc)
end Go.Proofs.Ytedbjkjncfinnaa
