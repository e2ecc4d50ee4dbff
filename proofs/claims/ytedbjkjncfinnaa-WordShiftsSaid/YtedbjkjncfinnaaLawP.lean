/-
  The arguments of layer 15's laws, as what they read as.
-/
import Derived.Test.YtedbjkjncfinnaaFits
import Derived.Test.YtedbjkjncfinnaaWordW
import Derived.Test.YtedbjkjncfinnaaLtl
import Derived.ProofKit
namespace Go.Proofs.Ytedbjkjncfinnaa
open Go.ChangeShapes Go.WideShapes Go.ChangeAt Go.RowKit

theorem own_knob : ownKnob Try.prog.godebug = none := by kernel_rfl
theorem laid_out : laidOutB Try.prog = true := by kernel_rfl

theorem allFit_cons {w : World} {P : Program} {t : TypeId} {ts : List TypeId} {vs : List Value} {xs : List D} (h : AllFit w P (t :: ts) vs xs) :
    ∃ v vs' x xs', vs = v :: vs' ∧ xs = x :: xs' ∧ (∃ cs, v = x.val cs ∧ D.Is w (Lt w.heap.size) x cs ∧ D.Typed P x t ∧ D.Fits P x t) ∧ AllFit w P ts vs' xs' := by
  cases vs with
  | nil => cases xs <;> exact h.elim
  | cons v vs' =>
    cases xs with
    | nil => exact h.elim
    | cons x xs' => exact ⟨v, vs', x, xs', rfl, rfl, h.1, h.2⟩
theorem allFit_nil {w : World} {P : Program} {vs : List Value} {xs : List D} (h : AllFit w P [] vs xs) : vs = [] := by
  cases vs with
  | nil => rfl
  | cons v vs' => cases xs <;> exact h.elim

section
variable {W : World} {cs : List Value} {x : D}
theorem fit_ltl (h : D.Is W (Lt W.heap.size) x cs) (ht : D.Typed Try.prog x 24) :
    ∃ (f : Ltl) (k p : Int) (A : Option Addr) (n c : Nat), x.val cs = .agg #[.int .i64 k, .int .i64 p, .slice A n c] ∧ Ltl.Is W (Lt W.heap.size) f [.int .i64 k, .int .i64 p, .slice A n c] := by
  obtain ⟨⟨k, p, r⟩, rfl, _⟩ := ltl_of ht
  have h1 : Ltl.Is W (Lt W.heap.size) (.mk k p r) cs := h
  obtain ⟨A, n, c, rfl, _⟩ := h1.form
  exact ⟨.mk k p r, k, p, A, n, c, by simp only [Ltl.d, D.val], h1⟩
theorem fit_bool (h : D.Is W (Lt W.heap.size) x cs) (ht : D.Typed Try.prog x 4) : ∃ b, x.val cs = .bool b := by
  obtain ⟨b, rfl⟩ := ht.bool_ Try.underlying4
  simp only [D.Is] at h
  subst h
  exact ⟨b, rfl⟩
theorem fit_int (h : D.Is W (Lt W.heap.size) x cs) (ht : D.Typed Try.prog x 3) : ∃ n : Int, x.val cs = .int .i64 n ∧ -9223372036854775808 ≤ n ∧ n ≤ 9223372036854775807 := by
  obtain ⟨n, rfl, hw⟩ := ht.int_ Try.underlying3
  simp only [D.Is] at h
  subst h
  refine ⟨n, rfl, ?_⟩
  simp [Lit.wf] at hw
  first | exact hw | omega
theorem let_of {y : D} (h : D.Typed Try.prog y 58) : ∃ l : List Bool, y = letD l := by
  obtain ⟨xs, rfl, hx⟩ := h.slice_ Try.underlying58
  obtain ⟨l, rfl, _⟩ := unmap (g := D.bool) (Q := fun _ => True) xs fun z hz => by
    obtain ⟨b, rfl⟩ := (hx z hz).bool_ Try.underlying4
    exact ⟨b, rfl, trivial⟩
  exact ⟨l, by unfold letD; rw [show Try.prog.cellsOf 4 = 1 by kernel_rfl]⟩
theorem lets_of {y : D} (h : D.Typed Try.prog y 25) (hf : D.Fits Try.prog y 25) : ∃ ls : List (List Bool), y = letsD ls ∧ ls.length ≤ 6000000000000 := by
  obtain ⟨xs, rfl, hx⟩ := h.slice_ Try.underlying25
  have hs := (hf.slice_ Try.underlying25).1
  rw [show Try.prog.bytesOf 58 = 24 by kernel_rfl] at hs
  obtain ⟨l, rfl, _⟩ := unmap (g := letD) (Q := fun _ => True) xs fun z hz => by
    obtain ⟨b, rfl⟩ := let_of (hx z hz)
    exact ⟨b, rfl, trivial⟩
  refine ⟨l, by unfold letsD; rw [show Try.prog.cellsOf 58 = 1 by kernel_rfl], ?_⟩
  have := Nat.le_trans hs (Nat.le_of_lt reachBytes_lt)
  simp at this
  omega
theorem fit_word (h : D.Is W (Lt W.heap.size) x cs) (ht : D.Typed Try.prog x 27) (hf : D.Fits Try.prog x 27) :
    ∃ (y : Wd) (A B : Option Addr) (c d : Nat), x.val cs = .agg #[.slice A y.stem.length c, .slice B y.cycle.length d] ∧ WdIs W (Lt W.heap.size) y (.slice A y.stem.length c) (.slice B y.cycle.length d) ∧ y.size ≤ 12000000000000 := by
  obtain ⟨xs, rfl, g0⟩ := ht.struct_ Try.underlying27
  obtain ⟨x0, r0, rfl, h0, g1⟩ := D.TypedFields.cons_ g0
  obtain ⟨x1, r1, rfl, h1, g2⟩ := D.TypedFields.cons_ g1
  obtain rfl := D.TypedFields.nil_ g2
  have f0 := hf.struct_ Try.underlying27
  obtain ⟨f1, f2⟩ := f0.cons_
  obtain ⟨f3, _⟩ := f2.cons_
  obtain ⟨s, rfl, hs⟩ := lets_of h0 f1
  obtain ⟨t, rfl, ht'⟩ := lets_of h1 f3
  simp only [D.Is, D.Cat] at h
  obtain ⟨c1, c2, rfl, h2, c3, c4, rfl, h3, rfl⟩ := h
  obtain ⟨A, c, rfl⟩ := D.Is.slice_form h2
  obtain ⟨B, d, rfl⟩ := D.Is.slice_form h3
  simp only [List.length_map] at h2 h3
  exact ⟨⟨s, t⟩, A, B, c, d, by simp [D.val], ⟨h2, h3⟩, by show s.length + t.length ≤ _; omega⟩
end
end Go.Proofs.Ytedbjkjncfinnaa
