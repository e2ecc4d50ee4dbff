/-
  The arguments of layer 10's laws, as what they read as.
-/
import Derived.Test.YtedbjkjncfinnabFits
import Derived.ProofKit
import Derived.Test.YtedbjkjncfinnabRows
namespace Go.Proofs.Ytedbjkjncfinnab
open Go.ChangeShapes Go.WideShapes Go.ChangeAt Go.RowKit

theorem own_knob : ownKnob Try.prog.godebug = none := by kernel_rfl
theorem laid_out : laidOutB Try.prog = true := by kernel_rfl
theorem allFit_cons {w : World} {P : Program} {t : TypeId} {ts : List TypeId} {vs : List Value} {xs : List D} (h : AllFit w P (t :: ts) vs xs) :
    ∃ v vs' x xs', vs = v :: vs' ∧ xs = x :: xs' ∧ (∃ cs, v = x.val cs ∧ D.Is w (Lt w.heap.size) x cs ∧ D.Typed P x t ∧ D.Fits P x t) ∧ AllFit w P ts vs' xs' := by
  cases vs with
  | nil => cases xs <;> exact h.elim
  | cons v vs' =>
    cases xs with
    | nil => exact h.elim
    | cons x xs' => exact ⟨v, vs', x, xs', rfl, rfl, h.1, h.2⟩
theorem allFit_nil {w : World} {P : Program} {vs : List Value} {xs : List D} (h : AllFit w P [] vs xs) : vs = [] := by
  cases vs with
  | nil => rfl
  | cons v vs' => cases xs <;> exact h.elim
section
variable {W : World} {cs : List Value} {x : D}
theorem fit_str (h : D.Is W (Lt W.heap.size) x cs) (ht : D.Typed Try.prog x 9) : ∃ s : ByteArray, x.val cs = .string s ∧ s.size ≤ 9223372036854775807 := by
  obtain ⟨s, rfl⟩ := ht.str_ Try.underlying9
  simp only [D.Is] at h
  obtain ⟨rfl, h⟩ := h
  unfold maxLen at h
  exact ⟨s, rfl, by omega⟩
theorem fit_ints (h : D.Is W (Lt W.heap.size) x cs) (ht : D.Typed Try.prog x 38) : ∃ (zs : List Int) (A : Option Addr) (c : Nat), x.val cs = .slice A zs.length c ∧ zs.length ≤ 9223372036854775807 ∧ (0 < zs.length → ∃ b o, A = some ⟨b, o, none⟩ ∧ b < W.heap.size ∧ ∀ i (h : i < zs.length), W.cell? ⟨b, o + i, none⟩ = some (.int .i64 zs[i])) := by
  obtain ⟨xs, rfl, hx⟩ := ht.slice_ Try.underlying38
  obtain ⟨zs, rfl, _⟩ := unmap (g := D.int .i64) (Q := fun _ => True) xs fun z hz => by
    obtain ⟨n, rfl, _⟩ := (hx z hz).int_ Try.underlying3
    exact ⟨n, rfl, trivial⟩
  rw [show Try.prog.cellsOf 3 = 1 by kernel_rfl] at h ⊢
  obtain ⟨A, c, rfl⟩ := D.Is.slice_form h
  obtain ⟨_, h2, h3, h4⟩ := D.Is.slice_at h
  simp only [List.length_map] at h2 h4 ⊢
  unfold maxLen at h3
  refine ⟨zs, A, c, rfl, by omega, fun h0 => ?_⟩
  obtain ⟨b, o, rfl, hb, hc⟩ := h4 h0
  refine ⟨b, o, rfl, hb, fun i hi => ?_⟩
  obtain ⟨cs, h5, h6, h7⟩ := hc i (by simpa using hi)
  rw [List.getElem_map] at h7
  simp only [D.Is] at h7
  subst h7
  have := h6 0 _ rfl
  simpa using this
end
end Go.Proofs.Ytedbjkjncfinnab
