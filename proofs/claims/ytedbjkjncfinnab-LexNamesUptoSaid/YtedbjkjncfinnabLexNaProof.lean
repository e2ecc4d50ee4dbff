/-
  LexNames: for every input of bulk at most 1048576 the law returns true, and its arguments read as they read before.
-/
import Derived.Test.YtedbjkjncfinnabRows
import Derived.Test.YtedbjkjncfinnabLexNa
import Derived.Test.YtedbjkjncfinnabLawG
import Derived.Test.YtedbjkjncfinnabSmall
import Derived.ProofKit
namespace Go.Proofs.Ytedbjkjncfinnab
open Go.ChangeShapes Go.WideShapes Go.ChangeAt Go.RowKit

theorem allRead_cons {w : World} {P : Program} {t : TypeId} {ts : List TypeId} {vs : List Value} {xs : List D} (h : AllRead w P (t :: ts) vs xs) :
    ∃ v vs' x xs', vs = v :: vs' ∧ xs = x :: xs' ∧ (∃ cs, v = x.val cs ∧ D.Is w (Lt w.heap.size) x cs ∧ D.Typed P x t) ∧ AllRead w P ts vs' xs' := by
  cases vs with
  | nil => cases xs <;> exact h.elim
  | cons v vs' =>
    cases xs with
    | nil => exact h.elim
    | cons x xs' => exact ⟨v, vs', x, xs', rfl, rfl, h.1, h.2⟩
theorem allRead_nil {w : World} {P : Program} {vs : List Value} {xs : List D} (h : AllRead w P [] vs xs) : vs = [] ∧ xs = [] := by
  cases vs with
  | nil =>
    cases xs with
    | nil => exact ⟨rfl, rfl⟩
    | cons _ _ => exact h.elim
  | cons v vs' => cases xs <;> exact h.elim
theorem fit_strs {W : World} {cs : List Value} {x : D} (h : D.Is W (Lt W.heap.size) x cs) (ht : D.Typed Try.prog x 22) : ∃ bs : List ByteArray, x = .slice 1 (bs.map D.str) ∧ StrsIn W (x.val cs) bs := by
  obtain ⟨xs, rfl, hx⟩ := ht.slice_ Try.underlying22
  obtain ⟨bs, rfl, _⟩ := unmap (g := D.str) (Q := fun _ => True) xs fun z hz => by
    obtain ⟨n, rfl⟩ := (hx z hz).str_ Try.underlying9
    exact ⟨n, rfl, trivial⟩
  rw [show Try.prog.cellsOf 9 = 1 by kernel_rfl] at h ⊢
  obtain ⟨A, c, rfl⟩ := D.Is.slice_form h
  obtain ⟨_, h2, h3, h4⟩ := D.Is.slice_at h
  simp only [List.length_map] at h2 h4 ⊢
  unfold maxLen at h3
  refine ⟨bs, rfl, A, c, rfl, by omega, fun h0 => ?_⟩
  obtain ⟨b, o, rfl, hb, hc⟩ := h4 h0
  refine ⟨b, o, rfl, hb, fun i hi => ?_⟩
  obtain ⟨cs, h5, h6, h7⟩ := hc i (by simpa using hi)
  rw [List.getElem_map] at h7
  simp only [D.Is] at h7
  obtain ⟨rfl, _⟩ := h7
  have := h6 0 _ rfl
  simpa using this
theorem tail_bulk : ∀ bs : List ByteArray, (Lib.joinTail [32] ((bs.map mkTk).map (·.text))).length = D.bulkAll (bs.map D.str)
  | [] => by simp [Lib.joinTail, D.bulkAll]
  | b :: bs => by
    have := tail_bulk bs
    simp only [Lib.joinTail, List.map_cons, List.flatten_cons, List.length_append, D.bulkAll, D.bulk] at this ⊢
    rw [this]
    simp [mkTk]
    omega
theorem spell_bulk (bs : List ByteArray) : (spellL (bs.map mkTk)).length ≤ D.bulkAll (bs.map D.str) := by
  unfold spellL
  cases bs with
  | nil => simp [Lib.join_nil]
  | cons b bs =>
    have := tail_bulk bs
    rw [List.map_cons, List.map_cons, Lib.join_cons, List.length_append, this]
    simp [mkTk, D.bulkAll, D.bulk]
set_option maxRecDepth 100000 in
theorem lexNames_lifted (os : Os) (started : os.Started) (H : Type) (enc : TypeId × Value → H) (F : Stop.Interp) :
    ReturnsInHanded {} Try.checked os 3 .any ((Rows.OpenSpec.upto Rows.lexNamesSpec).pre6 enc Try.prog Try.f3 [] false) (((Rows.OpenSpec.upto Rows.lexNamesSpec).at F).post enc Try.prog Try.f3 false true false false) := by
  refine law_small (C := Try.checked) 2 [9, 22] 4 own_knob started (by kernel_rfl) Try.func3
    (OpenSpec.witness (enc := enc) (C := Try.checked) (k := Rows.uptoSmall) rfl false ⟨#[], #[.string ⟨#[]⟩, .slice none 0 0], []⟩ 8 (by kernel_rfl) (by kernel_rfl) (by kernel_rfl) (x := ([.lit (.string []), .nil], [], [])) (by kernel_rfl) (by kernel_rfl) (by kernel_rfl))
    (by kernel_rfl) rfl (by kernel_rfl) laid_out rfl Try.underlying4 rfl (fun ds h => ?_) (fun W args xs h hb => ?_)
  · match ds, h with
    | [d1, d2], _ => rfl
  · have h' : AllRead W Try.prog [9, 22] args.toList xs := h
    obtain ⟨args⟩ := args
    obtain ⟨v1, a1, x1, y1, r1, rfl, ⟨cs1, e1, h1, t1⟩, h'⟩ := allRead_cons h'
    obtain ⟨v2, a2, x2, y2, rfl, rfl, ⟨cs2, e2, h2, t2⟩, h'⟩ := allRead_cons h'
    obtain ⟨rfl, rfl⟩ := allRead_nil h'
    have r1 : args = [v1, v2] := r1
    subst r1
    obtain ⟨s1, q1, i1⟩ := fit_str h1 t1
    obtain ⟨bs, rfl, i2⟩ := fit_strs h2 t2
    rw [q1] at e1
    subst e1 e2
    simp only [D.bulkAll, D.bulk] at hb
    have hl := spell_bulk bs
    exact lexNames_any s1 _ bs W i1 i2 (fun _ => by omega)

theorem lexNamesUpto_holds : Rows.LexNamesUptoSaid :=
  OpenClaim.holds_of_cond 3 Try.f3 rfl rfl rfl rfl rfl rfl rfl ⟨rfl, rfl, rfl, rfl, rfl⟩ rfl rfl rfl rfl rfl (by kernel_rfl) Try.func3 (by kernel_rfl)
    (of_decide_eq_true (by kernel_rfl)) (by unfold Func.isWrapper; first | (rw [if_pos (by decide +kernel)]; kernel_rfl) | (rw [if_neg (by decide +kernel)]; exact ⟨rfl, rfl⟩))
    (fun os started H enc _ F => lexNames_lifted os started H enc F)
end Go.Proofs.Ytedbjkjncfinnab
