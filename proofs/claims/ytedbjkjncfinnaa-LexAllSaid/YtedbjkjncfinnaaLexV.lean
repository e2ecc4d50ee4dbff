/-
  Where tokens stand. No program in sight.
-/
import Derived.Test.YtedbjkjncfinnaaLexR
namespace Go.Proofs.Ytedbjkjncfinnaa

def Bef (p q : Nat × Nat) : Prop := p.1 < q.1 ∨ (p.1 = q.1 ∧ p.2 < q.2)
theorem Bef.trans {p q r : Nat × Nat} (h : Bef p q) (k : Bef q r) : Bef p r := by
  unfold Bef at *
  omega
theorem bef_adv1 (p : Nat × Nat) (c : UInt8) : Bef p (adv1 p c) := by
  unfold Bef adv1
  split
  · left; show p.1 < p.1 + 1; omega
  · right; exact ⟨rfl, by show p.2 < p.2 + 1; omega⟩
theorem bef_adv : ∀ (l : List UInt8) (p : Nat × Nat), l ≠ [] → Bef p (adv p l)
  | [], _, h => absurd rfl h
  | [c], p, _ => bef_adv1 p c
  | c :: d :: l, p, _ => (bef_adv1 p c).trans (bef_adv (d :: l) (adv1 p c) (by simp))
theorem bef_ne {p q : Nat × Nat} (h : Bef p q) : ¬ (p.1 = q.1 ∧ p.2 = q.2) := by
  unfold Bef at h
  omega
/-- The place of byte i. -/
def posI (l : List UInt8) (i : Nat) : Nat × Nat := adv (1, 1) (l.take i)
theorem posI_add (l : List UInt8) (i n : Nat) : adv (posI l i) ((l.drop i).take n) = posI l (i + n) := by
  unfold posI
  rw [← adv_append, ← List.take_add]
theorem posI_bef (l : List UInt8) (i j : Nat) (h : i < j) (hj : j ≤ l.length) : Bef (posI l i) (posI l j) := by
  obtain ⟨n, rfl⟩ : ∃ n, j = i + n := ⟨j - i, by omega⟩
  rw [← posI_add]
  refine bef_adv _ _ ?_
  intro e
  have := congrArg List.length e
  rw [List.length_take, List.length_drop] at this
  simp at this
  omega
/-- The tokens stand where they say, from i on. -/
def Placed (l : List UInt8) : Nat → List Tk → Prop
  | _, [] => True
  | i, t :: ts => ∃ j, i ≤ j ∧ j + t.text.length ≤ l.length ∧ (t.ln, t.co) = posI l j ∧ t.text = (l.drop j).take t.text.length ∧ (ts = [] ∨ 0 < t.text.length) ∧ Placed l (j + t.text.length) ts
theorem Placed.le {l : List UInt8} {i i' : Nat} {ts : List Tk} (h : Placed l i ts) (hi : i' ≤ i) : Placed l i' ts := by
  cases ts with
  | nil => trivial
  | cons t ts =>
    obtain ⟨j, h1, h2⟩ := h
    exact ⟨j, by omega, h2⟩
theorem lex_placed (l : List UInt8) : ∀ (N i : Nat) (ts : List Tk), l.length - i ≤ N → i ≤ l.length → lexL (l.drop i) (posI l i) = .ok ts → Placed l i ts := by
  intro N
  induction N with
  | zero =>
    intro i ts hN hi h
    obtain rfl : i = l.length := by omega
    rw [List.drop_length, lexL_eq] at h
    simp [gap, tok1] at h
    subst h
    refine ⟨l.length, Nat.le_refl _, by simp, ?_, by simp, .inl rfl, trivial⟩
    simp [adv]
  | succ N ih =>
    intro i ts hN hi h
    have hk := gap_le false (l.drop i)
    rw [List.length_drop] at hk
    rw [lexL_eq] at h
    rw [posI_add, List.drop_drop] at h
    cases ht : tok1 (l.drop (i + gap false (l.drop i))) with
    | fin =>
      rw [ht] at h
      injection h with h
      subst h
      have he := tok1_nil_fin ht
      have hl : l.length ≤ i + gap false (l.drop i) := by
        have := congrArg List.length he
        rw [List.length_drop] at this
        simp at this
        omega
      refine ⟨i + gap false (l.drop i), by omega, by simp; omega, rfl, by simp, .inl rfl, trivial⟩
    | err e => rw [ht] at h; cases h
    | tok k n =>
      rw [ht] at h
      have hn := tok1_len ht
      rw [List.length_drop] at hn
      simp only [List.drop_drop] at h
      rw [posI_add, ← Nat.add_assoc] at h
      generalize hr : lexL (l.drop (i + gap false (l.drop i) + n)) (posI l (i + gap false (l.drop i) + n)) = r at h
      cases r with
      | err e a b => cases h
      | ok us =>
        injection h with h
        subst h
        have := ih _ _ (by omega) (by omega) hr
        have hlen : ((l.drop (i + gap false (l.drop i))).take n).length = n := by rw [List.length_take, List.length_drop]; omega
        refine ⟨i + gap false (l.drop i), by omega, ?_, rfl, ?_, .inr ?_, ?_⟩
        · show _ + ((l.drop (i + gap false (l.drop i))).take n).length ≤ _
          rw [hlen]; omega
        · show (l.drop (i + gap false (l.drop i))).take n = (l.drop (i + gap false (l.drop i))).take ((l.drop (i + gap false (l.drop i))).take n).length
          rw [hlen]
        · show 0 < ((l.drop (i + gap false (l.drop i))).take n).length
          rw [hlen]; omega
        · show Placed l (_ + ((l.drop (i + gap false (l.drop i))).take n).length) us
          rw [hlen]; exact this
theorem all_placed {l : List UInt8} {ts : List Tk} (h : lexAll l = .ok ts) : Placed l 0 ts := by
  unfold lexAll at h
  split at h
  · cases h
  · exact lex_placed l _ 0 ts (Nat.le_refl _) (Nat.zero_le _) h
theorem err_place : ∀ (N : Nat) (l : List UInt8) (p : Nat × Nat) (c a b : Nat), l.length ≤ N → 1 ≤ p.1 ∧ 1 ≤ p.2 → lexL l p = .err c a b → 1 ≤ a ∧ 1 ≤ b := by
  have hadv : ∀ (l : List UInt8) (p : Nat × Nat), 1 ≤ p.1 ∧ 1 ≤ p.2 → 1 ≤ (adv p l).1 ∧ 1 ≤ (adv p l).2 := by
    intro l
    induction l with
    | nil => intro p h; exact h
    | cons c l ih =>
      intro p h
      refine ih (adv1 p c) ?_
      unfold adv1
      split
      · exact ⟨by show 1 ≤ p.1 + 1; omega, Nat.le_refl _⟩
      · exact ⟨h.1, by show 1 ≤ p.2 + 1; omega⟩
  intro N
  induction N with
  | zero =>
    intro l p c a b hl hp h
    obtain rfl : l = [] := List.length_eq_zero_iff.1 (by omega)
    rw [lexL_eq] at h
    simp [gap, tok1] at h
  | succ N ih =>
    intro l p c a b hl hp h
    rw [lexL_eq] at h
    cases ht : tok1 (l.drop (gap false l)) with
    | fin => rw [ht] at h; cases h
    | err e =>
      rw [ht] at h
      injection h with h1 h2 h3
      subst h2 h3
      exact hadv _ _ hp
    | tok k n =>
      rw [ht] at h
      have hn := tok1_len ht
      rw [List.length_drop] at hn
      simp only at h
      generalize hr : lexL (l.drop (gap false l + n)) (adv (adv p (l.take (gap false l))) ((l.drop (gap false l)).take n)) = r at h
      cases r with
      | ok us => cases h
      | err e a' b' =>
        injection h with h1 h2 h3
        subst h2 h3
        exact ih _ _ _ _ _ (by rw [List.length_drop]; omega) (hadv _ _ (hadv _ _ hp)) hr
theorem err_place_all {l : List UInt8} {c a b : Nat} (h : lexAll l = .err c a b) : 1 ≤ a ∧ 1 ≤ b := by
  unfold lexAll at h
  split at h
  · injection h with h1 h2 h3; omega
  · exact err_place _ l _ c a b (Nat.le_refl _) ⟨by decide, by decide⟩ h
end Go.Proofs.Ytedbjkjncfinnaa
