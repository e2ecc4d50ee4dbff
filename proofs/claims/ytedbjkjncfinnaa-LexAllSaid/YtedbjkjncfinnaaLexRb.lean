/-
  Layer 10: the reference's All, what its walk asks of the pure lexer.
-/
import Derived.Test.YtedbjkjncfinnaaLexAl
import Derived.Test.YtedbjkjncfinnaaLexV
import Derived.Test.YtedbjkjncfinnaaLexW
import Derived.Test.YtedbjkjncfinnaaLexP
namespace Go.Proofs.Ytedbjkjncfinnaa
open Go.RowKit

theorem posI_next (s : ByteArray) (i : Nat) (h : i < s.size) : adv1 (posI s.data.toList i) (atB s i) = posI s.data.toList (i + 1) := by
  unfold posI
  have := take_at s 0 i (by omega)
  rw [List.drop_zero, Nat.zero_add] at this
  rw [this, adv_snoc]
theorem posAt_posI (s : ByteArray) (i n : Nat) : posAt s i (posI s.data.toList i) n = posI s.data.toList (i + n) := posI_add _ _ _
/-- The tokens from byte i on. -/
def lexI (s : ByteArray) (i : Nat) : LexR := lexAt s i (posI s.data.toList i)
theorem lexI_eq (s : ByteArray) (i : Nat) : lexI s i = match tok1 (s.data.toList.drop (i + gapAt false s i)) with
    | .fin => .ok [⟨5, [], (posI s.data.toList (i + gapAt false s i)).1, (posI s.data.toList (i + gapAt false s i)).2⟩]
    | .err e => .err e (posI s.data.toList (i + gapAt false s i)).1 (posI s.data.toList (i + gapAt false s i)).2
    | .tok kind n => (lexI s (i + gapAt false s i + n)).more ⟨kind, cut s (i + gapAt false s i) n, (posI s.data.toList (i + gapAt false s i)).1, (posI s.data.toList (i + gapAt false s i)).2⟩ := by
  unfold lexI
  rw [lexAt_eq]
  simp only [posAt_posI]
  generalize tok1 _ = T
  cases T <;> rfl
theorem lexI_zero (s : ByteArray) (h : ¬ 16384 < s.size) : lexAll s.data.toList = lexI s 0 := by
  unfold lexAll lexI lexAt
  rw [len_of, if_neg h, List.drop_zero]
  rfl
theorem gapAt_le (s : ByteArray) (i : Nat) (h : i ≤ s.size) : i + gapAt false s i ≤ s.size := by
  have := gap_le false (s.data.toList.drop i)
  rw [List.length_drop, len_of] at this
  unfold gapAt
  omega
theorem cls_gap (c : UInt8) : (clsB c == 5) = (c.toNat == 10 || c.toNat == 35 || c.toNat == 32 || c.toNat == 9) := by
  have : ∀ n : Fin 256, (clsB (UInt8.ofNat n) == 5) = ((UInt8.ofNat n).toNat == 10 || (UInt8.ofNat n).toNat == 35 || (UInt8.ofNat n).toNat == 32 || (UInt8.ofNat n).toNat == 9) := by decide +kernel
  have := this ⟨c.toNat, c.toNat_lt⟩
  simpa using this
/-- A byte of class 5, no sharp: one of what stands between. -/
theorem gap_white {s : ByteArray} {j : Nat} (h : j < s.size) (h5 : clsB (atB s j) = 5) (hs : (atB s j).toNat ≠ 35) : gapAt false s j = gapAt false s (j + 1) + 1 := by
  have := cls_gap (atB s j)
  rw [h5] at this
  simp at this
  rw [gapAt_at false s j h]
  rcases this with ((h1 | h1) | h1) | h1
  · rw [if_pos h1]
  · exact absurd h1 hs
  · rw [if_neg (by omega), if_neg (by simp), if_neg hs, if_pos (.inl h1)]
  · rw [if_neg (by omega), if_neg (by simp), if_neg hs, if_pos (.inr h1)]
theorem gap_none {s : ByteArray} {j : Nat} (h : j < s.size) (h5 : clsB (atB s j) ≠ 5) : gapAt false s j = 0 := by
  have := cls_gap (atB s j)
  have e : (clsB (atB s j) == 5) = false := by rw [beq_eq_false_iff_ne]; exact h5
  rw [e] at this
  have := this.symm
  simp at this
  rw [gapAt_at false s j h, if_neg (by omega), if_neg (by simp), if_neg (by omega), if_neg (by omega)]
theorem gap_sharp {s : ByteArray} {j : Nat} (h : j < s.size) (hs : (atB s j).toNat = 35) : gapAt false s j = gapAt true s j := by
  rw [gapAt_at false s j h, gapAt_at true s j h, if_neg (by omega), if_neg (by simp), if_pos hs, if_neg (by omega), if_pos rfl]
theorem gap_in {s : ByteArray} {j : Nat} (h : j < s.size) (hs : (atB s j).toNat ≠ 10) : gapAt true s j = gapAt true s (j + 1) + 1 := by
  rw [gapAt_at true s j h, if_neg hs, if_pos rfl]
theorem gap_out {s : ByteArray} {j : Nat} (h : j < s.size) (hs : (atB s j).toNat = 10) : gapAt true s j = gapAt false s j := by
  rw [gapAt_at true s j h, gapAt_at false s j h, if_pos hs, if_pos hs]
theorem cls_tok (c : UInt8) : (clsB c = 1 ↔ lowB c = true) ∧ (clsB c = 2 ↔ digB c = true) ∧ (clsB c = 4 ↔ lowB c = false ∧ digB c = false ∧ bigB c = true) ∧ (clsB c = 6 ↔ lowB c = false ∧ digB c = false ∧ bigB c = false ∧ oneB c = true) ∧ clsB c ≤ 6 := by
  have : ∀ n : Fin 256, (clsB (UInt8.ofNat n) = 1 ↔ lowB (UInt8.ofNat n) = true) ∧ (clsB (UInt8.ofNat n) = 2 ↔ digB (UInt8.ofNat n) = true) ∧ (clsB (UInt8.ofNat n) = 4 ↔ lowB (UInt8.ofNat n) = false ∧ digB (UInt8.ofNat n) = false ∧ bigB (UInt8.ofNat n) = true) ∧ (clsB (UInt8.ofNat n) = 6 ↔ lowB (UInt8.ofNat n) = false ∧ digB (UInt8.ofNat n) = false ∧ bigB (UInt8.ofNat n) = false ∧ oneB (UInt8.ofNat n) = true) ∧ clsB (UInt8.ofNat n) ≤ 6 := by decide +kernel
  have := this ⟨c.toNat, c.toNat_lt⟩
  simpa using this
/-- What begins at byte j, by its class. -/
theorem tok_end (s : ByteArray) : tok1 (s.data.toList.drop s.size) = .fin := by
  rw [List.drop_of_length_le (by rw [len_of]; exact Nat.le_refl _)]
  rfl
section
variable {s : ByteArray} {j : Nat} (h : j < s.size)
include h
theorem tok_bad (hc : clsB (atB s j) = 0 ∨ clsB (atB s j) = 3) : tok1 (s.data.toList.drop j) = .err 100 := by
  obtain ⟨c1, c2, c4, c6, _⟩ := cls_tok (atB s j)
  have hl : lowB (atB s j) = false := by rw [← Bool.not_eq_true, ← c1]; omega
  have hd : digB (atB s j) = false := by rw [← Bool.not_eq_true, ← c2]; omega
  have hb : bigB (atB s j) = false := by rw [← Bool.not_eq_true]; intro hb; have := c4.2 ⟨hl, hd, hb⟩; omega
  have ho : oneB (atB s j) = false := by rw [← Bool.not_eq_true]; intro ho; have := c6.2 ⟨hl, hd, hb, ho⟩; omega
  rw [drop_at s j h, tok1_cons, hl, hd, hb, if_neg (by simp), if_neg (by simp), if_neg (by simp), if_pos ((sgn_zero _ _).2 ho)]
theorem tok_word (hc : clsB (atB s j) = 1) : tok1 (s.data.toList.drop j) = if 20 < spanAt innB s j then .err 2 else .tok 1 (spanAt innB s j) := by
  have hl := (cls_tok (atB s j)).1.1 hc
  unfold spanAt
  rw [drop_at s j h, tok1_cons, hl, if_pos rfl]
theorem tok_num (hc : clsB (atB s j) = 2) : tok1 (s.data.toList.drop j) = if 60 < spanAt digB s j then .err 2 else if 1 < spanAt digB s j ∧ (atB s j).toNat = 48 then .err 20 else .tok 3 (spanAt digB s j) := by
  obtain ⟨c1, c2, _⟩ := cls_tok (atB s j)
  have hl : lowB (atB s j) = false := by rw [← Bool.not_eq_true, ← c1]; omega
  have hd := c2.1 hc
  unfold spanAt
  rw [drop_at s j h, tok1_cons, hl, hd, if_neg (by simp), if_pos rfl]
theorem tok_big (hc : clsB (atB s j) = 4) : tok1 (s.data.toList.drop j) = .tok 4 1 := by
  obtain ⟨hl, hd, hb⟩ := (cls_tok (atB s j)).2.2.1.1 hc
  rw [drop_at s j h, tok1_cons, hl, hd, hb, if_neg (by simp), if_neg (by simp), if_pos rfl]
theorem tok_sign1 (hc : clsB (atB s j) = 6) (he : j + 1 = s.size) : tok1 (s.data.toList.drop j) = .tok 2 1 := by
  obtain ⟨hl, hd, hb, ho⟩ := (cls_tok (atB s j)).2.2.2.1.1 hc
  rw [drop_at s j h, tok1_cons, hl, hd, hb, if_neg (by simp), if_neg (by simp), if_neg (by simp)]
  rw [List.drop_of_length_le (by rw [len_of]; omega), sgn_single, ho, if_pos rfl, if_neg (by decide)]
theorem tok_sign2 (hc : clsB (atB s j) = 6) (he : j + 1 < s.size) : tok1 (s.data.toList.drop j) = .tok 2 (if twoB (atB s j) (atB s (j + 1)) then 2 else 1) := by
  obtain ⟨hl, hd, hb, ho⟩ := (cls_tok (atB s j)).2.2.2.1.1 hc
  rw [drop_at s j h, tok1_cons, hl, hd, hb, if_neg (by simp), if_neg (by simp), if_neg (by simp)]
  rw [drop_at s (j + 1) he, sgn_two, ho]
  rcases twoB (atB s j) (atB s (j + 1)) <;> simp
end
end Go.Proofs.Ytedbjkjncfinnaa
