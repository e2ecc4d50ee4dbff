/-
  Tokens laid out again, with whatever may stand between them: they are read as the same tokens. No program in sight.
-/
import Derived.Test.YtlmhajfbpplpoaaGreatXBH
import Derived.Lib.Join
set_option linter.unusedSectionVars false
set_option linter.unusedSimpArgs false
set_option linter.unusedVariables false
namespace Go.Proofs.YtlmhajfbpplpoaaGreat

def gapB (c : UInt8) : Bool := c.toNat == 10 || c.toNat == 32 || c.toNat == 9 || c.toNat == 35
def Sep (b : List UInt8) : Prop := ∃ c r, b = c :: r ∧ gapB c = true
def Ends (rest : List UInt8) : Prop := rest = [] ∨ Sep rest
def Good (k : Nat) (text : List UInt8) : Prop := (∃ c r, text = c :: r ∧ gapB c = false) ∧ ∀ rest, Ends rest → tok1 (text ++ rest) = .tok k text.length

theorem gapB_cases {c : UInt8} (h : gapB c = true) : c.toNat = 10 ∨ c.toNat = 32 ∨ c.toNat = 9 ∨ c.toNat = 35 := by
 unfold gapB at h
 simp only [Bool.or_eq_true, beq_iff_eq] at h
 omega
theorem gapB_inn {c : UInt8} (h : gapB c = true) : innB c = false := by
 have := gapB_cases h
 unfold innB lowB digB
 simp only [Bool.or_eq_false_iff, Bool.and_eq_false_iff, decide_eq_false_iff_not, beq_eq_false_iff_ne]
 omega
theorem gapB_dig {c : UInt8} (h : gapB c = true) : digB c = false := by
 have := gapB_cases h
 unfold digB
 simp only [Bool.and_eq_false_iff, decide_eq_false_iff_not]
 omega
theorem gapB_two {c d : UInt8} (h : gapB d = true) : twoB c d = false := by
 have := gapB_cases h
 unfold twoB sgnN
 rw [decide_eq_false_iff_not]
 repeat' split
 all_goals omega
theorem low_gap {c : UInt8} (h : lowB c = true) : gapB c = false := by
 unfold lowB at h
 unfold gapB
 simp only [Bool.and_eq_true, decide_eq_true_eq] at h
 simp only [Bool.or_eq_false_iff, beq_eq_false_iff_ne]
 omega
theorem dig_gap {c : UInt8} (h : digB c = true) : gapB c = false := by
 unfold digB at h
 unfold gapB
 simp only [Bool.and_eq_true, decide_eq_true_eq] at h
 simp only [Bool.or_eq_false_iff, beq_eq_false_iff_ne]
 omega
theorem big_gap {c : UInt8} (h : bigB c = true) : gapB c = false := by
 unfold bigB at h
 unfold gapB
 simp only [List.contains_cons, List.contains_nil, Bool.or_eq_true, beq_iff_eq, Bool.or_false] at h
 simp only [Bool.or_eq_false_iff, beq_eq_false_iff_ne]
 omega
theorem one_gap {c : UInt8} (h : oneB c = true) : gapB c = false := by
 unfold oneB at h
 unfold gapB
 simp only [List.contains_cons, List.contains_nil, Bool.or_eq_true, beq_iff_eq, Bool.or_false] at h
 simp only [Bool.or_eq_false_iff, beq_eq_false_iff_ne]
 omega
theorem gap_stop {c : UInt8} (l : List UInt8) (h : gapB c = false) : gap false (c :: l) = 0 := by
 unfold gapB at h
 simp only [Bool.or_eq_false_iff, beq_eq_false_iff_ne] at h
 unfold gap
 rw [if_neg h.1.1.1, if_neg (by decide), if_neg h.2, if_neg (by rintro (h1 | h1); exact h.1.1.2 h1; exact h.1.2 h1)]
theorem span_ends (q : UInt8 → Bool) (hq : ∀ c, gapB c = true → q c = false) (rest : List UInt8) (hr : Ends rest) : ∀ l : List UInt8, span q (l.take (span q l) ++ rest) = span q l
 | [] => by
  rcases hr with rfl | ⟨c, r, rfl, hc⟩
  ·rfl
  ·show span q (c :: r) = 0
   unfold span
   rw [if_neg (by rw [hq c hc]; decide)]
 | c :: l => by
  have ih := span_ends q hq rest hr l
  by_cases hc : q c = true
  ·have e : span q (c :: l) = span q l + 1 := by rw [span, if_pos hc]
   rw [e, List.take_succ_cons, List.cons_append, span, if_pos hc, ih]
  ·have e : span q (c :: l) = 0 := by rw [span, if_neg hc]
   rw [e, List.take_zero, List.nil_append]
   rcases hr with rfl | ⟨d, r, rfl, hd⟩
   ·rfl
   ·unfold span
    rw [if_neg (by rw [hq d hd]; decide)]
theorem tok1_good {l : List UInt8} {k n : Nat} (h : tok1 l = .tok k n) : Good k (l.take n) := by
 have hlen := tok1_len h
 have hl : (l.take n).length = n := by rw [List.length_take]; omega
 cases l with
 | nil => simp [tok1] at h
 | cons c l =>
  obtain ⟨m, rfl⟩ : ∃ m, n = m + 1 := ⟨n - 1, by omega⟩
  rw [tok1_cons] at h
  refine ⟨⟨c, l.take m, List.take_succ_cons, ?_⟩, fun rest hr => ?_⟩
  ·by_cases h1 : lowB c = true
   ·exact low_gap h1
   rw [if_neg h1] at h
   by_cases h2 : digB c = true
   ·exact dig_gap h2
   rw [if_neg h2] at h
   by_cases h3 : bigB c = true
   ·exact big_gap h3
   rw [if_neg h3] at h
   split at h
   ·cases h
   ·rename_i h4
    refine one_gap ?_
    rcases ho : oneB c with _ | _
    ·exact absurd ((sgn_zero c l).2 ho) h4
    ·rfl
  ·rw [hl]
   by_cases h1 : lowB c = true
   ·rw [if_pos h1] at h
    split at h
    ·cases h
    ·rename_i h20
     injection h with h3 h4
     subst h3
     have e := span_ends innB (fun c => gapB_inn) rest hr (c :: l)
     rw [h4] at e h20
     rw [List.take_succ_cons, List.cons_append] at e ⊢
     rw [tok1_cons, if_pos h1, e, if_neg h20]
   rw [if_neg h1] at h
   by_cases h2 : digB c = true
   ·rw [if_pos h2] at h
    split at h
    ·cases h
    ·split at h
     ·cases h
     ·rename_i h60 hz
      injection h with h3 h4
      subst h3
      have e := span_ends digB (fun c => gapB_dig) rest hr (c :: l)
      rw [h4] at e h60 hz
      rw [List.take_succ_cons, List.cons_append] at e ⊢
      rw [tok1_cons, if_neg h1, if_pos h2, e, if_neg h60, if_neg hz]
   rw [if_neg h2] at h
   by_cases h3 : bigB c = true
   ·rw [if_pos h3] at h
    injection h with h4 h5
    subst h4
    obtain rfl : m = 0 := by omega
    rw [List.take_succ_cons, List.cons_append, tok1_cons, if_neg h1, if_neg h2, if_pos h3]
   rw [if_neg h3] at h
   split at h
   ·cases h
   ·rename_i h0
    injection h with h4 h5
    subst h4
    rw [List.take_succ_cons, List.cons_append, tok1_cons, if_neg h1, if_neg h2, if_neg h3]
    have hs : sgnLen (c :: (l.take m ++ rest)) = m + 1 := by
     have ho : oneB c = true := by
      rcases ho : oneB c with _ | _
      ·exact absurd ((sgn_zero c l).2 ho) h0
      ·rfl
     have one_rest : sgnLen (c :: rest) = 1 := by
      rcases hr with rfl | ⟨d, r, rfl, hd⟩
      ·rw [sgn_single, if_pos ho]
      ·rw [sgn_two, gapB_two hd, if_neg (by decide), if_pos ho]
     cases l with
     | nil =>
      rw [sgn_single, if_pos ho] at h5
      obtain rfl : m = 0 := by omega
      simpa using one_rest
     | cons d l =>
      rw [sgn_two] at h5
      by_cases ht : twoB c d = true
      ·rw [if_pos ht] at h5
       obtain rfl : m = 1 := by omega
       rw [show (d :: l).take 1 = [d] from rfl, List.cons_append, List.nil_append, sgn_two, if_pos ht]
      ·rw [if_neg ht, if_pos ho] at h5
       obtain rfl : m = 0 := by omega
       simpa using one_rest
    rw [hs, if_neg (by omega)]

def GoodToks : List Tk → Prop
 | [] => False
 | [t] => t.kind = 5 ∧ t.text = []
 | t :: u :: r => Good t.kind t.text ∧ GoodToks (u :: r)
theorem GoodToks.ne {ts : List Tk} (h : GoodToks ts) : ts ≠ [] := by rintro rfl; exact h
theorem GoodToks.cons {t : Tk} {ts : List Tk} (h : Good t.kind t.text) (hs : GoodToks ts) : GoodToks (t :: ts) := by
 cases ts with
 | nil => exact hs.elim
 | cons u r => exact ⟨h, hs⟩
def textSum (ts : List Tk) : Nat := (ts.map (·.text.length)).sum
theorem lexL_good : ∀ (N : Nat) (l : List UInt8) (p : Nat × Nat) (ts : List Tk), l.length ≤ N → lexL l p = .ok ts → GoodToks ts ∧ textSum ts ≤ l.length ∧ ts.length ≤ l.length + 1 := by
 intro N
 induction N with
 | zero =>
  intro l p ts hl h
  obtain rfl : l = [] := List.length_eq_zero_iff.1 (by omega)
  rw [lexL_eq] at h
  simp [gap, tok1] at h
  subst h
  exact ⟨⟨rfl, rfl⟩, by simp [textSum], by simp⟩
 | succ N ih =>
  intro l p ts hl h
  rw [lexL_eq] at h
  cases ht : tok1 (l.drop (gap false l)) with
  | fin =>
   rw [ht] at h
   injection h with h
   subst h
   exact ⟨⟨rfl, rfl⟩, by simp [textSum], by simp⟩
  | err e => rw [ht] at h; cases h
  | tok k n =>
   rw [ht] at h
   have hn := tok1_len ht
   rw [List.length_drop] at hn
   simp only at h
   generalize hr : lexL (l.drop (gap false l + n)) (adv (adv p (l.take (gap false l))) ((l.drop (gap false l)).take n)) = r at h
   cases r with
   | err e a b => cases h
   | ok us =>
    injection h with h
    subst h
    obtain ⟨g1, g2, g3⟩ := ih _ _ _ (by rw [List.length_drop]; omega) hr
    rw [List.length_drop] at g2 g3
    have hg := tok1_good ht
    have hl2 : ((l.drop (gap false l)).take n).length = n := by rw [List.length_take, List.length_drop]; omega
    refine ⟨GoodToks.cons hg g1, ?_, by simp; omega⟩
    unfold textSum at *
    rw [List.map_cons, List.sum_cons]
    simp only [hl2]
    omega
def lay : List (List UInt8) → List Tk → List UInt8
 | b :: bs, t :: ts => b ++ t.text ++ lay bs ts
 | _, _ => []
end Go.Proofs.YtlmhajfbpplpoaaGreat
