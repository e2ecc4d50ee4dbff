/-
  Tokens laid out again, with whatever may stand between them: they are read as the same tokens. No program in sight.
-/
import Derived.Test.YtlmhajfbpplpoaaGreatWBH
import Derived.Lib.Join
set_option linter.unusedSectionVars false
set_option linter.unusedSimpArgs false
set_option linter.unusedVariables false
namespace Go.Proofs.YtlmhajfbpplpoaaGreat

def gapB (c : UInt8) : Bool := c.toNat == 10 || c.toNat == 32 || c.toNat == 9 || c.toNat == 35
def Sep (b : List UInt8) : Prop := ∃ c r, b = c :: r ∧ gapB c = true
def Ends (rest : List UInt8) : Prop := rest = [] ∨ Sep rest
def Good (k : Nat) (text : List UInt8) : Prop := (∃ c r, text = c :: r ∧ gapB c = false) ∧ ∀ rest, Ends rest → tok1 (text ++ rest) = .tok k text.length

theorem gapB_cases {c : UInt8} (h : gapB c = true) : c.toNat = 10 ∨ c.toNat = 32 ∨ c.toNat = 9 ∨ c.toNat = 35 := by
 unfold gapB at h
 simp only [Bool.or_eq_true, beq_iff_eq] at h
 omega
theorem gapB_inn {c : UInt8} (h : gapB c = true) : innB c = false := by
 have := gapB_cases h
 unfold innB lowB digB
 simp only [Bool.or_eq_false_iff, Bool.and_eq_false_iff, decide_eq_false_iff_not, beq_eq_false_iff_ne]
 omega
theorem low_gap {c : UInt8} (h : lowB c = true) : gapB c = false := by
 unfold lowB at h
 unfold gapB
 simp only [Bool.and_eq_true, decide_eq_true_eq] at h
 simp only [Bool.or_eq_false_iff, beq_eq_false_iff_ne]
 omega
theorem dig_gap {c : UInt8} (h : digB c = true) : gapB c = false := by
 unfold digB at h
 unfold gapB
 simp only [Bool.and_eq_true, decide_eq_true_eq] at h
 simp only [Bool.or_eq_false_iff, beq_eq_false_iff_ne]
 omega
theorem one_gap {c : UInt8} (h : oneB c = true) : gapB c = false := by
 unfold oneB at h
 unfold gapB
 simp only [List.contains_cons, List.contains_nil, Bool.or_eq_true, beq_iff_eq, Bool.or_false] at h
 simp only [Bool.or_eq_false_iff, beq_eq_false_iff_ne]
 omega
theorem gap_stop {c : UInt8} (l : List UInt8) (h : gapB c = false) : gap false (c :: l) = 0 := by
 unfold gapB at h
 simp only [Bool.or_eq_false_iff, beq_eq_false_iff_ne] at h
 unfold gap
 rw [if_neg h.1.1.1, if_neg (by decide), if_neg h.2, if_neg (by rintro (h1 | h1); exact h.1.1.2 h1; exact h.1.2 h1)]
def GoodToks : List Tk → Prop
 | [] => False
 | [t] => t.kind = 5 ∧ t.text = []
 | t :: u :: r => Good t.kind t.text ∧ GoodToks (u :: r)
theorem GoodToks.ne {ts : List Tk} (h : GoodToks ts) : ts ≠ [] := by rintro rfl; exact h
theorem GoodToks.cons {t : Tk} {ts : List Tk} (h : Good t.kind t.text) (hs : GoodToks ts) : GoodToks (t :: ts) := by
 cases ts with
 | nil => exact hs.elim
 | cons u r => exact ⟨h, hs⟩
def lay : List (List UInt8) → List Tk → List UInt8
 | b :: bs, t :: ts => b ++ t.text ++ lay bs ts
 | _, _ => []
end Go.Proofs.YtlmhajfbpplpoaaGreat
