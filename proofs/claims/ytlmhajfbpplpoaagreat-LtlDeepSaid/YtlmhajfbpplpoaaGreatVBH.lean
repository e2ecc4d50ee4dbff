/-
  Tokens laid out again, with whatever may stand between them: they are read as the same tokens. No program in sight.
-/
import Derived.Test.YtlmhajfbpplpoaaGreatVBF
import Derived.Lib.Join
set_option linter.unusedSectionVars false
set_option linter.unusedSimpArgs false
set_option linter.unusedVariables false
namespace Go.Proofs.YtlmhajfbpplpoaaGreat

def gapB (c : UInt8) : Bool := c.toNat == 10 || c.toNat == 32 || c.toNat == 9 || c.toNat == 35
def Sep (b : List UInt8) : Prop := ∃ c r, b = c :: r ∧ gapB c = true
def Ends (rest : List UInt8) : Prop := rest = [] ∨ Sep rest
def Good (k : Nat) (text : List UInt8) : Prop := (∃ c r, text = c :: r ∧ gapB c = false) ∧ ∀ rest, Ends rest → tok1 (text ++ rest) = .tok k text.length

def GoodToks : List Tk → Prop
 | [] => False
 | [t] => t.kind = 5 ∧ t.text = []
 | t :: u :: r => Good t.kind t.text ∧ GoodToks (u :: r)
theorem GoodToks.ne {ts : List Tk} (h : GoodToks ts) : ts ≠ [] := by rintro rfl; exact h
theorem GoodToks.cons {t : Tk} {ts : List Tk} (h : Good t.kind t.text) (hs : GoodToks ts) : GoodToks (t :: ts) := by
 cases ts with
 | nil => exact hs.elim
 | cons u r => exact ⟨h, hs⟩
def lay : List (List UInt8) → List Tk → List UInt8
 | b :: bs, t :: ts => b ++ t.text ++ lay bs ts
 | _, _ => []
end Go.Proofs.YtlmhajfbpplpoaaGreat
