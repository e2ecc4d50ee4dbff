/-
  Plain laws of a text's tokens. No program in sight.
-/
import Derived.Test.YtlmhajfbpplpoaaGreatVAP
set_option linter.unusedSectionVars false
set_option linter.unusedSimpArgs false
set_option linter.unusedVariables false
namespace Go.Proofs.YtlmhajfbpplpoaaGreat

def oneB (c : UInt8) : Bool := [40, 41, 44, 59, 58, 46, 43, 42, 38, 124, 33, 64, 61, 60, 62, 47, 45].contains c.toNat
theorem sgn_pre : ∀ x ∈ sgns, x.length ≤ 2 := by decide
theorem prefix_two (x : List UInt8) (c d : UInt8) (l : List UInt8) (h : x.length ≤ 2) : x.isPrefixOf (c :: d :: l) = x.isPrefixOf [c, d] := by
 match x, h with
 | [], _ => rfl
 | [a], _ => rfl
 | [a, b], _ => simp [List.isPrefixOf]
theorem find_congr' {p q : List UInt8 → Bool} : ∀ (l : List (List UInt8)), (∀ x ∈ l, p x = q x) → l.find? p = l.find? q
 | [], _ => rfl
 | a :: l, h => by rw [List.find?_cons, List.find?_cons, h a (List.mem_cons_self ..), find_congr' l fun x hx => h x (List.mem_cons_of_mem _ hx)]
theorem sgn_short (c d : UInt8) (l : List UInt8) : sgnLen (c :: d :: l) = sgnLen [c, d] := by
 unfold sgnLen
 rw [find_congr' sgns fun x hx => prefix_two x c d l (sgn_pre x hx)]
theorem byte_eq (a : Nat) (ha : a < 256) (c : UInt8) : (UInt8.ofNat a == c) = (c.toNat == a) := by
 rw [Bool.eq_iff_iff, beq_iff_eq, beq_iff_eq]
 constructor
 ·rintro rfl
  simp [Nat.mod_eq_of_lt ha]
 ·intro h
  subst h
  simp
def sgnN (n m : Nat) : Nat := if n = 45 ∧ m = 62 then 2 else if n = 58 ∧ m = 61 then 2 else if n = 33 ∧ m = 61 then 2 else if n = 60 ∧ m = 61 then 2 else if n = 62 ∧ m = 61 then 2 else if n = 46 ∧ m = 46 then 2
 else if [40, 41, 44, 59, 58, 46, 43, 42, 38, 124, 33, 64, 61, 60, 62, 47, 45].contains n then 1 else 0
def foundLen : Option (List UInt8) → Nat | some y => y.length | none => 0
theorem sgnLen_eq (l : List UInt8) : sgnLen l = foundLen (sgns.find? (·.isPrefixOf l)) := by unfold sgnLen foundLen; rfl
theorem find_step (x : List UInt8) (xs : List (List UInt8)) (l : List UInt8) : foundLen ((x :: xs).find? (·.isPrefixOf l)) = if x.isPrefixOf l then x.length else foundLen (xs.find? (·.isPrefixOf l)) := by
 rw [List.find?_cons]
 cases h : x.isPrefixOf l <;> simp [foundLen]
theorem found_nil (q : List UInt8 → Bool) : foundLen (([] : List (List UInt8)).find? q) = 0 := rfl
theorem pre2 (a b c d : UInt8) : [a, b].isPrefixOf [c, d] = (a == c && b == d) := by simp [List.isPrefixOf]
theorem pre1 (a c d : UInt8) : [a].isPrefixOf [c, d] = (a == c) := by simp [List.isPrefixOf]
theorem bE (c : UInt8) : ((45 : UInt8) == c) = (c.toNat == 45) ∧ ((62 : UInt8) == c) = (c.toNat == 62) ∧ ((58 : UInt8) == c) = (c.toNat == 58) ∧ ((61 : UInt8) == c) = (c.toNat == 61) ∧ ((33 : UInt8) == c) = (c.toNat == 33) ∧ ((60 : UInt8) == c) = (c.toNat == 60) ∧ ((46 : UInt8) == c) = (c.toNat == 46) ∧
  ((40 : UInt8) == c) = (c.toNat == 40) ∧ ((41 : UInt8) == c) = (c.toNat == 41) ∧ ((44 : UInt8) == c) = (c.toNat == 44) ∧ ((59 : UInt8) == c) = (c.toNat == 59) ∧ ((43 : UInt8) == c) = (c.toNat == 43) ∧ ((42 : UInt8) == c) = (c.toNat == 42) ∧ ((38 : UInt8) == c) = (c.toNat == 38) ∧ ((124 : UInt8) == c) = (c.toNat == 124) ∧ ((64 : UInt8) == c) = (c.toNat == 64) ∧ ((47 : UInt8) == c) = (c.toNat == 47) :=
 ⟨byte_eq 45 (by decide) c, byte_eq 62 (by decide) c, byte_eq 58 (by decide) c, byte_eq 61 (by decide) c, byte_eq 33 (by decide) c, byte_eq 60 (by decide) c, byte_eq 46 (by decide) c, byte_eq 40 (by decide) c, byte_eq 41 (by decide) c, byte_eq 44 (by decide) c, byte_eq 59 (by decide) c, byte_eq 43 (by decide) c, byte_eq 42 (by decide) c, byte_eq 38 (by decide) c, byte_eq 124 (by decide) c, byte_eq 64 (by decide) c, byte_eq 47 (by decide) c⟩
set_option maxHeartbeats 2000000 in
theorem sgn_pair (c d : UInt8) : sgnLen [c, d] = sgnN c.toNat d.toNat := by
 rw [sgnLen_eq]
 unfold sgns
 simp only [find_step, pre2, pre1, found_nil, List.length_cons, List.length_nil]
 obtain ⟨h1, h2, h3, h4, h5, h6, h7, h8, h9, h10, h11, h12, h13, h14, h15, h16, h17⟩ := bE c
 obtain ⟨k1, k2, k3, k4, k5, k6, k7, _⟩ := bE d
 simp only [h1, h2, h3, h4, h5, h6, h7, h8, h9, h10, h11, h12, h13, h14, h15, h16, h17, k2, k4, k7]
 clear h1 h2 h3 h4 h5 h6 h7 h8 h9 h10 h11 h12 h13 h14 h15 h16 h17 k1 k2 k3 k4 k5 k6 k7
 generalize c.toNat = n
 generalize d.toNat = m
 unfold sgnN
 rcases (by omega : n = 40 ∨ n = 41 ∨ n = 44 ∨ n = 59 ∨ n = 58 ∨ n = 46 ∨ n = 43 ∨ n = 42 ∨ n = 38 ∨ n = 124 ∨ n = 33 ∨ n = 64 ∨ n = 61 ∨ n = 60 ∨ n = 62 ∨ n = 47 ∨ n = 45 ∨ (n ≠ 40 ∧ n ≠ 41 ∧ n ≠ 44 ∧ n ≠ 59 ∧ n ≠ 58 ∧ n ≠ 46 ∧ n ≠ 43 ∧ n ≠ 42 ∧ n ≠ 38 ∧ n ≠ 124 ∧ n ≠ 33 ∧ n ≠ 64 ∧ n ≠ 61 ∧ n ≠ 60 ∧ n ≠ 62 ∧ n ≠ 47 ∧ n ≠ 45)) with rfl | rfl | rfl | rfl | rfl | rfl | rfl | rfl | rfl | rfl | rfl | rfl | rfl | rfl | rfl | rfl | rfl | h
 all_goals
  rcases (by omega : m = 62 ∨ m = 61 ∨ m = 46 ∨ (m ≠ 62 ∧ m ≠ 61 ∧ m ≠ 46)) with rfl | rfl | rfl | hm
  all_goals first
   | rfl
   | (simp [h, hm]; done)
   | (simp [hm.1, hm.2.1, hm.2.2]; done)
   | (simp [h]; done)
def twoB (c d : UInt8) : Bool := decide (sgnN c.toNat d.toNat = 2)
theorem sgn_two (c d : UInt8) (l : List UInt8) : sgnLen (c :: d :: l) = if twoB c d then 2 else if oneB c then 1 else 0 := by
 rw [sgn_short, sgn_pair]
 unfold twoB oneB
 by_cases h : sgnN c.toNat d.toNat = 2
 ·simp [h]
 ·simp only [h, decide_false, Bool.false_eq_true, if_false]
  unfold sgnN at h ⊢
  repeat' split at h
  all_goals first
   | exact absurd rfl h
   | (simp only [*, if_false, if_true])
end Go.Proofs.YtlmhajfbpplpoaaGreat
