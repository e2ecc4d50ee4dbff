/-
  Plain laws of a text's tokens. No program in sight.
-/
import Derived.Test.YtedbjkjncfinnaaLexT
namespace Go.Proofs.Ytedbjkjncfinnaa

def oneB (c : UInt8) : Bool := [40, 41, 44, 59, 58, 46, 43, 42, 38, 124, 33, 64, 61, 60, 62, 47, 45].contains c.toNat
theorem sgn_pre : ∀ x ∈ sgns, x.length ≤ 2 := by decide
theorem prefix_two (x : List UInt8) (c d : UInt8) (l : List UInt8) (h : x.length ≤ 2) : x.isPrefixOf (c :: d :: l) = x.isPrefixOf [c, d] := by
  match x, h with
  | [], _ => rfl
  | [a], _ => rfl
  | [a, b], _ => simp [List.isPrefixOf]
theorem find_congr' {p q : List UInt8 → Bool} : ∀ (l : List (List UInt8)), (∀ x ∈ l, p x = q x) → l.find? p = l.find? q
  | [], _ => rfl
  | a :: l, h => by rw [List.find?_cons, List.find?_cons, h a (List.mem_cons_self ..), find_congr' l fun x hx => h x (List.mem_cons_of_mem _ hx)]
theorem sgn_short (c d : UInt8) (l : List UInt8) : sgnLen (c :: d :: l) = sgnLen [c, d] := by
  unfold sgnLen
  rw [find_congr' sgns fun x hx => prefix_two x c d l (sgn_pre x hx)]
theorem byte_eq (a : Nat) (ha : a < 256) (c : UInt8) : (UInt8.ofNat a == c) = (c.toNat == a) := by
  rw [Bool.eq_iff_iff, beq_iff_eq, beq_iff_eq]
  constructor
  · rintro rfl
    simp [Nat.mod_eq_of_lt ha]
  · intro h
    subst h
    simp
/-- The signs as numbers. -/
def sgnN (n m : Nat) : Nat := if n = 45 ∧ m = 62 then 2 else if n = 58 ∧ m = 61 then 2 else if n = 33 ∧ m = 61 then 2 else if n = 60 ∧ m = 61 then 2 else if n = 62 ∧ m = 61 then 2 else if n = 46 ∧ m = 46 then 2
  else if [40, 41, 44, 59, 58, 46, 43, 42, 38, 124, 33, 64, 61, 60, 62, 47, 45].contains n then 1 else 0
def foundLen : Option (List UInt8) → Nat | some y => y.length | none => 0
theorem sgnLen_eq (l : List UInt8) : sgnLen l = foundLen (sgns.find? (·.isPrefixOf l)) := by unfold sgnLen foundLen; rfl
theorem find_step (x : List UInt8) (xs : List (List UInt8)) (l : List UInt8) : foundLen ((x :: xs).find? (·.isPrefixOf l)) = if x.isPrefixOf l then x.length else foundLen (xs.find? (·.isPrefixOf l)) := by
  rw [List.find?_cons]
  cases h : x.isPrefixOf l <;> simp [foundLen]
theorem found_nil (q : List UInt8 → Bool) : foundLen (([] : List (List UInt8)).find? q) = 0 := rfl
theorem pre2 (a b c d : UInt8) : [a, b].isPrefixOf [c, d] = (a == c && b == d) := by simp [List.isPrefixOf]
theorem pre1 (a c d : UInt8) : [a].isPrefixOf [c, d] = (a == c) := by simp [List.isPrefixOf]
theorem pre21 (a b c : UInt8) : [a, b].isPrefixOf [c] = false := by simp [List.isPrefixOf]
theorem pre11 (a c : UInt8) : [a].isPrefixOf [c] = (a == c) := by simp [List.isPrefixOf]
theorem bE (c : UInt8) : ((45 : UInt8) == c) = (c.toNat == 45) ∧ ((62 : UInt8) == c) = (c.toNat == 62) ∧ ((58 : UInt8) == c) = (c.toNat == 58) ∧ ((61 : UInt8) == c) = (c.toNat == 61) ∧ ((33 : UInt8) == c) = (c.toNat == 33) ∧ ((60 : UInt8) == c) = (c.toNat == 60) ∧ ((46 : UInt8) == c) = (c.toNat == 46) ∧
    ((40 : UInt8) == c) = (c.toNat == 40) ∧ ((41 : UInt8) == c) = (c.toNat == 41) ∧ ((44 : UInt8) == c) = (c.toNat == 44) ∧ ((59 : UInt8) == c) = (c.toNat == 59) ∧ ((43 : UInt8) == c) = (c.toNat == 43) ∧ ((42 : UInt8) == c) = (c.toNat == 42) ∧ ((38 : UInt8) == c) = (c.toNat == 38) ∧ ((124 : UInt8) == c) = (c.toNat == 124) ∧ ((64 : UInt8) == c) = (c.toNat == 64) ∧ ((47 : UInt8) == c) = (c.toNat == 47) :=
  ⟨byte_eq 45 (by decide) c, byte_eq 62 (by decide) c, byte_eq 58 (by decide) c, byte_eq 61 (by decide) c, byte_eq 33 (by decide) c, byte_eq 60 (by decide) c, byte_eq 46 (by decide) c, byte_eq 40 (by decide) c, byte_eq 41 (by decide) c, byte_eq 44 (by decide) c, byte_eq 59 (by decide) c, byte_eq 43 (by decide) c, byte_eq 42 (by decide) c, byte_eq 38 (by decide) c, byte_eq 124 (by decide) c, byte_eq 64 (by decide) c, byte_eq 47 (by decide) c⟩
set_option maxHeartbeats 2000000 in
theorem sgn_pair (c d : UInt8) : sgnLen [c, d] = sgnN c.toNat d.toNat := by
  rw [sgnLen_eq]
  unfold sgns
  simp only [find_step, pre2, pre1, found_nil, List.length_cons, List.length_nil]
  obtain ⟨h1, h2, h3, h4, h5, h6, h7, h8, h9, h10, h11, h12, h13, h14, h15, h16, h17⟩ := bE c
  obtain ⟨k1, k2, k3, k4, k5, k6, k7, _⟩ := bE d
  simp only [h1, h2, h3, h4, h5, h6, h7, h8, h9, h10, h11, h12, h13, h14, h15, h16, h17, k2, k4, k7]
  clear h1 h2 h3 h4 h5 h6 h7 h8 h9 h10 h11 h12 h13 h14 h15 h16 h17 k1 k2 k3 k4 k5 k6 k7
  generalize c.toNat = n
  generalize d.toNat = m
  unfold sgnN
  rcases (by omega : n = 40 ∨ n = 41 ∨ n = 44 ∨ n = 59 ∨ n = 58 ∨ n = 46 ∨ n = 43 ∨ n = 42 ∨ n = 38 ∨ n = 124 ∨ n = 33 ∨ n = 64 ∨ n = 61 ∨ n = 60 ∨ n = 62 ∨ n = 47 ∨ n = 45 ∨ (n ≠ 40 ∧ n ≠ 41 ∧ n ≠ 44 ∧ n ≠ 59 ∧ n ≠ 58 ∧ n ≠ 46 ∧ n ≠ 43 ∧ n ≠ 42 ∧ n ≠ 38 ∧ n ≠ 124 ∧ n ≠ 33 ∧ n ≠ 64 ∧ n ≠ 61 ∧ n ≠ 60 ∧ n ≠ 62 ∧ n ≠ 47 ∧ n ≠ 45)) with rfl | rfl | rfl | rfl | rfl | rfl | rfl | rfl | rfl | rfl | rfl | rfl | rfl | rfl | rfl | rfl | rfl | h
  all_goals
    rcases (by omega : m = 62 ∨ m = 61 ∨ m = 46 ∨ (m ≠ 62 ∧ m ≠ 61 ∧ m ≠ 46)) with rfl | rfl | rfl | hm
    all_goals first
      | rfl
      | (simp [h, hm]; done)
      | (simp [hm.1, hm.2.1, hm.2.2]; done)
      | (simp [h]; done)
theorem sgn_single (c : UInt8) : sgnLen [c] = if oneB c then 1 else 0 := by
  rw [sgnLen_eq]
  unfold sgns
  simp only [find_step, pre21, pre11, found_nil, List.length_cons, List.length_nil]
  obtain ⟨h1, h2, h3, h4, h5, h6, h7, h8, h9, h10, h11, h12, h13, h14, h15, h16, h17⟩ := bE c
  simp only [h1, h2, h3, h4, h5, h6, h7, h8, h9, h10, h11, h12, h13, h14, h15, h16, h17]
  clear h1 h2 h3 h4 h5 h6 h7 h8 h9 h10 h11 h12 h13 h14 h15 h16 h17
  unfold oneB
  generalize c.toNat = n
  rcases (by omega : n = 40 ∨ n = 41 ∨ n = 44 ∨ n = 59 ∨ n = 58 ∨ n = 46 ∨ n = 43 ∨ n = 42 ∨ n = 38 ∨ n = 124 ∨ n = 33 ∨ n = 64 ∨ n = 61 ∨ n = 60 ∨ n = 62 ∨ n = 47 ∨ n = 45 ∨ (n ≠ 40 ∧ n ≠ 41 ∧ n ≠ 44 ∧ n ≠ 59 ∧ n ≠ 58 ∧ n ≠ 46 ∧ n ≠ 43 ∧ n ≠ 42 ∧ n ≠ 38 ∧ n ≠ 124 ∧ n ≠ 33 ∧ n ≠ 64 ∧ n ≠ 61 ∧ n ≠ 60 ∧ n ≠ 62 ∧ n ≠ 47 ∧ n ≠ 45)) with rfl | rfl | rfl | rfl | rfl | rfl | rfl | rfl | rfl | rfl | rfl | rfl | rfl | rfl | rfl | rfl | rfl | h
  all_goals first
    | rfl
    | (simp [h])
def twoB (c d : UInt8) : Bool := decide (sgnN c.toNat d.toNat = 2)
theorem sgn_two (c d : UInt8) (l : List UInt8) : sgnLen (c :: d :: l) = if twoB c d then 2 else if oneB c then 1 else 0 := by
  rw [sgn_short, sgn_pair]
  unfold twoB oneB
  by_cases h : sgnN c.toNat d.toNat = 2
  · simp [h]
  · simp only [h, decide_false, Bool.false_eq_true, if_false]
    unfold sgnN at h ⊢
    repeat' split at h
    all_goals first
      | exact absurd rfl h
      | (simp only [*, if_false, if_true])
theorem two_one {c d : UInt8} (h : twoB c d = true) : oneB c = true := by
  unfold twoB at h
  rw [decide_eq_true_eq] at h
  unfold oneB
  unfold sgnN at h
  repeat' split at h
  all_goals first
    | (rename_i hh; rw [hh.1]; rfl)
    | omega
theorem sgn_zero (c : UInt8) (l : List UInt8) : sgnLen (c :: l) = 0 ↔ oneB c = false := by
  cases l with
  | nil => rw [sgn_single]; cases oneB c <;> simp
  | cons d l =>
    rw [sgn_two]
    cases h : twoB c d
    · cases oneB c <;> simp
    · rw [two_one h]; simp

theorem gap_app (m : List UInt8) : ∀ (l : List UInt8) (r : Bool), gap r l < l.length → gap r (l ++ m) = gap r l
  | [], _, h => by simp [gap] at h
  | c :: l, r, h => by
    have ih1 := gap_app m l false
    have ih2 := gap_app m l true
    rw [List.cons_append]
    unfold gap at h ⊢
    rw [List.length_cons] at h
    repeat' split
    all_goals simp_all
theorem span_app (q : UInt8 → Bool) (m : List UInt8) : ∀ (l : List UInt8), span q l < l.length → span q (l ++ m) = span q l
  | [], h => by simp [span] at h
  | c :: l, h => by
    have ih := span_app q m l
    rw [List.cons_append]
    unfold span at h ⊢
    rw [List.length_cons] at h
    split
    · simp_all
    · rfl
theorem sgn_app {c : UInt8} {l : List UInt8} (m : List UInt8) (h : sgnLen (c :: l) < (c :: l).length ∨ sgnLen (c :: l) = 0) : sgnLen (c :: (l ++ m)) = sgnLen (c :: l) := by
  cases l with
  | cons d l => rw [List.cons_append, sgn_two, sgn_two]
  | nil =>
    have h0 : sgnLen [c] = 0 := by
      rcases h with h | h
      · simpa using h
      · exact h
    rw [h0, List.nil_append]
    exact (sgn_zero c m).2 ((sgn_zero c []).1 h0)
theorem tok1_app {l : List UInt8} {k n : Nat} (m : List UInt8) (h : tok1 l = .tok k n) (hn : n < l.length) : tok1 (l ++ m) = .tok k n := by
  cases l with
  | nil => simp [tok1] at h
  | cons c l =>
    rw [tok1_cons] at h
    rw [List.cons_append, tok1_cons]
    have e : ∀ q, span q (c :: l) < (c :: l).length → span q (c :: (l ++ m)) = span q (c :: l) := fun q hq => span_app q m (c :: l) hq
    by_cases h1 : lowB c = true
    · rw [if_pos h1] at h ⊢
      split at h
      · cases h
      · have := h; injection this with h2 h3
        rw [e innB (by omega), if_neg (by assumption)]; exact h
    rw [if_neg h1] at h ⊢
    by_cases h2 : digB c = true
    · rw [if_pos h2] at h ⊢
      split at h
      · cases h
      · split at h
        · cases h
        · have := h; injection this with h3 h4
          rw [e digB (by omega), if_neg (by assumption), if_neg (by assumption)]; exact h
    rw [if_neg h2] at h ⊢
    by_cases h3 : bigB c = true
    · rw [if_pos h3] at h ⊢; exact h
    rw [if_neg h3] at h ⊢
    split at h
    · cases h
    · have := h; injection this with h4 h5
      rw [sgn_app m (.inl (by omega)), if_neg (by assumption)]; exact h
theorem tok1_app100 {l : List UInt8} (m : List UInt8) (h : tok1 l = .err 100) : tok1 (l ++ m) = .err 100 := by
  cases l with
  | nil => simp [tok1] at h
  | cons c l =>
    rw [tok1_cons] at h
    rw [List.cons_append, tok1_cons]
    by_cases h1 : lowB c = true
    · rw [if_pos h1] at h
      split at h <;> simp at h
    rw [if_neg h1] at h ⊢
    by_cases h2 : digB c = true
    · rw [if_pos h2] at h
      repeat' split at h
      all_goals simp at h
    rw [if_neg h2] at h ⊢
    by_cases h3 : bigB c = true
    · rw [if_pos h3] at h; cases h
    rw [if_neg h3] at h ⊢
    split at h
    · rename_i h0
      rw [sgn_app m (.inr h0), if_pos h0]
    · cases h
theorem drop_app {l m : List UInt8} {k : Nat} (h : k ≤ l.length) : (l ++ m).drop k = l.drop k ++ m := by rw [List.drop_append_of_le_length h]
theorem take_app {l m : List UInt8} {k : Nat} (h : k ≤ l.length) : (l ++ m).take k = l.take k := by rw [List.take_append_of_le_length h]
theorem tok1_nil_fin {l : List UInt8} (h : tok1 l = .fin) : l = [] := by
  cases l with
  | nil => rfl
  | cons c l =>
    rw [tok1_cons] at h
    repeat' split at h
    all_goals cases h
/-- What stands behind the first byte that begins no token counts for nothing. -/
theorem lex_first (m : List UInt8) : ∀ (N : Nat) (l : List UInt8) (p : Nat × Nat) (a b : Nat), l.length ≤ N → lexL l p = .err 100 a b → lexL (l ++ m) p = .err 100 a b := by
  intro N
  induction N with
  | zero =>
    intro l p a b hl h
    have : l = [] := List.length_eq_zero_iff.1 (by omega)
    subst this
    rw [lexL_eq] at h
    simp [gap, tok1] at h
  | succ N ih =>
    intro l p a b hl h
    have hk := gap_le false l
    rw [lexL_eq] at h
    cases ht : tok1 (l.drop (gap false l)) with
    | fin => rw [ht] at h; cases h
    | err e =>
      rw [ht] at h
      injection h with h1 h2 h3
      subst h1
      have hlt : gap false l < l.length := by
        rcases Nat.lt_or_ge (gap false l) l.length with h | h
        · exact h
        · rw [List.drop_of_length_le h] at ht; simp [tok1] at ht
      rw [lexL_eq, gap_app m l false hlt, drop_app hk, take_app hk, tok1_app100 m ht, h2, h3]
    | tok k n =>
      rw [ht] at h
      have hn := tok1_len ht
      rw [List.length_drop] at hn
      have hlt : gap false l < l.length := by omega
      simp only at h
      generalize hr : lexL (l.drop (gap false l + n)) (adv (adv p (l.take (gap false l))) ((l.drop (gap false l)).take n)) = r at h
      cases r with
      | ok ts => cases h
      | err e a' b' =>
        injection h with h1 h2 h3
        subst h1 h2 h3
        have hne : gap false l + n < l.length := by
          rcases Nat.lt_or_ge (gap false l + n) l.length with h | h
          · exact h
          · rw [List.drop_of_length_le h, lexL_eq] at hr; simp [gap, tok1] at hr
        have h2 := ih (l.drop (gap false l + n)) _ _ _ (by rw [List.length_drop]; omega) hr
        rw [lexL_eq, gap_app m l false hlt, drop_app hk, take_app hk, tok1_app m ht (by rw [List.length_drop]; omega)]
        simp only
        rw [drop_app (by omega), take_app (by rw [List.length_drop]; omega), h2]
        rfl
theorem first_all (l m : List UInt8) (a b : Nat) (h : lexAll l = .err 100 a b) (hl : (l ++ m).length ≤ 16384) : lexAll (l ++ m) = .err 100 a b := by
  unfold lexAll at h ⊢
  rw [if_neg (by omega)]
  split at h
  · cases h
  · exact lex_first m _ l _ _ _ (Nat.le_refl _) h
end Go.Proofs.Ytedbjkjncfinnaa
