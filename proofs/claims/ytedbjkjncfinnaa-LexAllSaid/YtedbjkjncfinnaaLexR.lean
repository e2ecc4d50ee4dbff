/-
  Spelled tokens are read as the same tokens. No program in sight.
-/
import Derived.Test.YtedbjkjncfinnaaLexQ
import Derived.Test.YtedbjkjncfinnaaLexH
namespace Go.Proofs.Ytedbjkjncfinnaa

theorem gapped_nil : Gapped [] := fun rest => by simp
theorem gap_cons (r : Bool) (c : UInt8) (l : List UInt8) : gap r (c :: l) = if c.toNat = 10 then gap false l + 1 else if r then gap true l + 1 else if c.toNat = 35 then gap true l + 1 else if c.toNat = 32 ∨ c.toNat = 9 then gap false l + 1 else 0 := by cases r <;> rfl
theorem lay_cons (b : List UInt8) (bs : List (List UInt8)) (t : Tk) (ts : List Tk) : lay (b :: bs) (t :: ts) = b ++ t.text ++ lay bs ts := rfl
theorem gapped_sp : Gapped [32] := fun rest => by
  show gap false (32 :: rest) = 1 + gap false rest
  rw [gap_cons, if_neg (by decide), if_neg (by decide), if_neg (by decide), if_pos (by decide)]
  omega
theorem sep_sp : Sep [32] := ⟨32, [], rfl, by decide⟩
theorem lay_tail (ts : List Tk) : lay (List.replicate ts.length [32]) ts = Lib.joinTail [32] (ts.map (·.text)) := by
  induction ts with
  | nil => rfl
  | cons t ts ih =>
    rw [List.length_cons, List.replicate_succ, lay_cons, ih]
    unfold Lib.joinTail
    simp
theorem spell_lay (t : Tk) (ts : List Tk) : spellL (t :: ts) = lay ([] :: List.replicate ts.length [32]) (t :: ts) := by
  unfold spellL
  rw [List.map_cons, Lib.join_cons, lay_cons, lay_tail, List.nil_append]
theorem lay_len (n : Nat) : ∀ (bs : List (List UInt8)) (ts : List Tk), (∀ b ∈ bs, b.length ≤ n) → (lay bs ts).length ≤ textSum ts + ts.length * n
  | [], ts, _ => by simp [lay]
  | b :: bs, [], _ => by simp [lay]
  | b :: bs, t :: ts, h => by
    have ih := lay_len n bs ts fun x hx => h x (List.mem_cons_of_mem _ hx)
    have h1 := h b (List.mem_cons_self ..)
    unfold textSum at *
    rw [lay_cons, List.length_append, List.length_append, List.map_cons, List.sum_cons, List.length_cons, Nat.succ_mul]
    omega
theorem alike_len {us ts : List Tk} (h : Alike us ts) : us.length = ts.length := by
  have := congrArg List.length h
  simpa using this
theorem alike_at {us ts : List Tk} (h : Alike us ts) (i : Nat) (h1 : i < us.length) (h2 : i < ts.length) : us[i].kind = ts[i].kind ∧ us[i].text = ts[i].text := by
  have e := congrArg (fun l => l[i]?) h
  simp only [List.getElem?_map, List.getElem?_eq_getElem h1, List.getElem?_eq_getElem h2, Option.map_some] at e
  have := Option.some.inj e
  exact ⟨(Prod.mk.inj this).1, (Prod.mk.inj this).2⟩
theorem alike_spell {us ts : List Tk} (h : Alike us ts) : spellL us = spellL ts := by
  unfold spellL
  have : us.map (·.text) = ts.map (·.text) := by
    have := congrArg (List.map Prod.snd) h
    rw [List.map_map, List.map_map] at this
    exact this
  rw [this]
theorem good_last : ∀ (ts : List Tk), GoodToks ts → ∃ h : ts.length - 1 < ts.length, (ts[ts.length - 1]).kind = 5
  | [], h => h.elim
  | [t], h => ⟨by simp, h.1⟩
  | t :: u :: r, h => by
    obtain ⟨h1, h2⟩ := good_last (u :: r) h.2
    refine ⟨by simp, ?_⟩
    simpa using h2
theorem lexAll_good {l : List UInt8} {ts : List Tk} (h : lexAll l = .ok ts) : GoodToks ts ∧ textSum ts ≤ l.length ∧ ts.length ≤ l.length + 1 := by
  unfold lexAll at h
  split at h
  · cases h
  · exact lexL_good _ l _ ts (Nat.le_refl _) h
theorem lexL_err : ∀ (N : Nat) (l : List UInt8) (p : Nat × Nat) (c a b : Nat), l.length ≤ N → lexL l p = .err c a b → c ≠ 0 := by
  intro N
  induction N with
  | zero =>
    intro l p c a b hl h
    obtain rfl : l = [] := List.length_eq_zero_iff.1 (by omega)
    rw [lexL_eq] at h
    simp [gap, tok1] at h
  | succ N ih =>
    intro l p c a b hl h
    rw [lexL_eq] at h
    cases ht : tok1 (l.drop (gap false l)) with
    | fin => rw [ht] at h; cases h
    | err e =>
      rw [ht] at h
      injection h with h1
      subst h1
      exact tok1_err ht
    | tok k n =>
      rw [ht] at h
      have hn := tok1_len ht
      rw [List.length_drop] at hn
      simp only at h
      generalize hr : lexL (l.drop (gap false l + n)) (adv (adv p (l.take (gap false l))) ((l.drop (gap false l)).take n)) = r at h
      cases r with
      | ok us => cases h
      | err e a' b' =>
        injection h with h1
        subst h1
        exact ih _ _ _ _ _ (by rw [List.length_drop]; omega) hr
theorem lexAll_err {l : List UInt8} {c a b : Nat} (h : lexAll l = .err c a b) : c ≠ 0 := by
  unfold lexAll at h
  split at h
  · injection h with h1; omega
  · exact lexL_err _ l _ c a b (Nat.le_refl _) h
/-- What is spelled is read as the same tokens. -/
theorem spell_relex {l : List UInt8} {ts : List Tk} (h : lexAll l = .ok ts) (hl : l.length ≤ 4000) : (spellL ts).length ≤ 16000 ∧ ∃ us, lexAll (spellL ts) = .ok us ∧ Alike us ts := by
  obtain ⟨g1, g2, g3⟩ := lexAll_good h
  cases ts with
  | nil => exact g1.elim
  | cons t ts =>
    have hlen := lay_len 1 ([] :: List.replicate ts.length [32]) (t :: ts) (by
      intro b hb
      rcases List.mem_cons.1 hb with rfl | hb
      · simp
      · rw [List.eq_of_mem_replicate hb]; simp)
    rw [← spell_lay] at hlen
    refine ⟨by omega, ?_⟩
    unfold lexAll
    rw [if_neg (by omega), spell_lay]
    refine relex (t :: ts) [] _ (1, 1) g1 (by simp) gapped_nil fun b hb => ?_
    rw [List.eq_of_mem_replicate hb]
    exact ⟨gapped_sp, sep_sp⟩
end Go.Proofs.Ytedbjkjncfinnaa
