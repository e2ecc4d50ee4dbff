/-
  A region that draws its order, by a condition on which of its operations are done. No program in sight.
-/
import Derived.WalkKit
namespace Go.Proofs.Ytedbjkjncfinnaa

/-- Every edge of the region leads back. -/
def backward (ops : Array Oper) : Bool := (List.range ops.size).all fun i => match ops[i]? with | some o => o.after.all (fun e => decide (e.on < i)) | none => true

theorem nodup_le : ∀ (n : Nat) (s : List Nat), s.Nodup → (∀ i ∈ s, i < n) → s.length ≤ n
  | 0, s, _, h => by
    cases s with
    | nil => simp
    | cons x r => exact absurd (h x (by simp)) (by omega)
  | n + 1, s, hn, h => by
    have h1 := nodup_le n (s.erase n) (hn.erase n) fun i hi => by
      have := h i (List.mem_of_mem_erase hi)
      have hne : i ≠ n := ((List.Nodup.mem_erase_iff hn).1 hi).1
      omega
    have h2 := List.length_erase (l := s) (a := n)
    split at h2 <;> omega

section
variable {P : Program} {ops : Array Oper} {Q : Exit → Act → World → Prop}

theorem wpOp_of_one {i : Nat} {o : Oper} (ho : ops[i]? = some o) {K : Act → World → Prop} {a : Act} {w : World} (h : wpList P ops (Exit.then K Q) [o] a w) : wpOp P ops Q i K a w := by
  unfold wpOp
  simp only [ho]
  unfold wpList at h
  have hlet : LetsOut (Exit.then K Q) → LetsOut Q := fun ⟨a, w, h⟩ => ⟨a, w, h⟩
  split
  · rename_i hw
    rw [if_pos hw] at h
    rcases h with h | ⟨h1, h2⟩
    · left
      unfold Oper.wp at h ⊢
      generalize (execOp a.eval o).run P w = r at h ⊢
      cases r with
      | ok n w' =>
        cases n <;> simp only [Oper.upon] at h ⊢ <;>
          first
            | exact h
            | (exact Calls.mono h (fun e w'' he => by cases e <;> first | exact he | exact hlet he))
            | (exact Rows.mono h (fun _ _ he => he))
      | halt x w' => cases x <;> simp only [Oper.upon] at h ⊢ <;> exact h
    · exact .inr ⟨h1, hlet h2⟩
  · rename_i hw
    rw [if_neg hw] at h
    exact h

theorem wp_region_inv {id : Nat} {a : Act} {w : World} (hm : P.follows .mixedOrders = true) (hb : backward ops = true) (I : (Nat → Bool) → Act → World → Prop) (h0 : I (fun _ => false) a w.drew)
    (step : ∀ i o, ops[i]? = some o → ∀ L a w, I L a w → L i = false → (∀ e ∈ o.after.toList, Region.binds .any e = true → L e.on = true) → (∀ j o', ops[j]? = some o' → L j = true → ∀ e ∈ o'.after.toList, Region.binds .any e = true → L e.on = true) → wpList P ops (Exit.then (fun a' w' => I (fun j => j == i || L j) a' w') Q) [o] a w)
    (fin : ∀ L a w, I L a w → (∀ i, i < ops.size → L i = true) → Q .normal a w) : (Code.region id ops true).wp P Q a w := by
  refine wp_region_any hm ?_
  have key : ∀ (fuel : Nat) (L : Nat → Bool) (listed : Array Bool) (a : Act) (w : World), listed.size = ops.size → (∀ i, i < ops.size → listed[i]? = some (L i)) → I L a w → (∀ j o', ops[j]? = some o' → L j = true → ∀ e ∈ o'.after.toList, Region.binds .any e = true → L e.on = true) →
      (∀ s : List Nat, s.Nodup → (∀ i ∈ s, i < ops.size ∧ L i = false) → s.length ≤ fuel) → wpAny P .any ops Q fuel listed a w := by
    intro fuel
    have nil : ∀ (L : Nat → Bool) (listed : Array Bool), listed.size = ops.size → (∀ i, i < ops.size → listed[i]? = some (L i)) → Region.ready .any ops listed = [] → ∀ n, ∀ i, i < n → i < ops.size → L i = true := by
      intro L listed hs hl hr n
      induction n with
      | zero => intro i h; omega
      | succ n ih =>
        intro i hin hi
        rcases Nat.lt_or_ge i n with h | h
        · exact ih i h hi
        · have hin' : i = n := by omega
          subst hin'
          cases hL : L i with
          | true => rfl
          | false =>
            exfalso
            have : i ∈ Region.ready .any ops listed := by
              unfold Region.ready
              rw [List.mem_filter]
              refine ⟨List.mem_range.2 hi, ?_⟩
              have h1 : listed.getD i true = false := by rw [Array.getD_eq_getD_getElem?, hl i hi, hL]; rfl
              rw [h1, Array.getElem?_eq_getElem hi]
              simp only [Bool.not_false, Option.map_some, Option.getD_some, Bool.true_and, Array.all_eq_true_iff_forall_mem]
              intro e he
              have hbk := List.all_eq_true.1 hb i (List.mem_range.2 hi)
              rw [Array.getElem?_eq_getElem hi] at hbk
              simp only [Array.all_eq_true_iff_forall_mem, decide_eq_true_eq] at hbk
              have hlt := hbk e he
              have h2 : listed.getD e.on false = true := by rw [Array.getD_eq_getD_getElem?, hl e.on (by omega), ih e.on hlt (by omega)]; rfl
              rw [h2]
              simp
            rw [hr] at this
            cases this
    induction fuel with
    | zero =>
      intro L listed a w hs hl hI _ hc
      have hall : ∀ i, i < ops.size → L i = true := by
        intro i hi
        cases hL : L i with
        | true => rfl
        | false => exact absurd (hc [i] (by simp) (by simp [hi, hL])) (by simp)
      refine ⟨?_, fin L a w hI hall⟩
      unfold Region.ready
      rw [List.filter_eq_nil_iff]
      intro i hi
      have hi' := List.mem_range.1 hi
      have h1 : listed.getD i true = true := by rw [Array.getD_eq_getD_getElem?, hl i hi', hall i hi']; rfl
      simp [h1]
    | succ fuel ih =>
      intro L listed a w hs hl hI hcl hc
      refine ⟨fun hr => fin L a w hI (fun i hi => nil L listed hs hl hr (i + 1) i (by omega) hi), fun i hi => ?_⟩
      unfold Region.ready at hi
      rw [List.mem_filter] at hi
      obtain ⟨hi1, hi2⟩ := hi
      have hi' := List.mem_range.1 hi1
      simp only [Bool.and_eq_true, Bool.not_eq_true', Array.getElem?_eq_getElem hi', Option.map_some, Option.getD_some, Array.all_eq_true_iff_forall_mem] at hi2
      obtain ⟨hn, he⟩ := hi2
      have hLi : L i = false := by
        rw [Array.getD_eq_getD_getElem?, hl i hi'] at hn
        exact hn
      have hpre : ∀ e ∈ (ops[i]'hi').after.toList, Region.binds .any e = true → L e.on = true := by
        intro e he' hbd
        have := he e (by simpa using he')
        have hbk := List.all_eq_true.1 hb i hi1
        rw [Array.getElem?_eq_getElem hi'] at hbk
        simp only [Array.all_eq_true_iff_forall_mem, decide_eq_true_eq] at hbk
        have hlt := hbk e (by simpa using he')
        rw [hbd] at this
        simp only [Bool.not_true, Bool.false_or] at this
        rw [Array.getD_eq_getD_getElem?, hl e.on (by omega)] at this
        exact this
      refine wpOp_mono (K := fun a' w' => I (fun j => j == i || L j) a' w') (fun a' w' hI' => ih (fun j => j == i || L j) _ a' w' (by simpa using hs) (fun j hj => ?_) hI' (fun j o' ho' hj e he' hbd => ?_) (fun s hnd hs' => ?_)) (wpOp_of_one (Array.getElem?_eq_getElem hi') (step i _ (Array.getElem?_eq_getElem hi') L a w hI hLi hpre hcl))
      · rw [Array.getElem?_setIfInBounds]
        by_cases hji : i = j
        · subst hji; simp [hs, hi']
        · have hne : (j == i) = false := by simp; omega
          rw [if_neg hji, hl j hj, hne]
          rfl
      · by_cases hji : j = i
        · subst hji
          rw [Array.getElem?_eq_getElem hi'] at ho'
          cases ho'
          rw [hpre e he' hbd]
          simp
        · have hne : (j == i) = false := by simpa using hji
          simp only [hne, Bool.false_or] at hj
          rw [hcl j o' ho' hj e he' hbd]
          simp
      · have hns : i ∉ s := fun h => by have := (hs' i h).2; simp at this
        have := hc (i :: s) (List.nodup_cons.2 ⟨hns, hnd⟩) (fun j hj => by
          rcases List.mem_cons.1 hj with rfl | hj
          · exact ⟨hi', hLi⟩
          · have h2 := (hs' j hj).2
            simp only [Bool.or_eq_false_iff] at h2
            exact ⟨(hs' j hj).1, h2.2⟩)
        simp at this
        omega
  refine key ops.size (fun _ => false) _ a w.drew (by simp) (fun i hi => by simp [hi]) h0 (fun j o' _ hj => by simp at hj) (fun s hnd hs => ?_)
  exact nodup_le _ s hnd fun i hi => (hs i hi).1
end
end Go.Proofs.Ytedbjkjncfinnaa
