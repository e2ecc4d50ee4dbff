/-
  Where a property holds: of a word that goes round, by looking at as many positions as there are unlike ones. No program in sight.
-/
import Derived.Test.YtedbjkjncfinnaaPlain
import Derived.Test.YtedbjkjncfinnaaWordW
namespace Go.Proofs.Ytedbjkjncfinnaa

/-- g within n positions, f up to there. -/
def un (f g : Nat → Bool) : Nat → Nat → Bool
  | 0, _ => false
  | n + 1, i => g i || (f i && un f g n (i + 1))
/-- g for n positions, or up to and with f. -/
def fr (f g : Nat → Bool) : Nat → Nat → Bool
  | 0, _ => true
  | n + 1, i => g i && (f i || fr f g n (i + 1))
def T.sat (x : Wd) : T → Nat → Bool
  | .tt, _ => true
  | .ff, _ => false
  | .atom p, i => hasAt (x.far i) p
  | .not p, i => !p.sat x i
  | .and p q, i => p.sat x i && q.sat x i
  | .or p q, i => p.sat x i || q.sat x i
  | .imp p q, i => !p.sat x i || q.sat x i
  | .next p, i => p.sat x (i + 1)
  | .all p, i => fr (fun _ => false) (p.sat x) x.size i
  | .some_ p, i => un (fun _ => true) (p.sat x) x.size i
  | .until_ p q, i => un (p.sat x) (q.sat x) x.size i
  | .free p q, i => fr (p.sat x) (q.sat x) x.size i

theorem Wd.place_add (x : Wd) (i k : Nat) : x.place (i + k) = x.place (x.place i + k) := by
  unfold Wd.place
  by_cases h : x.stem.length ≤ i
  · rw [if_pos h, if_pos (show x.stem.length ≤ i + k by omega), if_pos (show x.stem.length ≤ x.stem.length + (i - x.stem.length) % x.cycle.length + k by omega)]
    rw [show x.stem.length + (i - x.stem.length) % x.cycle.length + k - x.stem.length = (i - x.stem.length) % x.cycle.length + k by omega, Nat.mod_add_mod, show i + k - x.stem.length = i - x.stem.length + k by omega]
  · rw [if_neg h]
theorem Wd.place_place (x : Wd) (i : Nat) : x.place (x.place i) = x.place i := by
  have := x.place_add i 0
  simpa using this.symm
theorem Wd.place_lt (x : Wd) (i : Nat) (h : 0 < x.cycle.length) : x.place i < x.size := by
  unfold Wd.place Wd.size
  split
  · have := Nat.mod_lt (i - x.stem.length) h; omega
  · omega
theorem Wd.place_id (x : Wd) (i : Nat) (h : i < x.size) : x.place i = i := by
  unfold Wd.place
  unfold Wd.size at h
  split
  · rw [Nat.mod_eq_of_lt (by omega)]; omega
  · rfl
theorem Wd.place_next (x : Wd) (i : Nat) (h : i < x.size) : x.place (i + 1) = x.next i := by
  unfold Wd.place Wd.next
  unfold Wd.size at *
  split
  · by_cases hq : i + 1 = x.stem.length + x.cycle.length
    · rw [if_pos hq, hq, Nat.add_sub_cancel_left, Nat.mod_self]; rfl
    · rw [if_neg hq, Nat.mod_eq_of_lt (by omega)]; omega
  · rw [if_neg (by omega)]

/-- It goes round with the word. -/
def Round (x : Wd) (f : Nat → Bool) : Prop := ∀ i, f i = f (x.place i)
theorem Round.shift {x : Wd} {f : Nat → Bool} (h : Round x f) (i k : Nat) : f (i + k) = f (x.place i + k) := by
  rw [h (i + k), h (x.place i + k), x.place_add]
theorem un_congr {f g f' g' : Nat → Bool} : ∀ (n i j : Nat), (∀ k, f (i + k) = f' (j + k)) → (∀ k, g (i + k) = g' (j + k)) → un f g n i = un f' g' n j
  | 0, _, _, _, _ => rfl
  | n + 1, i, j, hf, hg => by
    unfold un
    rw [show f i = f' j from hf 0, show g i = g' j from hg 0, un_congr (f' := f') (g' := g') n (i + 1) (j + 1) (fun k => by rw [show i + 1 + k = i + (k + 1) by omega, show j + 1 + k = j + (k + 1) by omega]; exact hf (k + 1)) (fun k => by rw [show i + 1 + k = i + (k + 1) by omega, show j + 1 + k = j + (k + 1) by omega]; exact hg (k + 1))]
theorem fr_congr {f g f' g' : Nat → Bool} : ∀ (n i j : Nat), (∀ k, f (i + k) = f' (j + k)) → (∀ k, g (i + k) = g' (j + k)) → fr f g n i = fr f' g' n j
  | 0, _, _, _, _ => rfl
  | n + 1, i, j, hf, hg => by
    unfold fr
    rw [show f i = f' j from hf 0, show g i = g' j from hg 0, fr_congr (f' := f') (g' := g') n (i + 1) (j + 1) (fun k => by rw [show i + 1 + k = i + (k + 1) by omega, show j + 1 + k = j + (k + 1) by omega]; exact hf (k + 1)) (fun k => by rw [show i + 1 + k = i + (k + 1) by omega, show j + 1 + k = j + (k + 1) by omega]; exact hg (k + 1))]
theorem T.sat_round (x : Wd) : ∀ t : T, Round x (t.sat x)
  | .tt | .ff => fun _ => by simp only [T.sat]
  | .atom p => fun i => by simp only [T.sat, Wd.far, x.place_place]
  | .not p => fun i => by simp only [T.sat]; rw [p.sat_round x i]
  | .and p q | .or p q | .imp p q => fun i => by simp only [T.sat]; rw [p.sat_round x i, q.sat_round x i]
  | .next p => fun i => by simp only [T.sat]; exact (p.sat_round x).shift i 1
  | .all p => fun i => by simp only [T.sat]; exact fr_congr _ _ _ (fun _ => rfl) (fun k => (p.sat_round x).shift i k)
  | .some_ p => fun i => by simp only [T.sat]; exact un_congr _ _ _ (fun _ => rfl) (fun k => (p.sat_round x).shift i k)
  | .until_ p q => fun i => by simp only [T.sat]; exact un_congr _ _ _ (fun k => (p.sat_round x).shift i k) (fun k => (q.sat_round x).shift i k)
  | .free p q => fun i => by simp only [T.sat]; exact fr_congr _ _ _ (fun k => (p.sat_round x).shift i k) (fun k => (q.sat_round x).shift i k)

theorem un_iff (f g : Nat → Bool) : ∀ n i, un f g n i = true ↔ ∃ k, k < n ∧ g (i + k) = true ∧ ∀ j, j < k → f (i + j) = true
  | 0, i => by simp [un]
  | n + 1, i => by
    unfold un
    rw [Bool.or_eq_true, Bool.and_eq_true, un_iff f g n (i + 1)]
    constructor
    · rintro (h | ⟨h1, k, h2, h3, h4⟩)
      · exact ⟨0, by omega, h, fun j hj => by omega⟩
      · refine ⟨k + 1, by omega, by rw [show i + (k + 1) = i + 1 + k by omega]; exact h3, fun j hj => ?_⟩
        rcases j with _ | j
        · exact h1
        · rw [show i + (j + 1) = i + 1 + j by omega]; exact h4 j (by omega)
    · rintro ⟨k, h1, h2, h3⟩
      rcases k with _ | k
      · exact .inl h2
      · exact .inr ⟨h3 0 (by omega), k, by omega, by rw [show i + 1 + k = i + (k + 1) by omega]; exact h2, fun j hj => by rw [show i + 1 + j = i + (j + 1) by omega]; exact h3 (j + 1) (by omega)⟩
theorem fr_un (f g : Nat → Bool) : ∀ n i, fr f g n i = !un (fun k => !f k) (fun k => !g k) n i
  | 0, i => rfl
  | n + 1, i => by
    unfold fr un
    rw [fr_un f g n (i + 1)]
    cases f i <;> cases g i <;> simp
/-- As many positions as there are unlike ones are enough. -/
theorem un_enough {x : Wd} {f g : Nat → Bool} (hc : 0 < x.cycle.length) (hg : Round x g) {n i : Nat} (h : un f g n i = true) : un f g x.size i = true := by
  rw [un_iff] at h ⊢
  obtain ⟨k, h1, h2, h3⟩ := h
  clear h1
  induction k using Nat.strongRecOn with
  | _ k ih =>
    by_cases hk : k < x.size
    · exact ⟨k, hk, h2, h3⟩
    · unfold Wd.size at hk
      have : x.place (i + k) = x.place (i + (k - x.cycle.length)) := by
        unfold Wd.place
        rw [if_pos (by omega), if_pos (by omega), show i + k - x.stem.length = i + (k - x.cycle.length) - x.stem.length + x.cycle.length by omega, Nat.add_mod_right]
      refine ih (k - x.cycle.length) (by omega) ?_ fun j hj => h3 j (by omega)
      rw [hg, ← this, ← hg]
      exact h2
end Go.Proofs.Ytedbjkjncfinnaa
