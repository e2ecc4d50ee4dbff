/-
  A shifted word and an unrolled one: their letters, and what holds of them. No program in sight.
-/
import Derived.Test.YtedbjkjncfinnaaUnfoldT
import Derived.Test.YtedbjkjncfinnaaUnroll
namespace Go.Proofs.Ytedbjkjncfinnaa

theorem sat_moved {x y : Wd} (hx : 0 < x.cycle.length) (hy : 0 < y.cycle.length) (k : Nat) (h : ∀ j, y.far j = x.far (k + j)) :
    ∀ (t : T) (j : Nat), t.sat y j = t.sat x (k + j) := by
  have un_two : ∀ (f g f' g' : Nat → Bool), (∀ j, f j = f' (k + j)) → (∀ j, g j = g' (k + j)) → Round x g' → Round y g → ∀ j, un f g y.size j = un f' g' x.size (k + j) := by
    intro f g f' g' hf hg hr hr2 j
    rw [Bool.eq_iff_iff]
    have e : ∀ n, un f g n j = un f' g' n (k + j) := fun n => un_congr n j (k + j) (fun q => by rw [hf, Nat.add_assoc]) (fun q => by rw [hg, Nat.add_assoc])
    constructor
    · intro h1
      rw [e] at h1
      exact un_enough hx hr h1
    · intro h1
      rw [← e] at h1
      exact un_enough hy hr2 h1
  have fr_two : ∀ (f g f' g' : Nat → Bool), (∀ j, f j = f' (k + j)) → (∀ j, g j = g' (k + j)) → Round x g' → Round y g → ∀ j, fr f g y.size j = fr f' g' x.size (k + j) := by
    intro f g f' g' hf hg hr hr2 j
    rw [fr_un, fr_un]
    refine congrArg _ (un_two _ _ _ _ (fun j => by rw [hf]) (fun j => by rw [hg]) (fun i => by rw [hr i]) (fun i => by rw [hr2 i]) j)
  intro t
  induction t with
  | tt | ff => intro j; simp only [T.sat]
  | atom p => intro j; simp only [T.sat, h]
  | not p ih => intro j; simp only [T.sat, ih]
  | and p q ih1 ih2 | or p q ih1 ih2 | imp p q ih1 ih2 => intro j; simp only [T.sat, ih1, ih2]
  | next p ih => intro j; simp only [T.sat]; rw [ih, Nat.add_assoc]
  | all p ih => intro j; simp only [T.sat]; exact fr_two (fun _ => false) _ (fun _ => false) _ (fun _ => rfl) ih (p.sat_round x) (p.sat_round y) j
  | some_ p ih => intro j; simp only [T.sat]; exact un_two (fun _ => true) _ (fun _ => true) _ (fun _ => rfl) ih (p.sat_round x) (p.sat_round y) j
  | until_ p q ih1 ih2 => intro j; simp only [T.sat]; exact un_two _ _ _ _ ih1 ih2 (q.sat_round x) (q.sat_round y) j
  | free p q ih1 ih2 => intro j; simp only [T.sat]; exact fr_two _ _ _ _ ih1 ih2 (q.sat_round x) (q.sat_round y) j

theorem rot_at (l : List (List Bool)) (q m : Nat) (hq : q < l.length) (hm : m < l.length) : (l.drop q ++ l.take q).getD m [] = l.getD ((q + m) % l.length) [] := by
  simp only [List.getD_eq_getElem?_getD]
  congr 1
  by_cases h : m < l.length - q
  · rw [List.getElem?_append_left (by simpa using h), List.getElem?_drop, Nat.mod_eq_of_lt (by omega)]
  · rw [List.getElem?_append_right (by simpa using h), List.length_drop, List.getElem?_take, if_pos (by omega)]
    rw [show q + m = (m - (l.length - q)) + l.length by omega, Nat.add_mod_right, Nat.mod_eq_of_lt (by omega)]
theorem shift_cycle (x : Wd) (i : Nat) (h0 : 0 < x.cycle.length) : (x.shift i).cycle.length = x.cycle.length := by
  unfold Wd.shift
  have := x.place_lt i h0
  unfold Wd.size at this
  split
  · simp; omega
  · rfl
theorem shift_far (x : Wd) (i : Nat) (h0 : 0 < x.cycle.length) (j : Nat) : (x.shift i).far j = x.far (i + j) := by
  have e : x.far (i + j) = x.far (x.place i + j) := by unfold Wd.far; rw [x.place_add i j]
  rw [e]
  have hp := x.place_lt i h0
  unfold Wd.shift
  generalize x.place i = p at *
  unfold Wd.size at hp
  split
  · rename_i hn
    unfold Wd.far Wd.place Wd.letter
    simp only [List.length_nil, Nat.zero_le, if_pos, List.length_append, List.length_drop, List.length_take, Nat.sub_zero, Nat.zero_add]
    rw [show x.cycle.length - (p - x.stem.length) + min (p - x.stem.length) x.cycle.length = x.cycle.length by omega]
    rw [rot_at _ _ _ (by omega) (Nat.mod_lt _ h0)]
    rw [if_pos (show x.stem.length ≤ p + j by omega), if_pos (by omega)]
    rw [Nat.add_mod_mod]
    congr 1
    rw [show p + j - x.stem.length = p - x.stem.length + j by omega]
    omega
  · rename_i hn
    unfold Wd.far Wd.place Wd.letter
    simp only [List.length_drop]
    by_cases h : x.stem.length ≤ p + j
    · rw [if_pos (show x.stem.length - p ≤ j by omega), if_pos h, if_pos (by omega), if_pos (by omega)]
      congr 1
      rw [show j - (x.stem.length - p) = p + j - x.stem.length by omega]
      omega
    · rw [if_neg (show ¬ x.stem.length - p ≤ j by omega), if_neg h, if_neg (by omega), if_neg (by omega)]
      simp [List.getD_eq_getElem?_getD, List.getElem?_drop]
theorem rep_at (l : List (List Bool)) : ∀ (k m : Nat), m < k * l.length → (List.replicate k l).flatten.getD m [] = l.getD (m % l.length) []
  | 0, m, h => by omega
  | k + 1, m, h => by
    rw [List.replicate_succ, List.flatten_cons]
    by_cases hm : m < l.length
    · rw [List.getD_eq_getElem?_getD, List.getElem?_append_left hm, Nat.mod_eq_of_lt hm, List.getD_eq_getElem?_getD]
    · rw [List.getD_eq_getElem?_getD, List.getElem?_append_right (by omega), ← List.getD_eq_getElem?_getD, rep_at l k _ (by rw [Nat.succ_mul] at h; omega)]
      congr 1
      exact (Nat.mod_eq_sub_mod (by omega)).symm
theorem unroll_far (x : Wd) (k : Nat) (j : Nat) : (x.unroll k).far j = x.far (0 + j) := by
  rw [Nat.zero_add]
  unfold Wd.unroll Wd.far Wd.place Wd.letter
  simp only [List.length_append, flatten_rep]
  by_cases h2 : x.stem.length + k * x.cycle.length ≤ j
  · obtain ⟨m, rfl⟩ : ∃ m, j = x.stem.length + (k * x.cycle.length + m) := ⟨j - (x.stem.length + k * x.cycle.length), by omega⟩
    have h1 : x.stem.length ≤ x.stem.length + (k * x.cycle.length + m) := by omega
    rw [if_pos h2, if_pos h1, if_pos (show x.stem.length + k * x.cycle.length ≤ x.stem.length + k * x.cycle.length + _ from Nat.le_add_right _ _), if_pos (Nat.le_add_right _ _)]
    rw [Nat.add_sub_cancel_left, Nat.add_sub_cancel_left, Nat.add_sub_cancel_left, show x.stem.length + (k * x.cycle.length + m) - (x.stem.length + k * x.cycle.length) = m by omega, Nat.add_comm (k * x.cycle.length) m, Nat.add_mul_mod_self_right]
  · rw [if_neg h2, if_neg h2]
    by_cases h1 : x.stem.length ≤ j
    · rw [if_pos h1, if_pos (Nat.le_add_right _ _), Nat.add_sub_cancel_left, List.getD_eq_getElem?_getD, List.getElem?_append_right h1, ← List.getD_eq_getElem?_getD, rep_at _ _ _ (by omega)]
    · rw [if_neg h1, if_neg h1, List.getD_eq_getElem?_getD, List.getElem?_append_left (by omega), List.getD_eq_getElem?_getD]

/-- n letters from a position on. -/
def Wd.lets (x : Wd) (from_ n : Nat) : List (List Bool) := (List.range n).map fun j => x.far (from_ + j)
theorem lets_len (x : Wd) (a n : Nat) : (x.lets a n).length = n := by simp [Wd.lets]
theorem shift_lets (x : Wd) (i : Nat) (h0 : 0 < x.cycle.length) (n : Nat) : (x.shift i).lets 0 n = x.lets i n := by
  unfold Wd.lets
  refine List.map_congr_left fun j _ => ?_
  rw [Nat.zero_add]
  exact shift_far x i h0 j
theorem unroll_lets (x : Wd) (k : Nat) (n : Nat) : (x.unroll k).lets 0 n = x.lets 0 n := by
  unfold Wd.lets
  refine List.map_congr_left fun j _ => ?_
  rw [Nat.zero_add]
  exact (unroll_far x k j).trans (by rw [Nat.zero_add])
theorem shift_sat (x : Wd) (i : Nat) (h0 : 0 < x.cycle.length) (t : T) : t.sat (x.shift i) 0 = t.sat x i :=
  sat_moved h0 (by rw [shift_cycle x i h0]; exact h0) i (shift_far x i h0) t 0
theorem unroll_sat (x : Wd) (k : Nat) (h0 : 0 < x.cycle.length) (t : T) (j : Nat) : t.sat (x.unroll k) j = t.sat x j :=
  (sat_moved (x := x) (y := x.unroll k) h0 h0 0 (unroll_far x k) t j).trans (by rw [Nat.zero_add])
theorem unroll_size (x : Wd) (k : Nat) : (x.unroll k).stem.length = x.stem.length + k * x.cycle.length := by
  unfold Wd.unroll
  simp only [List.length_append, flatten_rep]
theorem far_mem (x : Wd) (h0 : 0 < x.cycle.length) (i : Nat) : ∃ q, x.far i = x.letter q ∧ q < x.size := ⟨x.place i, rfl, x.place_lt i h0⟩
end Go.Proofs.Ytedbjkjncfinnaa
