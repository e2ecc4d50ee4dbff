/-
  Small whole numbers as floats: adding 1, adding 0, and back to an integer are exact. No program in sight.
-/
import Derived.Laws.ComplexArith
namespace Go.Proofs.Ytedbjkjncfinnaa
open Ieee

/-- The bits of a whole number. -/
def enc (n : Nat) : Nat := Ieee.double.nearest false n 0

theorem log2_shift (n k : Nat) (h : n ≠ 0) : (n * 2 ^ k).log2 = n.log2 + k := by
  have h1 := (Nat.log2_eq_iff h).1 rfl
  rw [Nat.log2_eq_iff (by have := Nat.two_pow_pos k; exact Nat.mul_ne_zero h (by omega))]
  refine ⟨?_, ?_⟩
  · rw [Nat.pow_add]; exact Nat.mul_le_mul_right _ h1.1
  · rw [show n.log2 + k + 1 = n.log2 + 1 + k by omega, Nat.pow_add]
    exact Nat.mul_lt_mul_of_pos_right h1.2 (Nat.two_pow_pos k)
theorem log2_small {n : Nat} (h : n ≠ 0) (hn : n < 2 ^ 50) : n.log2 < 50 := (Nat.log2_lt h).2 hn
theorem least : Ieee.double.leastPlace = -1074 := by decide
theorem bin : Ieee.double.binade = 2 ^ 52 := rfl
theorem infr : Ieee.double.infRung = 2047 * 2 ^ 52 := by decide +kernel
theorem sgnw : Ieee.double.signWeight = 2 ^ 63 := rfl

/-- Nothing is cut off what ends in so many noughts. -/
theorem cut_exact (way : Toward) (n k d : Nat) (hk : d ≤ k) (h : n ≠ 0) : way.cut false (n * 2 ^ k) d = n * 2 ^ (k - d) := by
  unfold Toward.cut
  rw [log2_shift n k h, Nat.min_eq_left (by omega), Nat.one_shiftLeft]
  have e : n * 2 ^ k = n * 2 ^ (k - d) * 2 ^ d := by rw [Nat.mul_assoc, ← Nat.pow_add, Nat.sub_add_cancel hk]
  rw [e]
  dsimp only
  rw [Nat.mul_div_cancel _ (Nat.two_pow_pos d), Nat.mul_mod_left]
  have hp := Nat.two_pow_pos d
  cases way
  · have h1 : decide (2 ^ d < 2 * 0) = false := by simp
    have h2 : (2 ^ d == 2 * 0) = false := by simp
    simp only [h1, h2, Bool.false_and, Bool.or_self, Bool.toNat_false, Nat.add_zero]
  all_goals simp
theorem word_le {L m : Nat} (hL : L < 50) (h3 : m < 2 ^ 53) : (L + 1022) * 2 ^ 52 + m ≤ 2047 * 2 ^ 52 := by
  have h1 : (L + 1022) * 2 ^ 52 ≤ 1072 * 2 ^ 52 := Nat.mul_le_mul_right _ (by omega)
  have h2 : m < 2 ^ 52 * 2 := h3
  generalize (2 ^ 52 : Nat) = B at *
  generalize (L + 1022) * B = C at *
  omega
theorem place_eq (L : Nat) : (-1074 : Int) + ((L + 1023 - 1 : Nat) : Int) = (L : Int) - 52 := by omega
theorem nearest_shift (n k : Nat) (h : n ≠ 0) (hn : n < 2 ^ 50) (hk : 52 ≤ k) (hk2 : k ≤ 1074) : Ieee.double.nearest false (n * 2 ^ k) (-k) = (n.log2 + 1022) * 2 ^ 52 + n * 2 ^ (52 - n.log2) := by
  have hL := log2_small h hn
  have h1 := (Nat.log2_eq_iff h).1 rfl
  have h0 : n * 2 ^ k ≠ 0 := Nat.mul_ne_zero h (by have := Nat.two_pow_pos k; omega)
  unfold Format.nearest
  rw [if_neg h0, log2_shift n k h, least, bin, infr]
  have e1 : max (-(k : Int) + ((n.log2 + k : Nat) : Int) - ((Ieee.double.fractionBits : Nat) : Int)) (-1074) = (n.log2 : Int) - 52 := by
    show max (-(k : Int) + ((n.log2 + k : Nat) : Int) - ((52 : Nat) : Int)) (-1074) = _
    omega
  simp only [e1]
  rw [show (-(k : Int) - ((n.log2 : Int) - 52)).toNat = 0 by omega, Nat.shiftLeft_zero]
  rw [show ((n.log2 : Int) - 52 - -(k : Int)).toNat = n.log2 + k - 52 by omega]
  rw [cut_exact .even n k _ (by omega) h, show k - (n.log2 + k - 52) = 52 - n.log2 by omega]
  rw [show ((n.log2 : Int) - 52 - -1074).toNat = n.log2 + 1022 by omega]
  have h3 : n * 2 ^ (52 - n.log2) < 2 ^ 53 := by
    have := Nat.mul_lt_mul_of_pos_right h1.2 (Nat.two_pow_pos (52 - n.log2))
    rwa [← Nat.pow_add, show n.log2 + 1 + (52 - n.log2) = 53 by omega] at this
  rw [Nat.min_eq_left]
  · unfold Format.word; simp
  · exact word_le hL h3
theorem enc_eq (n : Nat) (h : n ≠ 0) (hn : n < 2 ^ 50) : enc n = (n.log2 + 1022) * 2 ^ 52 + n * 2 ^ (52 - n.log2) := by
  have hL := log2_small h hn
  have h1 := (Nat.log2_eq_iff h).1 rfl
  unfold enc Format.nearest
  rw [if_neg h, least, bin, infr]
  have e1 : max ((0 : Int) + (n.log2 : Int) - ((Ieee.double.fractionBits : Nat) : Int)) (-1074) = (n.log2 : Int) - 52 := by
    show max ((0 : Int) + (n.log2 : Int) - ((52 : Nat) : Int)) (-1074) = _
    omega
  simp only [e1]
  rw [show ((0 : Int) - ((n.log2 : Int) - 52)).toNat = 52 - n.log2 by omega, show ((n.log2 : Int) - 52 - 0).toNat = 0 by omega, Nat.shiftLeft_eq]
  rw [cut_exact .even n (52 - n.log2) 0 (by omega) h, Nat.sub_zero]
  rw [show ((n.log2 : Int) - 52 - -1074).toNat = n.log2 + 1022 by omega]
  have h3 : n * 2 ^ (52 - n.log2) < 2 ^ 53 := by
    have := Nat.mul_lt_mul_of_pos_right h1.2 (Nat.two_pow_pos (52 - n.log2))
    rwa [← Nat.pow_add, show n.log2 + 1 + (52 - n.log2) = 53 by omega] at this
  rw [Nat.min_eq_left]
  · unfold Format.word; simp
  · exact word_le hL h3
theorem enc_shift (n k : Nat) (h : n ≠ 0) (hn : n < 2 ^ 50) (hk : 52 ≤ k) (hk2 : k ≤ 1074) : Ieee.double.nearest false (n * 2 ^ k) (-k) = enc n := (nearest_shift n k h hn hk hk2).trans (enc_eq n h hn).symm
theorem read_enc (n : Nat) (h : n ≠ 0) (hn : n < 2 ^ 50) : Ieee.double.read (enc n) = .number false (n * 2 ^ (52 - n.log2)) ((n.log2 : Int) - 52) := by
  have hL := log2_small h hn
  have h1 := (Nat.log2_eq_iff h).1 rfl
  rw [enc_eq n h hn]
  have h2 : 2 ^ 52 ≤ n * 2 ^ (52 - n.log2) := by
    have := Nat.mul_le_mul_right (2 ^ (52 - n.log2)) h1.1
    rwa [← Nat.pow_add, show n.log2 + (52 - n.log2) = 52 by omega] at this
  have h3 : n * 2 ^ (52 - n.log2) < 2 ^ 53 := by
    have := Nat.mul_lt_mul_of_pos_right h1.2 (Nat.two_pow_pos (52 - n.log2))
    rwa [← Nat.pow_add, show n.log2 + 1 + (52 - n.log2) = 53 by omega] at this
  generalize n * 2 ^ (52 - n.log2) = m at *
  generalize n.log2 = L at *
  unfold Format.read
  rw [sgnw, bin, infr, least]
  have hw : (L + 1022) * 2 ^ 52 + m < 2 ^ 63 := by
    have : (L + 1022) * 2 ^ 52 ≤ 1072 * 2 ^ 52 := Nat.mul_le_mul_right _ (by omega)
    omega
  have hm : ((L + 1022) * 2 ^ 52 + m) % 2 ^ 63 = (L + 1022) * 2 ^ 52 + m := Nat.mod_eq_of_lt hw
  have hd : ((L + 1022) * 2 ^ 52 + m) / 2 ^ 63 = 0 := Nat.div_eq_of_lt hw
  have hlt : (L + 1022) * 2 ^ 52 ≤ 1072 * 2 ^ 52 := Nat.mul_le_mul_right _ (by omega)
  simp only [hm, hd]
  have hq : ((L + 1022) * 2 ^ 52 + m) / 2 ^ 52 = L + 1023 := by omega
  have hr : ((L + 1022) * 2 ^ 52 + m) % 2 ^ 52 = m - 2 ^ 52 := by omega
  rw [hq, hr, if_neg (by omega), if_pos (by omega)]
  have z : ((0 : Nat) % 2 == 1) = false := rfl
  rw [z, show 2 ^ 52 + (m - 2 ^ 52) = m by omega]
  rw [place_eq]
theorem enc_one : enc 1 = 4607182418800017408 := by decide +kernel
theorem read_zero : Ieee.double.read 0 = .number false 0 (-1074) := by decide +kernel

/-- One more. -/
theorem add_one (n : Nat) (h : n ≠ 0) (hn : n < 2 ^ 49) : floatBits .add .f64 (enc n) 4607182418800017408 = some (enc (n + 1)) := by
  have hL := log2_small h (by omega)
  rw [← enc_one]
  show Ieee.double.add (enc n) (enc 1) = _
  unfold Format.add
  rw [read_enc n h (by omega), read_enc 1 (by decide) (by decide)]
  have l1 : Nat.log2 1 = 0 := by decide
  rw [l1]
  unfold Datum.sum
  simp only
  have hb : min ((n.log2 : Int) - 52) (((0 : Nat) : Int) - 52) = -52 := by omega
  rw [hb, show ((n.log2 : Int) - 52 - -52).toNat = n.log2 by omega, show (((0 : Nat) : Int) - 52 - -52).toNat = 0 by omega]
  unfold signed
  simp only [Bool.false_eq_true, if_false]
  rw [Nat.shiftLeft_eq, Nat.shiftLeft_zero, Nat.mul_assoc, ← Nat.pow_add, show 52 - n.log2 + n.log2 = 52 by omega]
  have e : ((n * 2 ^ 52 : Nat) : Int) + ((1 * 2 ^ (52 - 0) : Nat) : Int) = (((n + 1) * 2 ^ 52 : Nat) : Int) := by
    rw [Nat.add_mul]; omega
  rw [e, if_neg (by omega), Int.natAbs_natCast]
  have hd : decide ((((n + 1) * 2 ^ 52 : Nat) : Int) < 0) = false := by rw [decide_eq_false_iff_not]; omega
  rw [hd]
  show some (Ieee.double.nearest false ((n + 1) * 2 ^ 52) (-((52 : Nat) : Int))) = _
  rw [enc_shift (n + 1) 52 (by omega) (by omega) (by decide) (by decide)]
/-- Nothing more. -/
theorem add_zero' (n : Nat) (h : n ≠ 0) (hn : n < 2 ^ 49) : floatBits .add .f64 (enc n) 0 = some (enc n) := by
  have hL := log2_small h (by omega)
  show Ieee.double.add (enc n) 0 = _
  unfold Format.add
  rw [read_enc n h (by omega), read_zero]
  unfold Datum.sum
  simp only
  obtain ⟨K, hK⟩ : ∃ K : Nat, K = 1074 := ⟨_, rfl⟩
  have hb : min ((n.log2 : Int) - 52) (-1074) = -(K : Int) := by omega
  rw [hb, show ((n.log2 : Int) - 52 - -(K : Int)).toNat = n.log2 + K - 52 by omega, show ((-1074 : Int) - -(K : Int)).toNat = 0 by omega]
  unfold signed
  simp only [Bool.false_eq_true, if_false]
  rw [Nat.shiftLeft_eq, Nat.shiftLeft_zero, Nat.mul_assoc, ← Nat.pow_add, show 52 - n.log2 + (n.log2 + K - 52) = K by omega]
  have hp : 0 < n * 2 ^ K := Nat.mul_pos (by omega) (Nat.two_pow_pos _)
  rw [show ((n * 2 ^ K : Nat) : Int) + ((0 : Nat) : Int) = ((n * 2 ^ K : Nat) : Int) by omega, if_neg (by omega), Int.natAbs_natCast]
  have hd : decide (((n * 2 ^ K : Nat) : Int) < 0) = false := by rw [decide_eq_false_iff_not]; omega
  rw [hd]
  show some (Ieee.double.nearest false (n * 2 ^ K) (-(K : Int))) = _
  rw [enc_shift n K h (by omega) (by omega) (by omega)]
theorem enc_int (n : Nat) (h : n ≠ 0) (hn : n < 2 ^ 49) : floatToIntVal .f64 (enc n) .i64 = some (n : Int) := by
  have hL := log2_small h (by omega)
  unfold floatToIntVal
  show (match (Ieee.double.read (enc n)).toInt .zero with | some m => if IntKind.i64.min ≤ m ∧ m ≤ IntKind.i64.max then some m else none | none => none) = _
  rw [read_enc n h (by omega)]
  unfold Datum.toInt Datum.integral
  simp only
  rw [show ((n.log2 : Int) - 52).toNat = 0 by omega, Nat.shiftLeft_zero, show (-((n.log2 : Int) - 52)).toNat = 52 - n.log2 by omega]
  rw [cut_exact .zero n (52 - n.log2) (52 - n.log2) (Nat.le_refl _) h, Nat.sub_self, Nat.pow_zero, Nat.mul_one]
  unfold signed
  simp only [Bool.false_eq_true, if_false, Nat.shiftLeft_zero]
  have h1 : IntKind.i64.min ≤ (n : Int) := by show (-9223372036854775808 : Int) ≤ _; omega
  have h2 : (n : Int) ≤ IntKind.i64.max := by show _ ≤ (9223372036854775807 : Int); omega
  rw [if_pos ⟨h1, h2⟩]
end Go.Proofs.Ytedbjkjncfinnaa
