/-
  Layer 10: the reference's class of a byte.
-/
import Derived.Test.YtedbjkjncfinnaaLexA
namespace Go.Proofs.Ytedbjkjncfinnaa
open Go.RowKit

def clsN (n : Nat) : Nat := if 97 ≤ n ∧ n ≤ 122 then 1 else if 48 ≤ n ∧ n ≤ 57 then 2 else if n = 95 then 3 else if [88, 71, 70, 85, 82].contains n then 4 else if [32, 9, 10, 35].contains n then 5 else if [40, 41, 44, 59, 58, 46, 43, 42, 38, 124, 33, 64, 61, 60, 62, 47, 45].contains n then 6 else 0
def clsB (c : UInt8) : Nat := clsN c.toNat
set_option maxRecDepth 100000 in
set_option maxHeartbeats 8000000 in
theorem class_any (c : UInt8) (b : Int) (w : World) (hb : b = (c.toNat : Int)) : Calls Try.prog 53 #[.int .u8 b] w fun e w' => e = .returned (.int .i64 (clsB c)) ∧ w = w' := by
  subst hb
  have hc := c.toNat_lt
  obtain ⟨m, hm⟩ : ∃ m, clsB c = m := ⟨_, rfl⟩
  rw [hm]
  have hm : clsN c.toNat = m := hm
  generalize c.toNat = n at *
  by_cases h1 : 97 ≤ n ∧ n ≤ 122
  · obtain rfl : 1 = m := by rw [← hm]; unfold clsN; rw [if_pos h1]
    have z1 : (97 : Int) ≤ (n : Int) := by omega
    have z2 : (n : Int) ≤ 122 := by omega
    clear hm h1
    go_enter Try.func53, Try.ntmps53
    go_wp2
    go_ret
    exact ⟨rfl, rfl⟩
  by_cases h2 : 48 ≤ n ∧ n ≤ 57
  · obtain rfl : 2 = m := by rw [← hm]; unfold clsN; rw [if_neg h1, if_pos h2]
    have z1 : ¬ (97 : Int) ≤ (n : Int) := by omega
    have z2 : (48 : Int) ≤ (n : Int) := by omega
    have z3 : (n : Int) ≤ 57 := by omega
    clear hm h1 h2
    go_enter Try.func53, Try.ntmps53
    go_wp2
    go_ret
    exact ⟨rfl, rfl⟩
  by_cases h3 : n ∈ [95, 88, 71, 70, 85, 82, 32, 9, 10, 35, 40, 41, 44, 59, 58, 46, 43, 42, 38, 124, 33, 64, 61, 60, 62, 47, 45]
  · simp only [List.mem_cons, List.not_mem_nil, or_false] at h3
    clear h1 h2 hc
    rcases h3 with rfl | rfl | rfl | rfl | rfl | rfl | rfl | rfl | rfl | rfl | rfl | rfl | rfl | rfl | rfl | rfl | rfl | rfl | rfl | rfl | rfl | rfl | rfl | rfl | rfl | rfl | rfl
    all_goals
      subst hm
      go_enter Try.func53, Try.ntmps53
      go_wp2
      go_ret
      exact ⟨rfl, rfl⟩
  · simp only [List.mem_cons, List.not_mem_nil, or_false, not_or] at h3
    obtain ⟨n95, n88, n71, n70, n85, n82, n32, n9, n10, n35, n40, n41, n44, n59, n58, n46, n43, n42, n38, n124, n33, n64, n61, n60, n62, n47, n45⟩ := h3
    obtain rfl : 0 = m := by
      rw [← hm]
      unfold clsN
      rw [if_neg h1, if_neg h2]
      simp [n95, n88, n71, n70, n85, n82, n32, n9, n10, n35, n40, n41, n44, n59, n58, n46, n43, n42, n38, n124, n33, n64, n61, n60, n62, n47, n45]
    have q95 : ((n : Int) == 95) = false := by rw [beq_eq_false_iff_ne]; omega
    have q88 : ((n : Int) == 88) = false := by rw [beq_eq_false_iff_ne]; omega
    have q71 : ((n : Int) == 71) = false := by rw [beq_eq_false_iff_ne]; omega
    have q70 : ((n : Int) == 70) = false := by rw [beq_eq_false_iff_ne]; omega
    have q85 : ((n : Int) == 85) = false := by rw [beq_eq_false_iff_ne]; omega
    have q82 : ((n : Int) == 82) = false := by rw [beq_eq_false_iff_ne]; omega
    have q32 : ((n : Int) == 32) = false := by rw [beq_eq_false_iff_ne]; omega
    have q9 : ((n : Int) == 9) = false := by rw [beq_eq_false_iff_ne]; omega
    have q10 : ((n : Int) == 10) = false := by rw [beq_eq_false_iff_ne]; omega
    have q35 : ((n : Int) == 35) = false := by rw [beq_eq_false_iff_ne]; omega
    have q40 : ((n : Int) == 40) = false := by rw [beq_eq_false_iff_ne]; omega
    have q41 : ((n : Int) == 41) = false := by rw [beq_eq_false_iff_ne]; omega
    have q44 : ((n : Int) == 44) = false := by rw [beq_eq_false_iff_ne]; omega
    have q59 : ((n : Int) == 59) = false := by rw [beq_eq_false_iff_ne]; omega
    have q58 : ((n : Int) == 58) = false := by rw [beq_eq_false_iff_ne]; omega
    have q46 : ((n : Int) == 46) = false := by rw [beq_eq_false_iff_ne]; omega
    have q43 : ((n : Int) == 43) = false := by rw [beq_eq_false_iff_ne]; omega
    have q42 : ((n : Int) == 42) = false := by rw [beq_eq_false_iff_ne]; omega
    have q38 : ((n : Int) == 38) = false := by rw [beq_eq_false_iff_ne]; omega
    have q124 : ((n : Int) == 124) = false := by rw [beq_eq_false_iff_ne]; omega
    have q33 : ((n : Int) == 33) = false := by rw [beq_eq_false_iff_ne]; omega
    have q64 : ((n : Int) == 64) = false := by rw [beq_eq_false_iff_ne]; omega
    have q61 : ((n : Int) == 61) = false := by rw [beq_eq_false_iff_ne]; omega
    have q60 : ((n : Int) == 60) = false := by rw [beq_eq_false_iff_ne]; omega
    have q62 : ((n : Int) == 62) = false := by rw [beq_eq_false_iff_ne]; omega
    have q47 : ((n : Int) == 47) = false := by rw [beq_eq_false_iff_ne]; omega
    have q45 : ((n : Int) == 45) = false := by rw [beq_eq_false_iff_ne]; omega
    clear hm n95 n88 n71 n70 n85 n82 n32 n9 n10 n35 n40 n41 n44 n59 n58 n46 n43 n42 n38 n124 n33 n64 n61 n60 n62 n47 n45
    have hr : n < 48 ∨ (57 < n ∧ n < 97) ∨ 122 < n := by omega
    clear h1 h2 hc
    rcases hr with r | ⟨r1, r2⟩ | r
    · have z1 : ¬ (97 : Int) ≤ (n : Int) := by omega
      have z2 : ¬ (48 : Int) ≤ (n : Int) := by omega
      clear r
      go_enter Try.func53, Try.ntmps53
      go_wp2
      go_ret
      exact ⟨rfl, rfl⟩
    · have z1 : ¬ (97 : Int) ≤ (n : Int) := by omega
      have z2 : (48 : Int) ≤ (n : Int) := by omega
      have z3 : ¬ (n : Int) ≤ 57 := by omega
      clear r1 r2
      go_enter Try.func53, Try.ntmps53
      go_wp2
      go_ret
      exact ⟨rfl, rfl⟩
    · have z1 : (97 : Int) ≤ (n : Int) := by omega
      have z2 : ¬ (n : Int) ≤ 122 := by omega
      have z3 : (48 : Int) ≤ (n : Int) := by omega
      have z4 : ¬ (n : Int) ≤ 57 := by omega
      clear r
      go_enter Try.func53, Try.ntmps53
      go_wp2
      go_ret
      exact ⟨rfl, rfl⟩
theorem cls_facts (c : UInt8) : (clsB c == 2) = digB c ∧ (clsB c == 1) = lowB c ∧ (decide (1 ≤ clsB c) && decide (clsB c ≤ 3)) = innB c := by
  have : ∀ n : Fin 256, (clsB (UInt8.ofNat n) == 2) = digB (UInt8.ofNat n) ∧ (clsB (UInt8.ofNat n) == 1) = lowB (UInt8.ofNat n) ∧ (decide (1 ≤ clsB (UInt8.ofNat n)) && decide (clsB (UInt8.ofNat n) ≤ 3)) = innB (UInt8.ofNat n) := by decide +kernel
  have := this ⟨c.toNat, c.toNat_lt⟩
  simpa using this
end Go.Proofs.Ytedbjkjncfinnaa
