/-
  Layer 15: word.Size, word.kind, word.Same.
-/
import Derived.Test.YtedbjkjncfinnaaWordA
import Derived.Test.YtedbjkjncfinnaaLater
import Derived.Deep.LoopGhost
namespace Go.Proofs.Ytedbjkjncfinnaa
open Go.RowKit

theorem ltl_form {w : World} {S : Nat → Prop} {f : Ltl} {k p : Int} {A : Option Addr} {n c : Nat} (hf : Ltl.Is w S f [.int .i64 k, .int .i64 p, .slice A n c]) : ∃ r, f = .mk k p r := by
  obtain ⟨k', p', r⟩ := f
  obtain ⟨_, _, _, hcs, _⟩ := hf.form
  simp only [List.cons.injEq, Value.int.injEq, true_and] at hcs
  obtain ⟨rfl, rfl, _⟩ := hcs
  exact ⟨r, rfl⟩

/-- word.Size, of what is no greater than m. -/
def SizeUp (m : Nat) : Prop := ∀ (t : T), t.size ≤ m → t.size ≤ 1000000 → ∀ (f : Ltl) (k p : Int) (A : Option Addr) (n c : Nat) (w : World) (S : Nat → Prop), Bd S w → f.norm = t → Ltl.Is w S f [.int .i64 k, .int .i64 p, .slice A n c] →
  Calls Try.prog 19 #[.agg #[.int .i64 k, .int .i64 p, .slice A n c]] w fun e w' => e = .returned (.int .i64 t.size) ∧ Below w.heap.size w w'

set_option maxHeartbeats 2000000 in
theorem size_up (m : Nat) (ih : SizeUp m) : SizeUp (m + 1) := by
  intro t ht hmx f k p A n c w S hS hn hf
  obtain ⟨r, rfl⟩ := ltl_form hf
  have ha : arity k = t.ar := by rw [ar_of k p r, hn]
  have hal := t.ar_le
  -- each kid's call, ahead of the walk
  have kids : ∀ i, i < t.ar → ∃ B m' d gk gp, ∀ wx : World, Below w.heap.size w wx →
      (∀ j : Int, j = i → Calls Try.prog 42 #[.agg #[.int .i64 k, .int .i64 p, .slice A n c], .int .i64 j] wx fun e w' => e = .returned (.agg #[.int .i64 gk, .int .i64 gp, .slice B m' d]) ∧ Below wx.heap.size wx w') ∧
      Calls Try.prog 19 #[.agg #[.int .i64 gk, .int .i64 gp, .slice B m' d]] wx fun e w' => e = .returned (.int .i64 (t.kidAt i).size) ∧ Below wx.heap.size wx w' := by
    intro i hi
    obtain ⟨B, m', d, h1, h2⟩ := kid_exact _ k p A n c i w S hf
    refine ⟨B, m', d, _, _, fun wx hb => ⟨fun j hj => h2 wx j hj hb, ?_⟩⟩
    have hks := t.kid_size i hi
    exact ih (t.kidAt i) (by omega) (by omega) _ _ _ _ _ _ wx S (hS.call hb.size) (by rw [← hn]; exact kid_of _ i (by rw [hn]; exact hi)) (h1.call hS hb)
  have KIDS := Lib.hid kids
  have HA := Lib.hid ha
  have HT := Lib.hid ht
  clear kids hf hn ih hS ha ht
  go_enter Try.func19, Try.ntmps19
  go_wp2_with (go_at_call 41; refine (arity_any _ _).mono ?_; rintro e w' ⟨rfl, rfl⟩)
  have hbW := below_one w (.cells #[.int .i64 k, .int .i64 p, .slice A n c] 24)
  have b0 : (w.alloc (.cells #[.int .i64 k, .int .i64 p, .slice A n c] 24)).cell? ⟨w.heap.size, 0, none⟩ = some (.int .i64 k) := by simp [go_sem]
  have b1 : (w.alloc (.cells #[.int .i64 k, .int .i64 p, .slice A n c] 24)).cell? ⟨w.heap.size, 1, none⟩ = some (.int .i64 p) := by simp [go_sem]
  have b2 : (w.alloc (.cells #[.int .i64 k, .int .i64 p, .slice A n c] 24)).cell? ⟨w.heap.size, 2, none⟩ = some (.slice A n c) := by simp [go_sem]
  have hz : w.heap.size < (w.alloc (.cells #[.int .i64 k, .int .i64 p, .slice A n c] 24)).heap.size := by simp
  generalize (w.alloc (.cells #[.int .i64 k, .int .i64 p, .slice A n c] 24)) = W at *
  rw [HA.out]
  go_loopw [3, 8] (fun s i wr => ∃ j : Nat, j ≤ t.ar ∧ i = .int .i64 j ∧ s = .int .i64 (t.upto j) ∧ Below W.heap.size W wr) (fun _ i _ => t.ar - (intOf i).toNat)
  case atStart => exact ⟨0, Nat.zero_le _, rfl, rfl, Below.refl _ _⟩
  case round =>
    obtain ⟨j, hj, rfl, rfl, hb⟩ := hrel
    have rd := (bcell hb).1
    by_cases hlt : j < t.ar
    · obtain ⟨B, m', d, gk, gp, hcall⟩ := KIDS.out j hlt
      have HC := Lib.hid hcall
      clear hcall
      have hu := t.upto_le j hj
      have hu' := t.upto_le (j + 1) hlt
      have HU := Lib.hid (show t.upto (j + 1) = t.upto j + (t.kidAt j).size from rfl)
      have hks : t.upto j + (t.kidAt j).size ≤ t.size := by rw [← HU.out]; exact hu'
      clear hu'
      go_wp2_with (first
        | (go_at_call 42; refine ((HC.out _ ?_).1 _ rfl).mono ?_; (exact hbW.trans (hb.mono hbW.size)); rintro e w1 ⟨rfl, hb1⟩)
        | (go_at_call 19; refine ((HC.out _ ?_).2).mono ?_; (exact hbW.trans ((below_call hb hb1).mono hbW.size)); rintro e w2 ⟨rfl, hb2⟩))
      go_roundw
      case rel => exact ⟨j + 1, by omega, by go_num, by rw [HU.out]; go_num, below_call (below_call hb hb1) hb2⟩
      case measure => simp [intOf]; omega
    · obtain rfl : j = t.ar := by omega
      go_wp2
      go_ret
      exact ⟨ret_int (by rw [← t.size_eq]), hbW.trans (hb.mono hbW.size)⟩

theorem kind_any (f : Ltl) (k p : Int) (A : Option Addr) (n c : Nat) (w : World) (S : Nat → Prop) (hf : Ltl.Is w S f [.int .i64 k, .int .i64 p, .slice A n c]) :
    Calls Try.prog 40 #[.agg #[.int .i64 k, .int .i64 p, .slice A n c]] w fun e w' => e = .returned (.int .i64 f.norm.ltl.kind) ∧ Below w.heap.size w w' := by
  obtain ⟨r, rfl⟩ := ltl_form hf
  have hk := kind_of k p r
  generalize Ltl.norm (.mk k p r) = t at *
  cases t with
  | tt =>
    obtain rfl : k = 0 := hk
    have ha : arity 0 = 0 := by decide
    clear hf
    go_enter Try.func40, Try.ntmps40
    go_wp2_with (go_at_call 41; refine (arity_any _ _).mono ?_; rintro e w' ⟨rfl, rfl⟩)
    go_ret
    exact ⟨rfl, below_one _ _⟩
  | atom _ =>
    obtain ⟨rfl, _⟩ : k = 2 ∧ _ := hk
    have ha : arity 2 = 0 := by decide
    clear hf
    go_enter Try.func40, Try.ntmps40
    go_wp2_with (go_at_call 41; refine (arity_any _ _).mono ?_; rintro e w' ⟨rfl, rfl⟩)
    go_ret
    exact ⟨rfl, below_one _ _⟩
  | not _ =>
    obtain ⟨rfl, _⟩ : k = 3 ∧ _ := hk
    have ha : arity 3 = 1 := by decide
    clear hf
    go_enter Try.func40, Try.ntmps40
    go_wp2_with (go_at_call 41; refine (arity_any _ _).mono ?_; rintro e w' ⟨rfl, rfl⟩)
    go_ret
    exact ⟨rfl, below_one _ _⟩
  | and _ _ =>
    obtain ⟨rfl, _⟩ : k = 4 ∧ _ := hk
    have ha : arity 4 = 2 := by decide
    clear hf
    go_enter Try.func40, Try.ntmps40
    go_wp2_with (go_at_call 41; refine (arity_any _ _).mono ?_; rintro e w' ⟨rfl, rfl⟩)
    go_ret
    exact ⟨rfl, below_one _ _⟩
  | or _ _ =>
    obtain ⟨rfl, _⟩ : k = 5 ∧ _ := hk
    have ha : arity 5 = 2 := by decide
    clear hf
    go_enter Try.func40, Try.ntmps40
    go_wp2_with (go_at_call 41; refine (arity_any _ _).mono ?_; rintro e w' ⟨rfl, rfl⟩)
    go_ret
    exact ⟨rfl, below_one _ _⟩
  | imp _ _ =>
    obtain ⟨rfl, _⟩ : k = 7 ∧ _ := hk
    have ha : arity 7 = 2 := by decide
    clear hf
    go_enter Try.func40, Try.ntmps40
    go_wp2_with (go_at_call 41; refine (arity_any _ _).mono ?_; rintro e w' ⟨rfl, rfl⟩)
    go_ret
    exact ⟨rfl, below_one _ _⟩
  | next _ =>
    obtain ⟨rfl, _⟩ : k = 8 ∧ _ := hk
    have ha : arity 8 = 1 := by decide
    clear hf
    go_enter Try.func40, Try.ntmps40
    go_wp2_with (go_at_call 41; refine (arity_any _ _).mono ?_; rintro e w' ⟨rfl, rfl⟩)
    go_ret
    exact ⟨rfl, below_one _ _⟩
  | all _ =>
    obtain ⟨rfl, _⟩ : k = 9 ∧ _ := hk
    have ha : arity 9 = 1 := by decide
    clear hf
    go_enter Try.func40, Try.ntmps40
    go_wp2_with (go_at_call 41; refine (arity_any _ _).mono ?_; rintro e w' ⟨rfl, rfl⟩)
    go_ret
    exact ⟨rfl, below_one _ _⟩
  | some_ _ =>
    obtain ⟨rfl, _⟩ : k = 10 ∧ _ := hk
    have ha : arity 10 = 1 := by decide
    clear hf
    go_enter Try.func40, Try.ntmps40
    go_wp2_with (go_at_call 41; refine (arity_any _ _).mono ?_; rintro e w' ⟨rfl, rfl⟩)
    go_ret
    exact ⟨rfl, below_one _ _⟩
  | until_ _ _ =>
    obtain ⟨rfl, _⟩ : k = 11 ∧ _ := hk
    have ha : arity 11 = 2 := by decide
    clear hf
    go_enter Try.func40, Try.ntmps40
    go_wp2_with (go_at_call 41; refine (arity_any _ _).mono ?_; rintro e w' ⟨rfl, rfl⟩)
    go_ret
    exact ⟨rfl, below_one _ _⟩
  | free _ _ =>
    obtain ⟨rfl, _⟩ : k = 12 ∧ _ := hk
    have ha : arity 12 = 2 := by decide
    clear hf
    go_enter Try.func40, Try.ntmps40
    go_wp2_with (go_at_call 41; refine (arity_any _ _).mono ?_; rintro e w' ⟨rfl, rfl⟩)
    go_ret
    exact ⟨rfl, below_one _ _⟩
  | ff =>
    obtain ⟨q0, q2, q3, q4, q5, q7, q8, q9, q10, q11, q12⟩ : _ ∧ _ := hk
    have ha : arity k = 0 := by simp [arity, q3, q4, q5, q7, q8, q9, q10, q11, q12]
    have r0 : (k == 0) = false := by simpa using q0
    have r2 : (k == 2) = false := by simpa using q2
    clear hf q0 q2 q3 q4 q5 q7 q8 q9 q10 q11 q12
    go_enter Try.func40, Try.ntmps40
    go_wp2_with (go_at_call 41; refine (arity_any _ _).mono ?_; rintro e w' ⟨rfl, rfl⟩)
    go_ret
    exact ⟨rfl, below_one _ _⟩
end Go.Proofs.Ytedbjkjncfinnaa
