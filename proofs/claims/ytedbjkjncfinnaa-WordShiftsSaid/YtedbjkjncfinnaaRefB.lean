/-
  Layer 15, the reference: Size, Deep.
-/
import Derived.Test.YtedbjkjncfinnaaRefA
namespace Go.Proofs.Ytedbjkjncfinnaa
open Go.RowKit

/-- plumblineref15.Size, of what is no greater than m: at most limit and 1. -/
def RSizeUp (m : Nat) : Prop := ∀ (t : T), t.size ≤ m → ∀ (f : Ltl) (k p : Int) (A : Option Addr) (n c L : Nat) (w : World) (S : Nat → Prop), L ≤ 1000000 → Bd S w → f.norm = t → Ltl.Is w S f [.int .i64 k, .int .i64 p, .slice A n c] →
  Calls Try.prog 14 #[.agg #[.int .i64 k, .int .i64 p, .slice A n c], .int .i64 L] w fun e w' => e = .returned (.int .i64 (min t.size (L + 1) : Nat)) ∧ Below w.heap.size w w'

set_option maxHeartbeats 2000000 in
theorem rsize_up (m : Nat) (ih : RSizeUp m) : RSizeUp (m + 1) := by
  intro t ht f k p A n c L w S hL hS hn hf
  obtain ⟨r, rfl⟩ := ltl_form hf
  have ha : arity k = t.ar := by rw [ar_of k p r, hn]
  have hal := t.ar_le
  have kids : ∀ i, i < t.ar → ∃ B m' d gk gp, ∀ wx : World, Below w.heap.size w wx →
      (∀ j : Int, j = i → Calls Try.prog 35 #[.agg #[.int .i64 k, .int .i64 p, .slice A n c], .int .i64 j] wx fun e w' => e = .returned (.agg #[.int .i64 gk, .int .i64 gp, .slice B m' d]) ∧ Below wx.heap.size wx w') ∧
      ∀ (l : Int) (L' : Nat), l = L' → L' ≤ 1000000 → Calls Try.prog 14 #[.agg #[.int .i64 gk, .int .i64 gp, .slice B m' d], .int .i64 l] wx fun e w' => e = .returned (.int .i64 (min (t.kidAt i).size (L' + 1) : Nat)) ∧ Below wx.heap.size wx w' := by
    intro i hi
    obtain ⟨B, m', d, h1, h2⟩ := rkid_exact _ k p A n c i w S hf
    refine ⟨B, m', d, _, _, fun wx hb => ⟨fun j hj => h2 wx j hj hb, fun l L' hl hL' => ?_⟩⟩
    subst hl
    have hks := t.kid_size i hi
    exact ih (t.kidAt i) (by omega) _ _ _ _ _ _ L' wx S hL' (hS.call hb.size) (by rw [← hn]; exact kid_of _ i (by rw [hn]; exact hi)) (h1.call hS hb)
  have KIDS := Lib.hid kids
  have HA := Lib.hid ha
  clear kids hf hn ih hS ha ht
  go_enter Try.func14, Try.ntmps14
  go_wp2_with fail
  have hbW := below_one w (.cells #[.int .i64 k, .int .i64 p, .slice A n c] 24)
  have b0 : (w.alloc (.cells #[.int .i64 k, .int .i64 p, .slice A n c] 24)).cell? ⟨w.heap.size, 0, none⟩ = some (.int .i64 k) := by simp [go_sem]
  have b1 : (w.alloc (.cells #[.int .i64 k, .int .i64 p, .slice A n c] 24)).cell? ⟨w.heap.size, 1, none⟩ = some (.int .i64 p) := by simp [go_sem]
  have b2 : (w.alloc (.cells #[.int .i64 k, .int .i64 p, .slice A n c] 24)).cell? ⟨w.heap.size, 2, none⟩ = some (.slice A n c) := by simp [go_sem]
  have hz : w.heap.size < (w.alloc (.cells #[.int .i64 k, .int .i64 p, .slice A n c] 24)).heap.size := by simp
  generalize (w.alloc (.cells #[.int .i64 k, .int .i64 p, .slice A n c] 24)) = W at *
  go_loopw [5, 6] (fun s i wr => ∃ j : Nat, j ≤ t.ar ∧ i = .int .i64 j ∧ s = .int .i64 (min (t.upto j) (L + 1) : Nat) ∧ Below W.heap.size W wr) (fun _ i _ => t.ar - (intOf i).toNat)
  case atStart => exact ⟨0, Nat.zero_le _, rfl, by simp [T.upto], Below.refl _ _⟩
  case round =>
    obtain ⟨j, hj, rfl, rfl, hb⟩ := hrel
    have rd := (bcell hb).1
    have hu := t.upto_le j hj
    have hsz := t.size_eq
    have HSZ := Lib.hid hsz
    clear hsz
    by_cases hlt : j < t.ar
    · by_cases hle : t.upto j ≤ L
      · obtain ⟨B, m', d, gk, gp, hcall⟩ := KIDS.out j hlt
        have HC := Lib.hid hcall
        clear hcall
        have HU := Lib.hid (show t.upto (j + 1) = t.upto j + (t.kidAt j).size from rfl)
        have hmin : min (t.upto j) (L + 1) = t.upto j := by omega
        rw [hmin]
        clear hmin
        generalize t.upto j = q at *
        generalize (t.kidAt j).size = z at *
        have hmz : min z (L - q + 1) ≤ L - q + 1 := Nat.min_le_right _ _
        go_wp2_with (first
          | (go_at_call 37; refine (rarity_any _ _).mono ?_; rintro e w' ⟨rfl, rfl⟩; rw [HA.out])
          | (go_at_call 35; refine ((HC.out _ ?_).1 _ rfl).mono ?_; (exact hbW.trans (hb.mono hbW.size)); rintro e w1 ⟨rfl, hb1⟩)
          | (go_at_call 14; refine ((HC.out _ ?_).2 _ (L - q) ?_ ?_).mono ?_; (exact hbW.trans ((below_call hb hb1).mono hbW.size)); (omega); (omega); rintro e w2 ⟨rfl, hb2⟩))
        go_roundw
        case rel => exact ⟨j + 1, by omega, by go_num, by rw [HU.out]; have : min (q + z) (L + 1) = q + min z (L - q + 1) := by omega
                                                          rw [this]; go_num, below_call (below_call hb hb1) hb2⟩
        case measure => simp [intOf]; omega
      · have hmin : min (t.upto j) (L + 1) = L + 1 := by omega
        rw [hmin]
        have hfin := Lib.hid (show min t.size (L + 1) = L + 1 by omega)
        clear hmin hu
        go_wp2_with (go_at_call 37; refine (rarity_any _ _).mono ?_; rintro e w' ⟨rfl, rfl⟩; rw [HA.out])
        go_ret
        exact ⟨ret_int (by rw [hfin.out]; omega), hbW.trans (hb.mono hbW.size)⟩
    · obtain rfl : j = t.ar := by omega
      have hmn : min (t.upto t.ar) (L + 1) ≤ L + 1 := Nat.min_le_right _ _
      go_wp2_with (go_at_call 37; refine (rarity_any _ _).mono ?_; rintro e w' ⟨rfl, rfl⟩; rw [HA.out])
      go_ret
      exact ⟨ret_int (by rw [← t.size_eq]), hbW.trans (hb.mono hbW.size)⟩

theorem rsize_all : ∀ m, RSizeUp m
  | 0 => fun t ht => by cases t <;> simp [T.size] at ht
  | m + 1 => rsize_up m (rsize_all m)
theorem rsize_any (f : Ltl) (k p : Int) (A : Option Addr) (n c : Nat) (l : Int) (w : World) (S : Nat → Prop) (h0 : 0 ≤ l) (hL : l ≤ 1000000) (hS : Bd S w) (hf : Ltl.Is w S f [.int .i64 k, .int .i64 p, .slice A n c]) :
    Calls Try.prog 14 #[.agg #[.int .i64 k, .int .i64 p, .slice A n c], .int .i64 l] w fun e w' => e = .returned (.int .i64 (min f.norm.size (l.toNat + 1) : Nat)) ∧ Below w.heap.size w w' := by
  obtain ⟨L, rfl⟩ := Int.eq_ofNat_of_zero_le h0
  exact rsize_all _ f.norm (Nat.le_refl _) f k p A n c L w S (by omega) hS rfl hf

/-- How deeply it is nested. -/
def T.deep : T → Nat
  | .tt | .ff | .atom _ => 0
  | .not p | .next p | .all p | .some_ p => 1 + p.deep
  | .and p q | .or p q | .imp p q | .until_ p q | .free p q => 1 + max p.deep q.deep
theorem T.deep_kids (t : T) (L : Nat) : (t.deep ≤ L) ↔ ∀ i, i < t.ar → (t.kidAt i).deep + 1 ≤ L := by
  have two : ∀ P : Nat → Prop, (∀ i, i < 2 → P i) ↔ P 0 ∧ P 1 := fun P => ⟨fun h => ⟨h 0 (by omega), h 1 (by omega)⟩, fun h i hi => by rcases (show i = 0 ∨ i = 1 by omega) with rfl | rfl; exact h.1; exact h.2⟩
  cases t <;> simp [T.deep, T.ar, T.kidAt]
  all_goals first | (rw [two]; simp only [if_true, Nat.one_ne_zero, if_false]; omega) | omega

/-- plumblineref15.Deep. -/
def RDeepUp (m : Nat) : Prop := ∀ (t : T), t.size ≤ m → ∀ (f : Ltl) (k p : Int) (A : Option Addr) (n c : Nat) (L : Int) (w : World) (S : Nat → Prop), -1 ≤ L → L ≤ 1000000 → Bd S w → f.norm = t → Ltl.Is w S f [.int .i64 k, .int .i64 p, .slice A n c] →
  Calls Try.prog 32 #[.agg #[.int .i64 k, .int .i64 p, .slice A n c], .int .i64 L] w fun e w' => e = .returned (.bool (decide ((t.deep : Int) ≤ L))) ∧ Below w.heap.size w w'

set_option maxHeartbeats 2000000 in
theorem rdeep_up (m : Nat) (ih : RDeepUp m) : RDeepUp (m + 1) := by
  intro t ht f k p A n c L w S h0 hL hS hn hf
  obtain ⟨r, rfl⟩ := ltl_form hf
  have ha : arity k = t.ar := by rw [ar_of k p r, hn]
  have hal := t.ar_le
  have kids : ∀ i, i < t.ar → 0 ≤ L → ∃ B m' d gk gp, ∀ wx : World, Below w.heap.size w wx →
      (∀ j : Int, j = i → Calls Try.prog 35 #[.agg #[.int .i64 k, .int .i64 p, .slice A n c], .int .i64 j] wx fun e w' => e = .returned (.agg #[.int .i64 gk, .int .i64 gp, .slice B m' d]) ∧ Below wx.heap.size wx w') ∧
      Calls Try.prog 32 #[.agg #[.int .i64 gk, .int .i64 gp, .slice B m' d], .int .i64 (L - 1)] wx fun e w' => e = .returned (.bool (decide (((t.kidAt i).deep : Int) ≤ L - 1))) ∧ Below wx.heap.size wx w' := by
    intro i hi h0
    obtain ⟨B, m', d, h1, h2⟩ := rkid_exact _ k p A n c i w S hf
    refine ⟨B, m', d, _, _, fun wx hb => ⟨fun j hj => h2 wx j hj hb, ?_⟩⟩
    have hks := t.kid_size i hi
    exact ih (t.kidAt i) (by omega) _ _ _ _ _ _ (L - 1) wx S (by omega) (by omega) (hS.call hb.size) (by rw [← hn]; exact kid_of _ i (by rw [hn]; exact hi)) (h1.call hS hb)
  have KIDS := Lib.hid kids
  have HA := Lib.hid ha
  have HD := Lib.hid (fun h : 0 ≤ L => t.deep_kids L.toNat)
  clear kids hf hn ih hS ha ht
  rcases Int.lt_or_le L 0 with hneg | hpos
  · go_enter Try.func32, Try.ntmps32
    go_wp2
    go_ret
    exact ⟨ret_bool (by simp; omega), below_one _ _⟩
  · go_enter Try.func32, Try.ntmps32
    go_wp2_with fail
    have hbW := below_one w (.cells #[.int .i64 k, .int .i64 p, .slice A n c] 24)
    have b0 : (w.alloc (.cells #[.int .i64 k, .int .i64 p, .slice A n c] 24)).cell? ⟨w.heap.size, 0, none⟩ = some (.int .i64 k) := by simp [go_sem]
    have b1 : (w.alloc (.cells #[.int .i64 k, .int .i64 p, .slice A n c] 24)).cell? ⟨w.heap.size, 1, none⟩ = some (.int .i64 p) := by simp [go_sem]
    have b2 : (w.alloc (.cells #[.int .i64 k, .int .i64 p, .slice A n c] 24)).cell? ⟨w.heap.size, 2, none⟩ = some (.slice A n c) := by simp [go_sem]
    have hz : w.heap.size < (w.alloc (.cells #[.int .i64 k, .int .i64 p, .slice A n c] 24)).heap.size := by simp
    generalize (w.alloc (.cells #[.int .i64 k, .int .i64 p, .slice A n c] 24)) = W at *
    go_loopw [5] (fun i wr => ∃ j : Nat, j ≤ t.ar ∧ i = .int .i64 j ∧ (∀ i, i < j → ((t.kidAt i).deep : Int) ≤ L - 1) ∧ Below W.heap.size W wr) (fun i _ => t.ar - (intOf i).toNat)
    case atStart => exact ⟨0, Nat.zero_le _, rfl, fun i h => absurd h (by omega), Below.refl _ _⟩
    case round =>
      obtain ⟨j, hj, rfl, hall, hb⟩ := hrel
      have HALL := Lib.hid hall
      clear hall
      have rd := (bcell hb).1
      by_cases hlt : j < t.ar
      · obtain ⟨B, m', d, gk, gp, hcall⟩ := KIDS.out j hlt hpos
        cases hsm : decide (((t.kidAt j).deep : Int) ≤ L - 1)
        all_goals
          simp only [hsm] at hcall
          have HC := Lib.hid hcall
          have HM := Lib.hid hsm
          clear hcall hsm
          go_wp2_with (first
            | (go_at_call 37; refine (rarity_any _ _).mono ?_; rintro e w' ⟨rfl, rfl⟩; rw [HA.out])
            | (go_at_call 35; refine ((HC.out _ ?_).1 _ rfl).mono ?_; (exact hbW.trans (hb.mono hbW.size)); rintro e w1 ⟨rfl, hb1⟩)
            | (go_at_call 32; refine ((HC.out _ ?_).2).mono ?_; (exact hbW.trans ((below_call hb hb1).mono hbW.size)); rintro e w2 ⟨rfl, hb2⟩))
        · go_ret
          refine ⟨ret_bool ?_, hbW.trans ((below_call (below_call hb hb1) hb2).mono hbW.size)⟩
          have h1 : ¬ ((t.kidAt j).deep : Int) ≤ L - 1 := by simpa using HM.out
          have h2 : ¬ t.deep ≤ L.toNat := fun h => by have := (HD.out hpos).1 h j hlt; omega
          simp; omega
        · go_roundw
          case rel =>
            have h1 : ((t.kidAt j).deep : Int) ≤ L - 1 := by simpa using HM.out
            exact ⟨j + 1, by omega, by go_num, fun i hi => (Nat.lt_succ_iff_lt_or_eq.1 hi).elim (HALL.out i) (fun e => by rw [e]; exact h1), below_call (below_call hb hb1) hb2⟩
          case measure => simp [intOf]; omega
      · obtain rfl : j = t.ar := by omega
        go_wp2_with (go_at_call 37; refine (rarity_any _ _).mono ?_; rintro e w' ⟨rfl, rfl⟩; rw [HA.out])
        go_ret
        refine ⟨ret_bool ?_, hbW.trans (hb.mono hbW.size)⟩
        have h2 : t.deep ≤ L.toNat := (HD.out hpos).2 fun i hi => by have := HALL.out i hi; omega
        simp; omega

theorem rdeep_all : ∀ m, RDeepUp m
  | 0 => fun t ht => by cases t <;> simp [T.size] at ht
  | m + 1 => rdeep_up m (rdeep_all m)
theorem rdeep_any (f : Ltl) (k p : Int) (A : Option Addr) (n c : Nat) (L : Int) (w : World) (S : Nat → Prop) (h0 : -1 ≤ L) (hL : L ≤ 1000000) (hS : Bd S w) (hf : Ltl.Is w S f [.int .i64 k, .int .i64 p, .slice A n c]) :
    Calls Try.prog 32 #[.agg #[.int .i64 k, .int .i64 p, .slice A n c], .int .i64 L] w fun e w' => e = .returned (.bool (decide ((f.norm.deep : Int) ≤ L))) ∧ Below w.heap.size w w' :=
  rdeep_all _ f.norm (Nat.le_refl _) f k p A n c L w S h0 hL hS rfl hf
end Go.Proofs.Ytedbjkjncfinnaa
