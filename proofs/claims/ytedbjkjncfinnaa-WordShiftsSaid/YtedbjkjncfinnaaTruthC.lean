/-
  Layer 15: the closures of truth.
-/
import Derived.Test.YtedbjkjncfinnaaUntil
namespace Go.Proofs.Ytedbjkjncfinnaa
open Go.RowKit

theorem truth1_any (i : Nat) (w : World) : Calls Try.prog 56 (#[.int .i64 i] ++ #[]) w fun e w' => e = .returned (.bool true) ∧ Below w.heap.size w w' := by
  go_enter Try.func56, Try.ntmps56
  go_wp2
  go_ret
  exact ⟨rfl, Below.refl _ _⟩
set_option maxRecDepth 100000 in
theorem truth3_any (Bp n i : Nat) (f : Nat → Bool) (w : World) (hp : BoxRow w Bp n f) (hi : i < n) :
    Calls Try.prog 59 (#[.int .i64 i] ++ #[.pointer (some ⟨Bp, 0, none⟩)]) w fun e w' => e = .returned (.bool (!f i)) ∧ Below w.heap.size w w' := by
  obtain ⟨bp, op, cp, h3, h4⟩ := hp
  have h4' := h4 i hi
  clear h4
  go_enter Try.func59, Try.ntmps59
  go_wp2
  go_ret
  exact ⟨rfl, Below.refl _ _⟩
set_option maxRecDepth 100000 in
theorem truth4_any (Bp Bq n i : Nat) (f g : Nat → Bool) (w : World) (hp : BoxRow w Bp n f) (hq : BoxRow w Bq n g) (hi : i < n) :
    Calls Try.prog 60 (#[.int .i64 i] ++ #[.pointer (some ⟨Bp, 0, none⟩), .pointer (some ⟨Bq, 0, none⟩)]) w fun e w' => e = .returned (.bool (f i && g i)) ∧ Below w.heap.size w w' := by
  obtain ⟨bq, oq, cq, h1, h2⟩ := hq
  obtain ⟨bp, op, cp, h3, h4⟩ := hp
  have h2' := h2 i hi
  have h4' := h4 i hi
  clear h2 h4
  go_enter Try.func60, Try.ntmps60
  cases hgi : g i <;> cases hfi : f i <;> rw [hgi] at h2' <;> rw [hfi] at h4' <;> (go_wp2; go_ret; exact ⟨by simp, Below.refl _ _⟩)
set_option maxRecDepth 100000 in
theorem truth5_any (Bp Bq n i : Nat) (f g : Nat → Bool) (w : World) (hp : BoxRow w Bp n f) (hq : BoxRow w Bq n g) (hi : i < n) :
    Calls Try.prog 61 (#[.int .i64 i] ++ #[.pointer (some ⟨Bp, 0, none⟩), .pointer (some ⟨Bq, 0, none⟩)]) w fun e w' => e = .returned (.bool (f i || g i)) ∧ Below w.heap.size w w' := by
  obtain ⟨bq, oq, cq, h1, h2⟩ := hq
  obtain ⟨bp, op, cp, h3, h4⟩ := hp
  have h2' := h2 i hi
  have h4' := h4 i hi
  clear h2 h4
  go_enter Try.func61, Try.ntmps61
  cases hgi : g i <;> cases hfi : f i <;> rw [hgi] at h2' <;> rw [hfi] at h4' <;> (go_wp2; go_ret; exact ⟨by simp, Below.refl _ _⟩)
set_option maxRecDepth 100000 in
theorem truth6_any (Bp Bq n i : Nat) (f g : Nat → Bool) (w : World) (hp : BoxRow w Bp n f) (hq : BoxRow w Bq n g) (hi : i < n) :
    Calls Try.prog 62 (#[.int .i64 i] ++ #[.pointer (some ⟨Bp, 0, none⟩), .pointer (some ⟨Bq, 0, none⟩)]) w fun e w' => e = .returned (.bool (!f i || g i)) ∧ Below w.heap.size w w' := by
  obtain ⟨bq, oq, cq, h1, h2⟩ := hq
  obtain ⟨bp, op, cp, h3, h4⟩ := hp
  have h2' := h2 i hi
  have h4' := h4 i hi
  clear h2 h4
  go_enter Try.func62, Try.ntmps62
  cases hgi : g i <;> cases hfi : f i <;> rw [hgi] at h2' <;> rw [hfi] at h4' <;> (go_wp2; go_ret; exact ⟨by simp, Below.refl _ _⟩)
set_option maxRecDepth 100000 in
theorem truth7_any (x : Wd) (A B : Option Addr) (c d Bp Bw i : Nat) (f : Nat → Bool) (w : World) (hx : x.size ≤ 1000000000) (h0 : 0 < x.cycle.length) (hp : BoxRow w Bp x.size f) (hi : i < x.size)
    (hc0 : w.cell? ⟨Bw, 0, none⟩ = some (.slice A x.stem.length c)) (hc1 : w.cell? ⟨Bw, 1, none⟩ = some (.slice B x.cycle.length d)) :
    Calls Try.prog 63 (#[.int .i64 i] ++ #[.pointer (some ⟨Bp, 0, none⟩), .pointer (some ⟨Bw, 0, none⟩)]) w fun e w' => e = .returned (.bool (f (x.next i))) ∧ Below w.heap.size w w' := by
  obtain ⟨bp, op, cp, h3, h4⟩ := hp
  have hn := x.next_lt h0 hi
  have h4' := h4 (x.next i) hn
  clear h4
  have l0 := lt_size hc0
  have l1 := lt_size h3
  have l2 := lt_size h4'
  go_enter Try.func63, Try.ntmps63
  go_wp2_with fail
  refine wp_region_later (by kernel_rfl) (by kernel_rfl) ?_
  repeat (go_big_quiet_step ((exact later_call (wnext_nat x A B c d _ _ hx hi))))
  refine wpQuiet_nil ?_
  rintro _ ⟨z, rfl⟩
  go_wp2
  go_ret
  exact ⟨rfl, below_later _ _⟩

set_option maxRecDepth 100000 in
theorem truth2_any (x : Wd) (A B : Option Addr) (c d Bf Bw i : Nat) (p : Int) (w : World) (S : Nat → Prop) (hx : x.size ≤ 1000000000) (hi : i < x.size) (hf : WdIs w S x (.slice A x.stem.length c) (.slice B x.cycle.length d))
    (hS : Bd S w) (hc0 : w.cell? ⟨Bw, 0, none⟩ = some (.slice A x.stem.length c)) (hc1 : w.cell? ⟨Bw, 1, none⟩ = some (.slice B x.cycle.length d)) (hp : w.cell? ⟨Bf, 1, none⟩ = some (.int .i64 p)) :
    Calls Try.prog 57 (#[.int .i64 i] ++ #[.pointer (some ⟨Bw, 0, none⟩), .pointer (some ⟨Bf, 0, none⟩)]) w fun e w' => e = .returned (.bool (hasAt (x.letter i) p)) ∧ Below w.heap.size w w' := by
  obtain ⟨D, e, hl, hcall⟩ := wletter_exact x A B c d i w S hx hi hf
  have l0 := lt_size hp
  have HC := Lib.hid hcall
  have HL := Lib.hid hl
  clear hcall hl hf
  go_enter Try.func57, Try.ntmps57
  go_wp2_with fail
  refine (HC.out _ _ rfl (Below.refl _ _)).mono ?_
  rintro e' w1 ⟨rfl, hb1⟩
  have hp1 := (hb1.cell (p := ⟨Bf, 1, none⟩) l0).trans hp
  have hl1 := HL.out.call hS hb1
  obtain ⟨_, _, hm, hcell⟩ := hl1.at_
  unfold maxLen at hm
  have HCELL := Lib.hid hcell
  clear hcell
  by_cases h0 : 0 ≤ p
  · obtain ⟨q, rfl⟩ := Int.eq_ofNat_of_zero_le h0
    by_cases h1 : q < (x.letter i).length
    · obtain ⟨b, o, rfl, _, hcell⟩ := HCELL.out (by omega)
      have h2 := hcell q h1
      have E3 : Hid (hasAt (x.letter i) (q : Int) = (x.letter i).getD q false) := Lib.hid (by simp [hasAt])
      clear hcell HCELL
      generalize (x.letter i).getD q false = r at *
      go_wp2
      go_ret
      exact ⟨by rw [E3.out]; rfl, hb1⟩
    · have E3 : Hid (hasAt (x.letter i) (q : Int) = false) := Lib.hid (by simp [hasAt, List.getD_eq_getElem?_getD, List.getElem?_eq_none (show (x.letter i).length ≤ q by omega)])
      have h3 : decide ((q : Int) < ((x.letter i).length : Int)) = false := by simp; omega
      go_wp2
      go_ret
      exact ⟨by rw [E3.out]; rfl, hb1⟩
  · have E3 : Hid (hasAt (x.letter i) p = false) := Lib.hid (by unfold hasAt; rw [if_neg h0])
    have h3 : decide ((0 : Int) ≤ p) = false := by simp; omega
    go_wp2
    go_ret
    exact ⟨by rw [E3.out]; rfl, hb1⟩
theorem truth1_enters : Enters Try.prog 56 := enters_of Try.func56 (by kernel_rfl) rfl
theorem truth2_enters : Enters Try.prog 57 := enters_of Try.func57 (by kernel_rfl) rfl
theorem truth3_enters : Enters Try.prog 59 := enters_of Try.func59 (by kernel_rfl) rfl
theorem truth4_enters : Enters Try.prog 60 := enters_of Try.func60 (by kernel_rfl) rfl
theorem truth5_enters : Enters Try.prog 61 := enters_of Try.func61 (by kernel_rfl) rfl
theorem truth6_enters : Enters Try.prog 62 := enters_of Try.func62 (by kernel_rfl) rfl
theorem truth7_enters : Enters Try.prog 63 := enters_of Try.func63 (by kernel_rfl) rfl
end Go.Proofs.Ytedbjkjncfinnaa
