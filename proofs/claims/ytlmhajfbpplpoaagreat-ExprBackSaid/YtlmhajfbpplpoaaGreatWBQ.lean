/-
  Sums and trees that are handed in.
-/
import Derived.Test.YtlmhajfbpplpoaaGreatWBP
import Derived.Test.YtlmhajfbpplpoaaGreatWBG
import Derived.Test.YtlmhajfbpplpoaaGreatWAD
set_option linter.unusedSectionVars false
set_option linter.unusedSimpArgs false
set_option linter.unusedVariables false
namespace Go.Proofs.YtlmhajfbpplpoaaGreat
open Go.ChangeShapes Go.WideShapes Go.ChangeAt Go.RowKit

theorem reach_le {n : Nat} (h : n ≤ reachBytes) : n ≤ 9223372036854775807 := Nat.le_trans h (by decide +kernel)
theorem reach_lt {n b : Nat} (hb : 2 ≤ b) (h : n * b ≤ reachBytes) : n < 4611686018427387904 := by
 have h1 : n * 2 ≤ n * b := Nat.mul_le_mul_left n hb
 have h2 : reachBytes < 9223372036854775808 := by decide +kernel
 omega
def WzMo (m : Mo) : Prop := m.num.size ≤ 9223372036854775807 ∧ m.var.size ≤ 9223372036854775807
theorem mo_of {y : D} (h : D.Typed Tryz.prog y 115) (hf : D.Fits Tryz.prog y 115) : ∃ m : Mo, y.av = eMo m ∧ WzMo m := by
 obtain ⟨xs, rfl, g0⟩ := h.struct_ Tryz.underlying115
 have f0 := hf.struct_ Tryz.underlying115
 obtain ⟨x0, r0, rfl, h0, g1⟩ := D.TypedFields.cons_ g0
 obtain ⟨x1, r1, rfl, h1, g2⟩ := D.TypedFields.cons_ g1
 obtain ⟨x2, r2, rfl, h2, g3⟩ := D.TypedFields.cons_ g2
 obtain rfl := D.TypedFields.nil_ g3
 obtain ⟨b, rfl⟩ := h0.bool_ Tryz.underlying4
 obtain ⟨s, rfl⟩ := h1.str_ Tryz.underlying9
 obtain ⟨v, rfl⟩ := h2.str_ Tryz.underlying9
 have f1 := (D.FitsFields.cons_ f0).2
 have f2 := (D.FitsFields.cons_ f1).2
 have k1 := (D.FitsFields.cons_ f1).1
 have k2 := (D.FitsFields.cons_ f2).1
 simp only [D.Fits] at k1 k2
 exact ⟨⟨b, s, v⟩, rfl, reach_le k1, reach_le k2⟩
theorem mos_of {y : D} (h : D.Typed Tryz.prog y 23) (hf : D.Fits Tryz.prog y 23) : ∃ ms : List Mo, y.av = [.ls (ms.map eMo)] ∧ ms.length < 4611686018427387904 ∧ ∀ m ∈ ms, WzMo m := by
 obtain ⟨xs, rfl, hx⟩ := h.slice_ Tryz.underlying23
 obtain ⟨h1, h2⟩ := hf.slice_ Tryz.underlying23
 have hl := reach_lt (Nat.le_of_ble_eq_true (by kernel_rfl)) h1
 have : ∀ xs : List D, (∀ y ∈ xs, D.Typed Tryz.prog y 115 ∧ D.Fits Tryz.prog y 115) → ∃ ms : List Mo, xs.map D.av = ms.map eMo ∧ ms.length = xs.length ∧ ∀ m ∈ ms, WzMo m := fun xs => by
  induction xs with
  | nil => intro _; exact ⟨[], rfl, rfl, by simp⟩
  | cons x r ih =>
   intro hh
   obtain ⟨ms, e1, e2, e3⟩ := ih fun y hy => hh y (List.mem_cons_of_mem _ hy)
   obtain ⟨m, k1, k2⟩ := mo_of (hh x (List.mem_cons_self ..)).1 (hh x (List.mem_cons_self ..)).2
   refine ⟨m :: ms, by rw [List.map_cons, List.map_cons, e1, k1], by simp [e2], fun z hz => ?_⟩
   rcases List.mem_cons.1 hz with rfl | hz
   ·exact k2
   ·exact e3 z hz
 obtain ⟨ms, e1, e2, e3⟩ := this xs fun y hy => ⟨hx y hy, h2 y hy⟩
 refine ⟨ms, by rw [D.av, avRows_map, e1], by omega, e3⟩
theorem tr_of : ∀ (n : Nat) (y : D), SizeOf.sizeOf y ≤ n → D.Typed Tryz.prog y 33 → D.Fits Tryz.prog y 33 → ∃ t : Tr, y.av = eTr t ∧ WzT t := by
 intro n
 induction n with
 | zero => intro x hx; cases x <;> simp at hx
 | succ n ih =>
  intro y hn h hf
  obtain ⟨xs, rfl, g0⟩ := h.struct_ Tryz.underlying33
  have f0 := hf.struct_ Tryz.underlying33
  obtain ⟨x0, r0, rfl, h0, g1⟩ := D.TypedFields.cons_ g0
  obtain ⟨x1, r1, rfl, h1, g2⟩ := D.TypedFields.cons_ g1
  obtain ⟨x2, r2, rfl, h2, g3⟩ := D.TypedFields.cons_ g2
  obtain ⟨x3, r3, rfl, h3, g4⟩ := D.TypedFields.cons_ g3
  obtain ⟨x4, r4, rfl, h4, g5⟩ := D.TypedFields.cons_ g4
  obtain ⟨x5, r5, rfl, h5, g6⟩ := D.TypedFields.cons_ g5
  obtain ⟨x6, r6, rfl, h6, g7⟩ := D.TypedFields.cons_ g6
  obtain rfl := D.TypedFields.nil_ g7
  have f1 := (D.FitsFields.cons_ f0).2
  have f2 := (D.FitsFields.cons_ f1).2
  have f3 := (D.FitsFields.cons_ f2).2
  have f4 := (D.FitsFields.cons_ f3).2
  have f5 := (D.FitsFields.cons_ f4).2
  have f6 := (D.FitsFields.cons_ f5).2
  obtain ⟨k, rfl, _⟩ := h0.int_ Tryz.underlying3
  obtain ⟨l, el, l1, l2⟩ := mos_of h1 (D.FitsFields.cons_ f1).1
  obtain ⟨r, er, m1, m2⟩ := mos_of h2 (D.FitsFields.cons_ f2).1
  obtain ⟨op, rfl, _⟩ := h3.int_ Tryz.underlying3
  obtain ⟨p, rfl⟩ := h4.str_ Tryz.underlying9
  obtain ⟨q, rfl⟩ := h5.str_ Tryz.underlying9
  obtain ⟨ys, rfl, hy⟩ := h6.slice_ Tryz.underlying31
  obtain ⟨z1, z2⟩ := (D.FitsFields.cons_ f6).1.slice_ Tryz.underlying31
  have hl := reach_lt (Nat.le_of_ble_eq_true (by kernel_rfl)) z1
  have : ∀ zs : List D, (∀ y ∈ zs, y ∈ ys) → ∃ ts : List Tr, zs.map D.av = ts.map eTr ∧ ts.length = zs.length ∧ ∀ m ∈ ts, WzT m := fun zs => by
   induction zs with
   | nil => intro _; exact ⟨[], rfl, rfl, by simp⟩
   | cons x r ih2 =>
    intro hh
    obtain ⟨ms, e1, e2, e3⟩ := ih2 fun y hy => hh y (List.mem_cons_of_mem _ hy)
    have hm := hh x (List.mem_cons_self ..)
    obtain ⟨m, k1, k2⟩ := ih x (by
     have h3 := List.sizeOf_lt_of_mem hm
     simp at hn
     omega) (hy x hm) (z2 x hm)
    refine ⟨m :: ms, by rw [List.map_cons, List.map_cons, e1, k1], by simp [e2], fun z hz => ?_⟩
    rcases List.mem_cons.1 hz with rfl | hz
    ·exact k2
    ·exact e3 z hz
  obtain ⟨ts, e1, e2, e3⟩ := this ys fun _ h => h
  refine ⟨.mk k l r op p q ts, ?_, .mk l1 m1 (by omega) l2 m2 e3⟩
  rw [eTr, eTrs_map, ← e1, ← avRows_map]
  simp only [D.av, avCat, el, er, List.cons_append, List.nil_append]
  rfl
end Go.Proofs.YtlmhajfbpplpoaaGreat
