/-
  Layer 15's law: a shifted word and an unrolled one.
-/
import Derived.Test.YtedbjkjncfinnaaRefS
import Derived.Test.YtedbjkjncfinnaaTurnsL
import Derived.Deep.DeepCutAuto
namespace Go.Proofs.Ytedbjkjncfinnaa
open Go.RowKit

def Wd.shiftB (x : Wd) (n : Int) : Wd := if x.cycle.length = 0 then ⟨[], []⟩ else x.shift n.toNat
def Wd.unrollB (x : Wd) (q : Nat) : Wd := if x.cycle.length = 0 then ⟨[], []⟩ else x.unroll q
/-- A word comes back, its two cells named. -/
def RetWs (w : World) (y : Wd) (e : Ending) (w' : World) : Prop := ∃ A c B d, e = .returned (.agg #[.slice A y.stem.length c, .slice B y.cycle.length d]) ∧ WdIs w' (From w.heap.size w') y (.slice A y.stem.length c) (.slice B y.cycle.length d) ∧ Below w.heap.size w w'
theorem retWs_of {w : World} {y : Wd} {e : Ending} {w' : World} (h : RetWd w y e w') : RetWs w y e w' := by
  obtain ⟨u, v, rfl, hw, hb⟩ := h
  obtain ⟨A, c, rfl⟩ := hw.1.form
  obtain ⟨B, d, rfl⟩ := hw.2.form
  exact ⟨A, c, B, d, rfl, hw, hb⟩
theorem shift_all (x : Wd) (A B : Option Addr) (c d : Nat) (n : Int) (w : World) (S : Nat → Prop) (y : Wd) (hy : x.shiftB n = y) (hS : Bd S w) (hx : x.size ≤ 7) (hn : n ≤ 9223372036854775807)
    (hl : (∀ l ∈ x.stem, l.length ≤ 100) ∧ ∀ l ∈ x.cycle, l.length ≤ 100) (hw : WdIs w S x (.slice A x.stem.length c) (.slice B x.cycle.length d)) :
    Calls Try.prog 24 #[.agg #[.slice A x.stem.length c, .slice B x.cycle.length d], .int .i64 n] w (RetWs w y) := by
  subst hy
  unfold Wd.shiftB
  by_cases h0 : x.cycle.length = 0
  · rw [if_pos h0, h0]
    exact (shift_none A B _ c d n w).mono fun _ _ h => retWs_of h
  · rw [if_neg h0]
    exact (shift_any x A B c d n w S hS (by omega) (by omega) hn ⟨fun l h => Nat.le_trans (hl.1 l h) (by decide), fun l h => Nat.le_trans (hl.2 l h) (by decide)⟩ hw).mono fun _ _ h => retWs_of h
theorem unroll_all (x : Wd) (A B : Option Addr) (c d : Nat) (n : Int) (q : Nat) (w : World) (S : Nat → Prop) (y : Wd) (hy : x.unrollB q = y) (hS : Bd S w) (hx : x.size ≤ 7) (hq : (q : Int) = min (max n 0) 64)
    (hl : (∀ l ∈ x.stem, l.length ≤ 100) ∧ ∀ l ∈ x.cycle, l.length ≤ 100) (hw : WdIs w S x (.slice A x.stem.length c) (.slice B x.cycle.length d)) :
    Calls Try.prog 25 #[.agg #[.slice A x.stem.length c, .slice B x.cycle.length d], .int .i64 n] w (RetWs w y) := by
  subst hy
  unfold Wd.unrollB
  by_cases h0 : x.cycle.length = 0
  · rw [if_pos h0, h0]
    exact (unroll_none A B _ c d n w).mono fun _ _ h => retWs_of h
  · rw [if_neg h0]
    exact (unroll_any x A B c d n q w S hS (by omega) (by omega) hq ⟨fun l h => Nat.le_trans (hl.1 l h) (by decide), fun l h => Nat.le_trans (hl.2 l h) (by decide)⟩ hw).mono fun _ _ h => retWs_of h
theorem rletters_at (x : Wd) (A B : Option Addr) (c d a n : Nat) (I J : Int) (w : World) (S : Nat → Prop) (ls : List (List Bool)) (hls : ls = x.lets a n) (hI : I = (a : Int)) (hJ : J = (n : Int)) (hS : Bd S w) (ha : a ≤ 1000000) (hn : n ≤ 1000) (hx : x.size ≤ 1000) (h0 : 0 < x.cycle.length)
    (hw : WdIs w S x (.slice A x.stem.length c) (.slice B x.cycle.length d)) :
    Calls Try.prog 27 #[.agg #[.slice A x.stem.length c, .slice B x.cycle.length d], .int .i64 I, .int .i64 J] w fun e w' => ∃ v, e = .returned v ∧ LetsIs w' (Ext S w w') ls v ∧ Below w.heap.size w w' := by
  subst hls hI hJ
  exact rletters_any x A B c d a n w S hS ha hn (by omega) h0 hw
theorem rsame_at (ls : List (List Bool)) (u v : Value) (w : World) (h1 : LetsIs w (Lt w.heap.size) ls u) (h2 : LetsIs w (Lt w.heap.size) ls v) (hl : ls.length ≤ 1000000) (hl1 : ∀ l ∈ ls, l.length ≤ 1000000000) :
    Calls Try.prog 26 #[u, v] w fun e w' => e = .returned (.bool true) ∧ Below w.heap.size w w' := rsame_true ls u v w _ _ (Bd.lt _) (Bd.lt _) h1 h2 hl hl1
theorem lets_jump2 {F : Nat → Prop} {S : Nat → Prop} {v w w' : World} {ls : List (List Bool)} {u : Value} (h : LetsIs w (Ext S v w) ls u) (hb : Bd S w) (hj : Jmp F w w') (hF : ∀ b, Iv v w b ∨ S b → F b) : LetsIs w' (Lt w'.heap.size) ls u :=
  D.Is.keep (fun b h => h.elim (fun h => ⟨Nat.lt_of_lt_of_le (hb b h) hj.size, hj.keep b (hF b (.inr h))⟩) fun h => ⟨Nat.lt_of_lt_of_le h.2 hj.size, hj.keep b (hF b (.inl h))⟩) _ _ h
theorem WdIs.set2 {w : World} {S : Nat → Prop} {x : Wd} {u v : Value} {g : Nat} (h : WdIs w S x u v) (hg : ¬ S g) (a b : Value) : WdIs ((w.setCell ⟨g, 0, none⟩ a).setCell ⟨g, 1, none⟩ b) S x u v :=
  ⟨(D.Is.store h.1 (p := ⟨g, 0, none⟩) hg a).store (p := ⟨g, 1, none⟩) hg b, (D.Is.store h.2 (p := ⟨g, 0, none⟩) hg a).store (p := ⟨g, 1, none⟩) hg b⟩
theorem WdIs.mono {w : World} {S T : Nat → Prop} {x : Wd} {u v : Value} (h : WdIs w S x u v) (hs : ∀ b, S b → T b) : WdIs w T x u v := ⟨h.1.mono hs, h.2.mono hs⟩
theorem size_set2 (w : World) (g : Nat) (a b : Value) : ((w.setCell ⟨g, 0, none⟩ a).setCell ⟨g, 1, none⟩ b).heap.size = w.heap.size := by simp
theorem blk_far2 {w : World} {g g' : Nat} {t : TypeId} {cs : Array Value} (h : Blk w g t cs) (hp : g ≠ g') (a b : Value) : Blk ((w.setCell ⟨g', 0, none⟩ a).setCell ⟨g', 1, none⟩ b) g t cs :=
  (h.far (p := ⟨g', 0, none⟩) hp a).far (p := ⟨g', 1, none⟩) hp b
theorem below_set2 {W w : World} {g : Nat} (h : Below W.heap.size W w) (hp : W.heap.size ≤ g) (a b : Value) : Below W.heap.size W ((w.setCell ⟨g, 0, none⟩ a).setCell ⟨g, 1, none⟩ b) := below_set (below_set h hp) hp
theorem cells2 {W : World} {g : Nat} {t : TypeId} {a b : Value} (h : Blk W g t #[a, b]) : W.cell? ⟨g, 0, none⟩ = some a ∧ W.cell? ⟨g, 1, none⟩ = some b := by
  rw [h.cell, h.cell]
  exact ⟨rfl, rfl⟩
/-- The boxes of a shifted word and of an unrolled one. -/
structure SU (y1 y2 : Wd) (gs gu : Nat) (A1 B1 : Option Addr) (c1 d1 : Nat) (A2 B2 : Option Addr) (c2 d2 : Nat) (W : World) : Prop where
  b1 : Blk W gs 27 #[.slice A1 y1.stem.length c1, .slice B1 y1.cycle.length d1]
  b2 : Blk W gu 27 #[.slice A2 y2.stem.length c2, .slice B2 y2.cycle.length d2]
  h1 : WdIs W (Lt W.heap.size) y1 (.slice A1 y1.stem.length c1) (.slice B1 y1.cycle.length d1)
  h2 : WdIs W (Lt W.heap.size) y2 (.slice A2 y2.stem.length c2) (.slice B2 y2.cycle.length d2)
section
variable {y1 y2 : Wd} {gs gu : Nat} {A1 B1 : Option Addr} {c1 d1 : Nat} {A2 B2 : Option Addr} {c2 d2 : Nat} {W W' : World}
theorem SU.call (h : SU y1 y2 gs gu A1 B1 c1 d1 A2 B2 c2 d2 W) (hb : Below W.heap.size W W') : SU y1 y2 gs gu A1 B1 c1 d1 A2 B2 c2 d2 W' := ⟨h.b1.call hb, h.b2.call hb, wd_call h.h1 hb, wd_call h.h2 hb⟩
theorem SU.cells (h : SU y1 y2 gs gu A1 B1 c1 d1 A2 B2 c2 d2 W) : W.cell? ⟨gs, 0, none⟩ = some (.slice A1 y1.stem.length c1) ∧ W.cell? ⟨gs, 1, none⟩ = some (.slice B1 y1.cycle.length d1) ∧ W.cell? ⟨gu, 0, none⟩ = some (.slice A2 y2.stem.length c2) ∧ W.cell? ⟨gu, 1, none⟩ = some (.slice B2 y2.cycle.length d2) := by
  rw [h.b1.cell, h.b1.cell, h.b2.cell, h.b2.cell]
  exact ⟨rfl, rfl, rfl, rfl⟩
end
theorem far_len (x : Wd) (hl : (∀ l ∈ x.stem, l.length ≤ 100) ∧ ∀ l ∈ x.cycle, l.length ≤ 100) (i : Nat) : (x.far i).length ≤ 100 := by
  have key : ∀ (ls : List (List Bool)) (j : Nat), (∀ l ∈ ls, l.length ≤ 100) → (ls.getD j []).length ≤ 100 := fun ls j h => by
    rw [List.getD_eq_getElem?_getD]
    by_cases hj : j < ls.length
    · rw [List.getElem?_eq_getElem hj]
      exact h _ (List.getElem_mem hj)
    · rw [List.getElem?_eq_none (by omega)]
      simp
  unfold Wd.far Wd.letter
  split
  · exact key _ _ hl.2
  · exact key _ _ hl.1
theorem lets_le (x : Wd) (hl : (∀ l ∈ x.stem, l.length ≤ 100) ∧ ∀ l ∈ x.cycle, l.length ≤ 100) (a n : Nat) : ∀ l ∈ x.lets a n, l.length ≤ 1000000000 := by
  intro l h
  unfold Wd.lets at h
  obtain ⟨j, _, rfl⟩ := List.mem_map.1 h
  exact Nat.le_trans (far_len x hl _) (by decide)
theorem shift_small (x : Wd) (i : Nat) (h0 : 0 < x.cycle.length) (h : x.size ≤ 7) : (x.shift i).size ≤ 14 := by
  have := x.place_lt i h0
  unfold Wd.shift
  unfold Wd.size at *
  split
  · simp; omega
  · simp; omega
theorem unroll_small (x : Wd) (q : Nat) (hq : q ≤ 64) (h : x.size ≤ 7) : (x.unroll q).size ≤ 1000 := by
  have h2 := unroll_size x q
  have h3 : q * x.cycle.length ≤ 64 * 7 := Nat.mul_le_mul hq (by unfold Wd.size at h; omega)
  unfold Wd.size at *
  rw [h2]
  show _ + x.cycle.length ≤ _
  omega

set_option maxRecDepth 100000 in
set_option maxHeartbeats 8000000 in
theorem wordShifts_any (f : Ltl) (x : Wd) (k p : Int) (K : Option Addr) (n e : Nat) (A B : Option Addr) (c d : Nat) (i : Int) (w : World) (hbig : x.size ≤ 9223372036854775807) (hi : i ≤ 9223372036854775807)
    (hf : Ltl.Is w (Lt w.heap.size) f [.int .i64 k, .int .i64 p, .slice K n e]) (hw : WdIs w (Lt w.heap.size) x (.slice A x.stem.length c) (.slice B x.cycle.length d)) :
    Calls Try.prog 7 #[.agg #[.int .i64 k, .int .i64 p, .slice K n e], .agg #[.slice A x.stem.length c, .slice B x.cycle.length d], .int .i64 i] w fun e w' => e = .returned (.bool true) ∧ Below w.heap.size w w' := by
  have HB0 := Lib.hid (BxW.new hf hw)
  clear hf hw
  obtain ⟨q, hq0⟩ : ∃ q : Nat, (q : Int) = min (max i 0) 64 := ⟨(min (max i 0) 64).toNat, by omega⟩
  have HQ := Lib.hid hq0
  clear hq0
  go_enter Try.func7, Try.ntmps7
  go_wp2_with fail
  generalize ((w.alloc (.cells #[.int .i64 k, .int .i64 p, .slice K n e] 24)).alloc (.cells #[.slice A x.stem.length c, .slice B x.cycle.length d] 27)) = W0 at *
  refine (alive15_any W0).mono ?_
  rintro e1 w1 ⟨rfl, b1⟩
  have HB1 := Lib.hid (HB0.out.call b1)
  clear b1
  obtain ⟨y0, y1, y2, y3, y4⟩ := HB1.out.cells
  go_wp2_with fail
  refine (few15_any f x k p K n e A B c d w1 hbig HB1.out.hf HB1.out.hw).mono ?_
  rintro e2 w2 ⟨rfl, b2⟩
  have HB2 := Lib.hid (HB1.out.call b2)
  clear b2 y0 y1 y2 y3 y4
  obtain ⟨y0, y1, y2, y3, y4⟩ := HB2.out.cells
  cases hsb : smallB f x with
  | false =>
    clear hsb
    go_wp2
    go_ret
    exact ⟨rfl, HB2.out.below⟩
  | true =>
    have hsm := (small_size hsb).1
    have HLL := Lib.hid (small_size hsb).2
    clear hsb
    obtain ⟨ys, hys⟩ : ∃ y, x.shiftB i = y := ⟨_, rfl⟩
    obtain ⟨yu, hyu⟩ : ∃ y, x.unrollB q = y := ⟨_, rfl⟩
    have HYS := Lib.hid hys
    have HYU := Lib.hid hyu
    clear hys hyu
    go_wp2_with fail
    clear y0 y1 y2 y3 y4
    refine wp_region_jump (L := #[false, false, false, false, false, false, false, false, true, true]) 8 (by kernel_rfl) (by kernel_rfl) (by kernel_rfl) ?_
    have hF0 : ∀ k, Lt w2.drew.heap.size k → k < w2.drew.heap.size := fun _ h => h
    refine wpJ_boxL (base := w2.heap.size) (i := 6) (Z := #[.slice none 0 0, .slice none 0 0]) rfl (by kernel_rfl) (by kernel_rfl) (by kernel_rfl) (fun _ => by kernel_rfl) (fun _ _ _ _ h => h) hF0 (Nat.le_refl _) ?_
    refine wpJ_boxL (base := w2.heap.size) (i := 7) (Z := #[.slice none 0 0, .slice none 0 0]) rfl (by kernel_rfl) (by kernel_rfl) (by kernel_rfl) (fun _ => by kernel_rfl) (fun _ _ _ _ h => h) hF0 (Nat.le_refl _) ?_
    refine wpJ_takeL (i := 0) (v := ?_) rfl (by kernel_rfl) (by kernel_rfl) (by kernel_rfl) (fun _ _ _ h => h) hF0 (Or.inl ⟨by rfl, ?_⟩) ?_
    rotate_left
    focus
      intro W' hj
      obtain ⟨y0, y1, y2, y3, y4⟩ := (HB2.out.call (Jmp.low hj)).cells
      clear hj
      go_simp
      try with_reducible rfl
    simp only [Act.put, List.setIfInBounds_toArray, List.set_cons_zero, List.set_cons_succ]
    refine wpJ_takeL (i := 1) (v := ?_) rfl (by kernel_rfl) (by kernel_rfl) (by kernel_rfl) (fun _ _ _ h => h) hF0 (Or.inl ⟨by rfl, ?_⟩) ?_
    rotate_left
    focus
      intro W' hj
      obtain ⟨y0, y1, y2, y3, y4⟩ := (HB2.out.call (Jmp.low hj)).cells
      clear hj
      go_simp
      try with_reducible rfl
    simp only [Act.put, List.setIfInBounds_toArray, List.set_cons_zero, List.set_cons_succ]
    refine wpJ_takeL (i := 3) (v := ?_) rfl (by kernel_rfl) (by kernel_rfl) (by kernel_rfl) (fun _ _ _ h => h) hF0 (Or.inl ⟨by rfl, ?_⟩) ?_
    rotate_left
    focus
      intro W' hj
      obtain ⟨y0, y1, y2, y3, y4⟩ := (HB2.out.call (Jmp.low hj)).cells
      clear hj
      go_simp
      try with_reducible rfl
    simp only [Act.put, List.setIfInBounds_toArray, List.set_cons_zero, List.set_cons_succ]
    refine wpJ_takeL (i := 4) (v := ?_) rfl (by kernel_rfl) (by kernel_rfl) (by kernel_rfl) (fun _ _ _ h => h) hF0 (Or.inl ⟨by rfl, ?_⟩) ?_
    rotate_left
    focus
      intro W' hj
      obtain ⟨y0, y1, y2, y3, y4⟩ := (HB2.out.call (Jmp.low hj)).cells
      clear hj
      go_simp
      try with_reducible rfl
    simp only [Act.put, List.setIfInBounds_toArray, List.set_cons_zero, List.set_cons_succ]
    refine wpJ_callL (i := 2) (by kernel_rfl) rfl fun v2 j2 K2 k2 => ?_
    have H2L := Lib.hid (Jmp.low j2).size
    go_wp2_with fail
    refine (shift_all x A B c d i v2 (Lt w2.heap.size) ys HYS.out (fun b h => Nat.lt_of_lt_of_le h (Jmp.low j2).size) hsm hi HLL.out (HB2.out.hw.call (Bd.lt _) (Jmp.low j2))).mono ?_
    rintro e2' w2' ⟨A2, c2, B2, d2, rfl, hi2, b2⟩
    have HI2 := Lib.hid hi2
    clear hi2
    go_wp2_with fail
    refine k2.out _ _ b2 ?_
    clear k2
    have hF3 := grow_F (j2.grow hF0) b2.size
    refine wpJ_callL (i := 5) (by kernel_rfl) rfl fun v5 j5 K5 k5 => ?_
    have H5L := Lib.hid (Jmp.low (j2.back hF0 b2 j5)).size
    go_wp2_with fail
    refine (unroll_all x A B c d i q v5 (Lt w2.heap.size) yu HYU.out (fun b h => Nat.lt_of_lt_of_le h (Jmp.low (j2.back hF0 b2 j5)).size) hsm HQ.out HLL.out (HB2.out.hw.call (Bd.lt _) (Jmp.low (j2.back hF0 b2 j5)))).mono ?_
    rintro e5' w5' ⟨A5, c5, B5, d5, rfl, hi5, b5⟩
    have HI5 := Lib.hid hi5
    clear hi5
    go_wp2_with fail
    refine k5.out _ _ b5 ?_
    clear k5
    have hF6 := grow_F (j5.grow hF3) b5.size
    refine wpJ_end (by kernel_rfl) (fun wz jz => ?_) _
    have hlz := Jmp.low (j2.back hF0 b2 (j5.back hF3 b5 jz))
    have hP : WdIs wz (fun b => (Lt w2.drew.heap.size b ∨ Iv v2 w2' b) ∨ Iv v5 w5' b) ys (.slice A2 ys.stem.length c2) (.slice B2 ys.cycle.length d2) := ⟨D.Is.keep (fun b hb => ⟨.inl (.inr hb), (j5.back hF3 b5 jz).keep b (.inr hb)⟩) _ _ HI2.out.1, D.Is.keep (fun b hb => ⟨.inl (.inr hb), (j5.back hF3 b5 jz).keep b (.inr hb)⟩) _ _ HI2.out.2⟩
    have hD : WdIs wz (fun b => (Lt w2.drew.heap.size b ∨ Iv v2 w2' b) ∨ Iv v5 w5' b) yu (.slice A5 yu.stem.length c5) (.slice B5 yu.cycle.length d5) := ⟨D.Is.keep (fun b hb => ⟨.inr hb, jz.keep b (.inr hb)⟩) _ _ HI5.out.1, D.Is.keep (fun b hb => ⟨.inr hb, jz.keep b (.inr hb)⟩) _ _ HI5.out.2⟩
    have hFz : ∀ b, (fun b => (Lt w2.drew.heap.size b ∨ Iv v2 w2' b) ∨ Iv v5 w5' b) b → b < wz.heap.size := fun b hb => Nat.lt_of_lt_of_le (hF6 b hb) jz.size
    intro gu loq noq bkq gs lop nop bkp
    have hne : gs ≠ gu := fun h => nop (.inr h)
    have HBP := Lib.hid bkp
    have HBQ := Lib.hid bkq
    have HP := Lib.hid hP
    have HD := Lib.hid hD
    have HFZ := Lib.hid hFz
    have HNP := Lib.hid (show ¬ (fun b => (Lt w2.drew.heap.size b ∨ Iv v2 w2' b) ∨ Iv v5 w5' b) gs from fun h => nop (.inl h))
    have HNQ := Lib.hid (show ¬ (fun b => (Lt w2.drew.heap.size b ∨ Iv v2 w2' b) ∨ Iv v5 w5' b) gu from noq)
    have HLZ := Lib.hid hlz
    obtain ⟨x0, x1⟩ := cells2 bkp
    obtain ⟨z0, z1⟩ := cells2 bkq
    have fp0 := bkp.frozen 0
    have fp1 := bkp.frozen 1
    have fq0 := bkq.frozen 0
    have fq1 := bkq.frozen 1
    clear bkp bkq hlz nop noq jz hP hD hFz
    refine ⟨by kernel_rfl, ?_⟩
    simp only [Act.put, List.setIfInBounds_toArray, List.set_cons_zero, List.set_cons_succ]
    go_upto_region 6 with (fail)
    have hWZ : Below w2.heap.size w2 ((((wz.setCell ⟨gs, 0, none⟩ (.slice A2 ys.stem.length c2)).setCell ⟨gs, 1, none⟩ (.slice B2 ys.cycle.length d2)).setCell ⟨gu, 0, none⟩ (.slice A5 yu.stem.length c5)).setCell ⟨gu, 1, none⟩ (.slice B5 yu.cycle.length d5)) := below_set2 (below_set2 HLZ.out lop (.slice A2 ys.stem.length c2) (.slice B2 ys.cycle.length d2)) loq (.slice A5 yu.stem.length c5) (.slice B5 yu.cycle.length d5)
    have HB4 := Lib.hid (HB2.out.call hWZ)
    have HSU := Lib.hid (show SU ys yu gs gu A2 B2 c2 d2 A5 B5 c5 d5 ((((wz.setCell ⟨gs, 0, none⟩ (.slice A2 ys.stem.length c2)).setCell ⟨gs, 1, none⟩ (.slice B2 ys.cycle.length d2)).setCell ⟨gu, 0, none⟩ (.slice A5 yu.stem.length c5)).setCell ⟨gu, 1, none⟩ (.slice B5 yu.cycle.length d5)) from ⟨blk_far2 (blk_set2 HBP.out (.slice A2 ys.stem.length c2) (.slice B2 ys.cycle.length d2)) hne (.slice A5 yu.stem.length c5) (.slice B5 yu.cycle.length d5), blk_set2 (blk_far2 HBQ.out (Ne.symm hne) (.slice A2 ys.stem.length c2) (.slice B2 ys.cycle.length d2)) (.slice A5 yu.stem.length c5) (.slice B5 yu.cycle.length d5),
      ((HP.out.set2 HNP.out (.slice A2 ys.stem.length c2) (.slice B2 ys.cycle.length d2)).set2 HNQ.out (.slice A5 yu.stem.length c5) (.slice B5 yu.cycle.length d5)).mono fun b hb => by show b < _; rw [size_set2, size_set2]; exact HFZ.out b hb,
      ((HD.out.set2 HNP.out (.slice A2 ys.stem.length c2) (.slice B2 ys.cycle.length d2)).set2 HNQ.out (.slice A5 yu.stem.length c5) (.slice B5 yu.cycle.length d5)).mono fun b hb => by show b < _; rw [size_set2, size_set2]; exact HFZ.out b hb⟩)
    clear hWZ x0 x1 z0 z1 fp0 fp1 fq0 fq1 HP HD HFZ HNP HNQ HBP HBQ HLZ HI2 HI5 H2L H5L HB0 HB1 HB2
    generalize ((((wz.setCell ⟨gs, 0, none⟩ (.slice A2 ys.stem.length c2)).setCell ⟨gs, 1, none⟩ (.slice B2 ys.cycle.length d2)).setCell ⟨gu, 0, none⟩ (.slice A5 yu.stem.length c5)).setCell ⟨gu, 1, none⟩ (.slice B5 yu.cycle.length d5)) = W4 at *
    obtain ⟨y0, y1, y2, y3, y4⟩ := HB4.out.cells
    by_cases h0 : x.cycle.length = 0
    · have hq : ((x.cycle.length : Int) == 0) = true := by simpa using h0
      obtain rfl : (⟨[], []⟩ : Wd) = ys := by rw [← HYS.out]; unfold Wd.shiftB; rw [if_pos h0]
      obtain rfl : (⟨[], []⟩ : Wd) = yu := by rw [← HYU.out]; unfold Wd.unrollB; rw [if_pos h0]
      have HZ4 := Lib.hid HSU.out.cells
      have z0 : W4.cell? ⟨gs, 0, none⟩ = some (.slice A2 0 c2) := HZ4.out.1
      have z1 : W4.cell? ⟨gs, 1, none⟩ = some (.slice B2 0 d2) := HZ4.out.2.1
      have z2 : W4.cell? ⟨gu, 0, none⟩ = some (.slice A5 0 c5) := HZ4.out.2.2.1
      have z3 : W4.cell? ⟨gu, 1, none⟩ = some (.slice B5 0 d5) := HZ4.out.2.2.2
      clear h0
      go_wp2
      go_ret
      exact ⟨rfl, HB4.out.below⟩
    · have hq : ((x.cycle.length : Int) == 0) = false := by simpa using h0
      have h0' : 0 < x.cycle.length := by omega
      obtain rfl : x.shift i.toNat = ys := by rw [← HYS.out]; unfold Wd.shiftB; rw [if_neg h0]
      obtain rfl : x.unroll q = yu := by rw [← HYU.out]; unfold Wd.unrollB; rw [if_neg h0]
      have HQ64 : q ≤ 64 := by have := HQ.out; omega
      have HS0 := Lib.hid (show 0 < (x.shift i.toNat).cycle.length by rw [shift_cycle x _ h0']; exact h0')
      have HU0 := Lib.hid (show 0 < (x.unroll q).cycle.length from h0')
      have HSZ := Lib.hid (shift_small x i.toNat h0' hsm)
      have HUZ := Lib.hid (unroll_small x q HQ64 hsm)
      have HUL := Lib.hid (unroll_size x q)
      have HSL := Lib.hid (fun n => shift_lets x i.toNat h0' n)
      have HULL := Lib.hid (fun n => unroll_lets x q n)
      obtain ⟨hv, hhv⟩ : ∃ hv, f.norm.sat x i.toNat = hv := ⟨_, rfl⟩
      obtain ⟨h3, hh3⟩ : ∃ hv, f.norm.sat x 3 = hv := ⟨_, rfl⟩
      have HV := Lib.hid hhv
      have H3 := Lib.hid hh3
      have HVS := Lib.hid ((shift_sat x i.toNat h0' f.norm).trans hhv)
      have H3U := Lib.hid ((unroll_sat x q h0' f.norm 3).trans hh3)
      have H0 := Lib.hid h0'
      clear hhv hh3 h0' h0 HYS HYU
      generalize hgs : x.shift i.toNat = ys at *
      generalize hgu : x.unroll q = yu at *
      clear hgs hgu
      go_wp2_with fail
      clear hq y0 y1 y2 y3 y4
      have hn1 : (hv != hv) = false := by cases hv <;> rfl
      have hn3 : (h3 != h3) = false := by cases h3 <;> rfl
      refine wp_region_jump (L := #[false, false, false, false, false, false, false, false, false, false, false, false, false, false, false, false, true]) 16 (by kernel_rfl) (by kernel_rfl) (by kernel_rfl) ?_
      have hF0 : ∀ k, Lt W4.drew.heap.size k → k < W4.drew.heap.size := fun _ h => h
      refine wpJ_takeL (i := 0) (v := ?_) rfl (by kernel_rfl) (by kernel_rfl) (by kernel_rfl) (fun _ _ _ h => h) hF0 (Or.inl ⟨by rfl, ?_⟩) ?_
      rotate_left
      focus
        intro W' hj
        obtain ⟨y0, y1, y2, y3, y4⟩ := (HB4.out.call (Jmp.low hj)).cells
        obtain ⟨z0, z1, z2, z3⟩ := (HSU.out.call (Jmp.low hj)).cells
        clear hj
        go_simp
        try with_reducible rfl
      simp only [Act.put, List.setIfInBounds_toArray, List.set_cons_zero, List.set_cons_succ]
      refine wpJ_takeL (i := 1) (v := ?_) rfl (by kernel_rfl) (by kernel_rfl) (by kernel_rfl) (fun _ _ _ h => h) hF0 (Or.inl ⟨by rfl, ?_⟩) ?_
      rotate_left
      focus
        intro W' hj
        obtain ⟨y0, y1, y2, y3, y4⟩ := (HB4.out.call (Jmp.low hj)).cells
        obtain ⟨z0, z1, z2, z3⟩ := (HSU.out.call (Jmp.low hj)).cells
        clear hj
        go_simp
        try with_reducible rfl
      simp only [Act.put, List.setIfInBounds_toArray, List.set_cons_zero, List.set_cons_succ]
      refine wpJ_takeL (i := 3) (v := ?_) rfl (by kernel_rfl) (by kernel_rfl) (by kernel_rfl) (fun _ _ _ h => h) hF0 (Or.inl ⟨by rfl, ?_⟩) ?_
      rotate_left
      focus
        intro W' hj
        obtain ⟨y0, y1, y2, y3, y4⟩ := (HB4.out.call (Jmp.low hj)).cells
        obtain ⟨z0, z1, z2, z3⟩ := (HSU.out.call (Jmp.low hj)).cells
        clear hj
        go_simp
        try with_reducible rfl
      simp only [Act.put, List.setIfInBounds_toArray, List.set_cons_zero, List.set_cons_succ]
      refine wpJ_takeL (i := 4) (v := ?_) rfl (by kernel_rfl) (by kernel_rfl) (by kernel_rfl) (fun _ _ _ h => h) hF0 (Or.inl ⟨by rfl, ?_⟩) ?_
      rotate_left
      focus
        intro W' hj
        obtain ⟨y0, y1, y2, y3, y4⟩ := (HB4.out.call (Jmp.low hj)).cells
        obtain ⟨z0, z1, z2, z3⟩ := (HSU.out.call (Jmp.low hj)).cells
        clear hj
        go_simp
        try with_reducible rfl
      simp only [Act.put, List.setIfInBounds_toArray, List.set_cons_zero, List.set_cons_succ]
      refine wpJ_takeL (i := 5) (v := ?_) rfl (by kernel_rfl) (by kernel_rfl) (by kernel_rfl) (fun _ _ _ h => h) hF0 (Or.inl ⟨by rfl, ?_⟩) ?_
      rotate_left
      focus
        intro W' hj
        obtain ⟨y0, y1, y2, y3, y4⟩ := (HB4.out.call (Jmp.low hj)).cells
        obtain ⟨z0, z1, z2, z3⟩ := (HSU.out.call (Jmp.low hj)).cells
        clear hj
        go_simp
        try with_reducible rfl
      simp only [Act.put, List.setIfInBounds_toArray, List.set_cons_zero, List.set_cons_succ]
      refine wpJ_callL (i := 2) (by kernel_rfl) rfl fun v2 j2 K2 k2 => ?_
      go_wp2_with fail
      refine (wholds_val ys f k p K n e A2 B2 c2 d2 0 v2 hv HVS.out (by have := HSZ.out; omega) HS0.out (by decide) (HB4.out.call (Jmp.low j2)).hf (HSU.out.call (Jmp.low j2)).h1).mono ?_
      rintro e2' w2' ⟨rfl, b2⟩
      go_wp2_with fail
      refine k2.out _ _ b2 ?_
      clear k2
      have hF3 := grow_F (j2.grow hF0) b2.size
      refine wpJ_callL (i := 6) (by kernel_rfl) rfl fun v6 j6 K6 k6 => ?_
      go_wp2_with fail
      refine (wholds_val x f k p K n e A B c d i v6 hv HV.out (by omega) H0.out hi (HB4.out.call (Jmp.low (j2.back hF0 b2 j6))).hf (HB4.out.call (Jmp.low (j2.back hF0 b2 j6))).hw).mono ?_
      rintro e6' w6' ⟨rfl, b6⟩
      go_wp2_with fail
      refine k6.out _ _ b6 ?_
      clear k6
      have hF7 := grow_F (j6.grow hF3) b6.size
      refine wpJ_takeL (i := 7) (v := ?_) rfl (by kernel_rfl) (by kernel_rfl) (by kernel_rfl) (fun _ _ _ h => h) hF7 (Or.inl ⟨by rfl, ?_⟩) ?_
      rotate_left
      focus
        intro W' hj
        obtain ⟨y0, y1, y2, y3, y4⟩ := (HB4.out.call (Jmp.low (j2.back hF0 b2 (j6.back hF3 b6 hj)))).cells
        obtain ⟨z0, z1, z2, z3⟩ := (HSU.out.call (Jmp.low (j2.back hF0 b2 (j6.back hF3 b6 hj)))).cells
        clear hj
        go_simp
        try with_reducible rfl
      simp only [Act.put, List.setIfInBounds_toArray, List.set_cons_zero, List.set_cons_succ]
      refine wpJ_takeL (i := 8) (v := ?_) rfl (by kernel_rfl) (by kernel_rfl) (by kernel_rfl) (fun _ _ _ h => h) hF7 (Or.inl ⟨by rfl, ?_⟩) ?_
      rotate_left
      focus
        intro W' hj
        obtain ⟨y0, y1, y2, y3, y4⟩ := (HB4.out.call (Jmp.low (j2.back hF0 b2 (j6.back hF3 b6 hj)))).cells
        obtain ⟨z0, z1, z2, z3⟩ := (HSU.out.call (Jmp.low (j2.back hF0 b2 (j6.back hF3 b6 hj)))).cells
        clear hj
        go_simp
        try with_reducible rfl
      simp only [Act.put, List.setIfInBounds_toArray, List.set_cons_zero, List.set_cons_succ]
      refine wpJ_takeL (i := 9) (v := ?_) rfl (by kernel_rfl) (by kernel_rfl) (by kernel_rfl) (fun _ _ _ h => h) hF7 (Or.inl ⟨by rfl, ?_⟩) ?_
      rotate_left
      focus
        intro W' hj
        obtain ⟨y0, y1, y2, y3, y4⟩ := (HB4.out.call (Jmp.low (j2.back hF0 b2 (j6.back hF3 b6 hj)))).cells
        obtain ⟨z0, z1, z2, z3⟩ := (HSU.out.call (Jmp.low (j2.back hF0 b2 (j6.back hF3 b6 hj)))).cells
        clear hj
        go_simp
        try with_reducible rfl
      simp only [Act.put, List.setIfInBounds_toArray, List.set_cons_zero, List.set_cons_succ]
      refine wpJ_takeL (i := 10) (v := ?_) rfl (by kernel_rfl) (by kernel_rfl) (by kernel_rfl) (fun _ _ _ h => h) hF7 (Or.inl ⟨by rfl, ?_⟩) ?_
      rotate_left
      focus
        intro W' hj
        obtain ⟨y0, y1, y2, y3, y4⟩ := (HB4.out.call (Jmp.low (j2.back hF0 b2 (j6.back hF3 b6 hj)))).cells
        obtain ⟨z0, z1, z2, z3⟩ := (HSU.out.call (Jmp.low (j2.back hF0 b2 (j6.back hF3 b6 hj)))).cells
        clear hj
        go_simp
        try with_reducible rfl
      simp only [Act.put, List.setIfInBounds_toArray, List.set_cons_zero, List.set_cons_succ]
      refine wpJ_takeL (i := 12) (v := ?_) rfl (by kernel_rfl) (by kernel_rfl) (by kernel_rfl) (fun _ _ _ h => h) hF7 (Or.inl ⟨by rfl, ?_⟩) ?_
      rotate_left
      focus
        intro W' hj
        obtain ⟨y0, y1, y2, y3, y4⟩ := (HB4.out.call (Jmp.low (j2.back hF0 b2 (j6.back hF3 b6 hj)))).cells
        obtain ⟨z0, z1, z2, z3⟩ := (HSU.out.call (Jmp.low (j2.back hF0 b2 (j6.back hF3 b6 hj)))).cells
        clear hj
        go_simp
        try with_reducible rfl
      simp only [Act.put, List.setIfInBounds_toArray, List.set_cons_zero, List.set_cons_succ]
      refine wpJ_takeL (i := 13) (v := ?_) rfl (by kernel_rfl) (by kernel_rfl) (by kernel_rfl) (fun _ _ _ h => h) hF7 (Or.inl ⟨by rfl, ?_⟩) ?_
      rotate_left
      focus
        intro W' hj
        obtain ⟨y0, y1, y2, y3, y4⟩ := (HB4.out.call (Jmp.low (j2.back hF0 b2 (j6.back hF3 b6 hj)))).cells
        obtain ⟨z0, z1, z2, z3⟩ := (HSU.out.call (Jmp.low (j2.back hF0 b2 (j6.back hF3 b6 hj)))).cells
        clear hj
        go_simp
        try with_reducible rfl
      simp only [Act.put, List.setIfInBounds_toArray, List.set_cons_zero, List.set_cons_succ]
      refine wpJ_callL (i := 11) (by kernel_rfl) rfl fun v11 j11 K11 k11 => ?_
      go_wp2_with fail
      refine (wholds_val yu f k p K n e A5 B5 c5 d5 3 v11 h3 H3U.out (by have := HUZ.out; omega) HU0.out (by decide) (HB4.out.call (Jmp.low (j2.back hF0 b2 (j6.back hF3 b6 j11)))).hf (HSU.out.call (Jmp.low (j2.back hF0 b2 (j6.back hF3 b6 j11)))).h2).mono ?_
      rintro e11' w11' ⟨rfl, b11⟩
      go_wp2_with fail
      refine k11.out _ _ b11 ?_
      clear k11
      have hF12 := grow_F (j11.grow hF7) b11.size
      refine wpJ_callL (i := 14) (by kernel_rfl) rfl fun v14 j14 K14 k14 => ?_
      go_wp2_with fail
      refine (wholds_val x f k p K n e A B c d 3 v14 h3 H3.out (by omega) H0.out (by decide) (HB4.out.call (Jmp.low (j2.back hF0 b2 (j6.back hF3 b6 (j11.back hF7 b11 j14))))).hf (HB4.out.call (Jmp.low (j2.back hF0 b2 (j6.back hF3 b6 (j11.back hF7 b11 j14))))).hw).mono ?_
      rintro e14' w14' ⟨rfl, b14⟩
      go_wp2_with fail
      refine k14.out _ _ b14 ?_
      clear k14
      have hF15 := grow_F (j14.grow hF12) b14.size
      refine wpJ_takeL (i := 15) (v := ?_) rfl (by kernel_rfl) (by kernel_rfl) (by kernel_rfl) (fun _ _ _ h => h) hF15 (Or.inl ⟨by rfl, ?_⟩) ?_
      rotate_left
      focus
        intro W' hj
        obtain ⟨y0, y1, y2, y3, y4⟩ := (HB4.out.call (Jmp.low (j2.back hF0 b2 (j6.back hF3 b6 (j11.back hF7 b11 (j14.back hF12 b14 hj)))))).cells
        obtain ⟨z0, z1, z2, z3⟩ := (HSU.out.call (Jmp.low (j2.back hF0 b2 (j6.back hF3 b6 (j11.back hF7 b11 (j14.back hF12 b14 hj)))))).cells
        clear hj
        go_simp
        try with_reducible rfl
      simp only [Act.put, List.setIfInBounds_toArray, List.set_cons_zero, List.set_cons_succ]
      refine wpJ_end (by kernel_rfl) (fun wz jz => ?_) _
      have hlow := Jmp.low (j2.back hF0 b2 (j6.back hF3 b6 (j11.back hF7 b11 (j14.back hF12 b14 jz))))
      have HB5 := Lib.hid (HB4.out.call hlow)
      have HSU5 := Lib.hid (HSU.out.call hlow)
      clear hlow jz HB4 HSU hn1 hn3 HV H3 HVS H3U
      refine ⟨by kernel_rfl, ?_⟩
      try simp only [Act.put, List.setIfInBounds_toArray, List.set_cons_zero, List.set_cons_succ]
      go_upto_region 10 with (fail)
      generalize wz = W8 at *
      go_cut [9] (fun s9 wx => (∃ m : Nat, s9 = .int .i64 (m : Int) ∧ (m : Int) ≤ 9223372036854775807 ∧ m = i.toNat) ∧ W8 = wx)
      case first =>
        rcases Int.lt_or_le i 0 with hneg | hpos
        · go_wp2_with fail
          go_meet
          exact ⟨⟨0, rfl, by decide, by omega⟩, rfl⟩
        · go_wp2_with fail
          go_meet
          exact ⟨⟨i.toNat, (congrArg (Value.int .i64) (Int.toNat_of_nonneg hpos).symm), by omega, rfl⟩, rfl⟩
      case rest =>
        obtain ⟨⟨m, rfl, hm1, hmi⟩, rfl⟩ := hcut
        have HQM := Lib.hid (show (q : Int) = min (m : Int) 64 by have := HQ.out; omega)
        have HMI := Lib.hid hmi
        clear hmi hi
        by_cases hbg : (1000000 : Int) < (m : Int)
        · have hq : decide ((1000000 : Int) < (m : Int)) = true := by simpa using hbg
          clear HQM
          go_wp2
          go_ret
          exact ⟨rfl, HB5.out.below⟩
        · have hq : decide ((1000000 : Int) < (m : Int)) = false := by rw [decide_eq_false_iff_not]; exact hbg
          have hm : m ≤ 1000000 := by omega
          clear hbg
          go_wp2_with fail
          clear hq
          obtain ⟨LA, hLA⟩ : ∃ l, l = x.lets m 9 := ⟨_, rfl⟩
          obtain ⟨LB, hLB⟩ : ∃ l, l = x.lets 0 9 := ⟨_, rfl⟩
          have HLA1 := Lib.hid (show LA = ys.lets 0 9 by rw [hLA, HMI.out]; exact (HSL.out 9).symm)
          have HLA2 := Lib.hid hLA
          have HLA3 := Lib.hid (show LA.length ≤ 1000000 ∧ ∀ l ∈ LA, l.length ≤ 1000000000 from by rw [hLA]; exact ⟨by rw [lets_len]; decide, lets_le x HLL.out m 9⟩)
          have HLB1 := Lib.hid (hLB.trans (HULL.out 9).symm)
          have HLB2 := Lib.hid hLB
          have HLB3 := Lib.hid (show LB.length ≤ 1000000 ∧ ∀ l ∈ LB, l.length ≤ 1000000000 from by rw [hLB]; exact ⟨by rw [lets_len]; decide, lets_le x HLL.out 0 9⟩)
          clear hLA hLB HSL HULL HLL HMI HQ
          obtain ⟨r, hr⟩ : ∃ r, r = q * x.cycle.length := ⟨_, rfl⟩
          have hrb : r ≤ 64 * 7 := hr ▸ Nat.mul_le_mul HQ64 (by unfold Wd.size at hsm; omega)
          have HR := Lib.hid (show IntKind.i64.wrap ((q : Int) * (x.cycle.length : Int)) = (r : Int) ∧ IntKind.i64.wrap ((x.stem.length : Int) + (r : Int)) = (yu.stem.length : Int) from by
            unfold Wd.size at hsm
            refine ⟨?_, ?_⟩
            · rw [show (q : Int) * (x.cycle.length : Int) = (r : Int) by rw [hr]; simp, Go.IntWalk.i64_in _ (by omega)]
            · rw [HUL.out, Go.IntWalk.i64_in _ (by omega), ← hr]; simp)
          clear hr HUL
          refine wp_region_jump (L := #[false, false, false, false, false, false, false, false, false, false, false, false, false, false, false, false, false, false, false, false, false, false, false, false, false, false, false, false, false, false, false, false, false, true]) 33 (by kernel_rfl) (by kernel_rfl) (by kernel_rfl) ?_
          have hF0 : ∀ k, Lt W8.drew.heap.size k → k < W8.drew.heap.size := fun _ h => h
          refine wpJ_takeL (i := 0) (v := ?_) rfl (by kernel_rfl) (by kernel_rfl) (by kernel_rfl) (fun _ _ _ h => h) hF0 (Or.inl ⟨by rfl, ?_⟩) ?_
          rotate_left
          focus
            intro W' hj
            obtain ⟨y0, y1, y2, y3, y4⟩ := (HB5.out.call (Jmp.low hj)).cells
            obtain ⟨z0, z1, z2, z3⟩ := (HSU5.out.call (Jmp.low hj)).cells
            obtain ⟨r0, r1⟩ := HR.out
            clear hj
            go_simp
            try with_reducible rfl
          simp only [Act.put, List.setIfInBounds_toArray, List.set_cons_zero, List.set_cons_succ]
          refine wpJ_takeL (i := 3) (v := ?_) rfl (by kernel_rfl) (by kernel_rfl) (by kernel_rfl) (fun _ _ _ h => h) hF0 (Or.inl ⟨by rfl, ?_⟩) ?_
          rotate_left
          focus
            intro W' hj
            obtain ⟨y0, y1, y2, y3, y4⟩ := (HB5.out.call (Jmp.low hj)).cells
            obtain ⟨z0, z1, z2, z3⟩ := (HSU5.out.call (Jmp.low hj)).cells
            obtain ⟨r0, r1⟩ := HR.out
            clear hj
            go_simp
            try with_reducible rfl
          simp only [Act.put, List.setIfInBounds_toArray, List.set_cons_zero, List.set_cons_succ]
          refine wpJ_takeL (i := 5) (v := ?_) rfl (by kernel_rfl) (by kernel_rfl) (by kernel_rfl) (fun _ _ _ h => h) hF0 (Or.inl ⟨by rfl, ?_⟩) ?_
          rotate_left
          focus
            intro W' hj
            obtain ⟨y0, y1, y2, y3, y4⟩ := (HB5.out.call (Jmp.low hj)).cells
            obtain ⟨z0, z1, z2, z3⟩ := (HSU5.out.call (Jmp.low hj)).cells
            obtain ⟨r0, r1⟩ := HR.out
            clear hj
            go_simp
            try with_reducible rfl
          simp only [Act.put, List.setIfInBounds_toArray, List.set_cons_zero, List.set_cons_succ]
          refine wpJ_callL (i := 1) (by kernel_rfl) rfl fun v1 j1 K1 k1 => ?_
          go_wp2_with fail
          refine (as_any _ _ A2 B2 ys.stem.length ys.cycle.length c2 d2 v1 rfl rfl).mono ?_
          rintro e1' w1' ⟨rfl, b1⟩
          go_wp2_with fail
          refine k1.out _ _ b1 ?_
          clear k1
          have hF2 := grow_F (j1.grow hF0) b1.size
          refine wpJ_callL (i := 2) (by kernel_rfl) rfl fun v2 j2 K2 k2 => ?_
          have H2L := Lib.hid (Jmp.low (j1.back hF0 b1 j2)).size
          go_wp2_with fail
          refine (rletters_at ys A2 B2 c2 d2 0 9 0 9 v2 (Lt W8.heap.size) LA HLA1.out (by first | rfl | omega) (by first | rfl | omega) (fun b h => Nat.lt_of_lt_of_le h (Jmp.low (j1.back hF0 b1 j2)).size) (by omega) (by decide) (by have := HSZ.out; omega) HS0.out (HSU5.out.h1.call (Bd.lt _) (Jmp.low (j1.back hF0 b1 j2)))).mono ?_
          rintro e2' w2' ⟨u2', rfl, hi2, b2⟩
          have HI2 := Lib.hid hi2
          clear hi2
          go_wp2_with fail
          refine k2.out _ _ b2 ?_
          clear k2
          have hF3 := grow_F (j2.grow hF2) b2.size
          refine wpJ_callL (i := 4) (by kernel_rfl) rfl fun v4 j4 K4 k4 => ?_
          go_wp2_with fail
          refine (as_any _ _ A B x.stem.length x.cycle.length c d v4 rfl rfl).mono ?_
          rintro e4' w4' ⟨rfl, b4⟩
          go_wp2_with fail
          refine k4.out _ _ b4 ?_
          clear k4
          have hF5 := grow_F (j4.grow hF3) b4.size
          refine wpJ_callL (i := 6) (by kernel_rfl) rfl fun v6 j6 K6 k6 => ?_
          have H6L := Lib.hid (Jmp.low (j1.back hF0 b1 (j2.back hF2 b2 (j4.back hF3 b4 j6)))).size
          go_wp2_with fail
          refine (rletters_at x A B c d m 9 m 9 v6 (Lt W8.heap.size) LA HLA2.out (by first | rfl | omega) (by first | rfl | omega) (fun b h => Nat.lt_of_lt_of_le h (Jmp.low (j1.back hF0 b1 (j2.back hF2 b2 (j4.back hF3 b4 j6)))).size) (by omega) (by decide) (by omega) H0.out (HB5.out.hw.call (Bd.lt _) (Jmp.low (j1.back hF0 b1 (j2.back hF2 b2 (j4.back hF3 b4 j6)))))).mono ?_
          rintro e6' w6' ⟨u6', rfl, hi6, b6⟩
          have HI6 := Lib.hid hi6
          clear hi6
          go_wp2_with fail
          refine k6.out _ _ b6 ?_
          clear k6
          have hF7 := grow_F (j6.grow hF5) b6.size
          refine wpJ_callL (i := 7) (by kernel_rfl) rfl fun v7 j7 K7 k7 => ?_
          go_wp2_with fail
          refine (rsame_at LA u2' u6' v7 (lets_jump2 HI2.out (fun b h => Nat.lt_of_lt_of_le h (Nat.le_trans H2L.out b2.size)) (j4.back hF3 b4 (j6.back hF5 b6 j7)) (fun b hb => hb.elim .inr (fun h => (.inl (.inl h))))) (lets_jump2 HI6.out (fun b h => Nat.lt_of_lt_of_le h (Nat.le_trans H6L.out b6.size)) j7 (fun b hb => hb.elim .inr (fun h => (.inl (.inl (.inl (.inl h))))))) HLA3.out.1 HLA3.out.2).mono ?_
          rintro e7' w7' ⟨rfl, b7⟩
          go_wp2_with fail
          refine k7.out _ _ b7 ?_
          clear k7
          have hF8 := grow_F (j7.grow hF7) b7.size
          refine wpJ_takeL (i := 8) (v := ?_) rfl (by kernel_rfl) (by kernel_rfl) (by kernel_rfl) (fun _ _ _ h => h) hF8 (Or.inl ⟨by rfl, ?_⟩) ?_
          rotate_left
          focus
            intro W' hj
            obtain ⟨y0, y1, y2, y3, y4⟩ := (HB5.out.call (Jmp.low (j1.back hF0 b1 (j2.back hF2 b2 (j4.back hF3 b4 (j6.back hF5 b6 (j7.back hF7 b7 hj))))))).cells
            obtain ⟨z0, z1, z2, z3⟩ := (HSU5.out.call (Jmp.low (j1.back hF0 b1 (j2.back hF2 b2 (j4.back hF3 b4 (j6.back hF5 b6 (j7.back hF7 b7 hj))))))).cells
            obtain ⟨r0, r1⟩ := HR.out
            clear hj
            go_simp
            try with_reducible rfl
          simp only [Act.put, List.setIfInBounds_toArray, List.set_cons_zero, List.set_cons_succ]
          refine wpJ_takeL (i := 9) (v := ?_) rfl (by kernel_rfl) (by kernel_rfl) (by kernel_rfl) (fun _ _ _ h => h) hF8 (Or.inl ⟨by rfl, ?_⟩) ?_
          rotate_left
          focus
            intro W' hj
            obtain ⟨y0, y1, y2, y3, y4⟩ := (HB5.out.call (Jmp.low (j1.back hF0 b1 (j2.back hF2 b2 (j4.back hF3 b4 (j6.back hF5 b6 (j7.back hF7 b7 hj))))))).cells
            obtain ⟨z0, z1, z2, z3⟩ := (HSU5.out.call (Jmp.low (j1.back hF0 b1 (j2.back hF2 b2 (j4.back hF3 b4 (j6.back hF5 b6 (j7.back hF7 b7 hj))))))).cells
            obtain ⟨r0, r1⟩ := HR.out
            clear hj
            go_simp
            try with_reducible rfl
          simp only [Act.put, List.setIfInBounds_toArray, List.set_cons_zero, List.set_cons_succ]
          refine wpJ_takeL (i := 12) (v := ?_) rfl (by kernel_rfl) (by kernel_rfl) (by kernel_rfl) (fun _ _ _ h => h) hF8 (Or.inl ⟨by rfl, ?_⟩) ?_
          rotate_left
          focus
            intro W' hj
            obtain ⟨y0, y1, y2, y3, y4⟩ := (HB5.out.call (Jmp.low (j1.back hF0 b1 (j2.back hF2 b2 (j4.back hF3 b4 (j6.back hF5 b6 (j7.back hF7 b7 hj))))))).cells
            obtain ⟨z0, z1, z2, z3⟩ := (HSU5.out.call (Jmp.low (j1.back hF0 b1 (j2.back hF2 b2 (j4.back hF3 b4 (j6.back hF5 b6 (j7.back hF7 b7 hj))))))).cells
            obtain ⟨r0, r1⟩ := HR.out
            clear hj
            go_simp
            try with_reducible rfl
          simp only [Act.put, List.setIfInBounds_toArray, List.set_cons_zero, List.set_cons_succ]
          refine wpJ_callL (i := 10) (by kernel_rfl) rfl fun v10 j10 K10 k10 => ?_
          go_wp2_with fail
          refine (as_any _ _ A5 B5 yu.stem.length yu.cycle.length c5 d5 v10 rfl rfl).mono ?_
          rintro e10' w10' ⟨rfl, b10⟩
          go_wp2_with fail
          refine k10.out _ _ b10 ?_
          clear k10
          have hF11 := grow_F (j10.grow hF8) b10.size
          refine wpJ_callL (i := 11) (by kernel_rfl) rfl fun v11 j11 K11 k11 => ?_
          have H11L := Lib.hid (Jmp.low (j1.back hF0 b1 (j2.back hF2 b2 (j4.back hF3 b4 (j6.back hF5 b6 (j7.back hF7 b7 (j10.back hF8 b10 j11))))))).size
          go_wp2_with fail
          refine (rletters_at yu A5 B5 c5 d5 0 9 0 9 v11 (Lt W8.heap.size) LB HLB1.out (by first | rfl | omega) (by first | rfl | omega) (fun b h => Nat.lt_of_lt_of_le h (Jmp.low (j1.back hF0 b1 (j2.back hF2 b2 (j4.back hF3 b4 (j6.back hF5 b6 (j7.back hF7 b7 (j10.back hF8 b10 j11))))))).size) (by omega) (by decide) (by have := HUZ.out; omega) HU0.out (HSU5.out.h2.call (Bd.lt _) (Jmp.low (j1.back hF0 b1 (j2.back hF2 b2 (j4.back hF3 b4 (j6.back hF5 b6 (j7.back hF7 b7 (j10.back hF8 b10 j11))))))))).mono ?_
          rintro e11' w11' ⟨u11', rfl, hi11, b11⟩
          have HI11 := Lib.hid hi11
          clear hi11
          go_wp2_with fail
          refine k11.out _ _ b11 ?_
          clear k11
          have hF12 := grow_F (j11.grow hF11) b11.size
          refine wpJ_callL (i := 13) (by kernel_rfl) rfl fun v13 j13 K13 k13 => ?_
          go_wp2_with fail
          refine (as_any _ _ A B x.stem.length x.cycle.length c d v13 rfl rfl).mono ?_
          rintro e13' w13' ⟨rfl, b13⟩
          go_wp2_with fail
          refine k13.out _ _ b13 ?_
          clear k13
          have hF14 := grow_F (j13.grow hF12) b13.size
          refine wpJ_callL (i := 14) (by kernel_rfl) rfl fun v14 j14 K14 k14 => ?_
          have H14L := Lib.hid (Jmp.low (j1.back hF0 b1 (j2.back hF2 b2 (j4.back hF3 b4 (j6.back hF5 b6 (j7.back hF7 b7 (j10.back hF8 b10 (j11.back hF11 b11 (j13.back hF12 b13 j14))))))))).size
          go_wp2_with fail
          refine (rletters_at x A B c d 0 9 0 9 v14 (Lt W8.heap.size) LB HLB2.out (by first | rfl | omega) (by first | rfl | omega) (fun b h => Nat.lt_of_lt_of_le h (Jmp.low (j1.back hF0 b1 (j2.back hF2 b2 (j4.back hF3 b4 (j6.back hF5 b6 (j7.back hF7 b7 (j10.back hF8 b10 (j11.back hF11 b11 (j13.back hF12 b13 j14))))))))).size) (by omega) (by decide) (by omega) H0.out (HB5.out.hw.call (Bd.lt _) (Jmp.low (j1.back hF0 b1 (j2.back hF2 b2 (j4.back hF3 b4 (j6.back hF5 b6 (j7.back hF7 b7 (j10.back hF8 b10 (j11.back hF11 b11 (j13.back hF12 b13 j14))))))))))).mono ?_
          rintro e14' w14' ⟨u14', rfl, hi14, b14⟩
          have HI14 := Lib.hid hi14
          clear hi14
          go_wp2_with fail
          refine k14.out _ _ b14 ?_
          clear k14
          have hF15 := grow_F (j14.grow hF14) b14.size
          refine wpJ_callL (i := 15) (by kernel_rfl) rfl fun v15 j15 K15 k15 => ?_
          go_wp2_with fail
          refine (rsame_at LB u11' u14' v15 (lets_jump2 HI11.out (fun b h => Nat.lt_of_lt_of_le h (Nat.le_trans H11L.out b11.size)) (j13.back hF12 b13 (j14.back hF14 b14 j15)) (fun b hb => hb.elim .inr (fun h => (.inl (.inl (.inl (.inl (.inl (.inl (.inl h)))))))))) (lets_jump2 HI14.out (fun b h => Nat.lt_of_lt_of_le h (Nat.le_trans H14L.out b14.size)) j15 (fun b hb => hb.elim .inr (fun h => (.inl (.inl (.inl (.inl (.inl (.inl (.inl (.inl (.inl h)))))))))))) HLB3.out.1 HLB3.out.2).mono ?_
          rintro e15' w15' ⟨rfl, b15⟩
          go_wp2_with fail
          refine k15.out _ _ b15 ?_
          clear k15
          have hF16 := grow_F (j15.grow hF15) b15.size
          refine wpJ_takeL (i := 16) (v := ?_) rfl (by kernel_rfl) (by kernel_rfl) (by kernel_rfl) (fun _ _ _ h => h) hF16 (Or.inl ⟨by rfl, ?_⟩) ?_
          rotate_left
          focus
            intro W' hj
            obtain ⟨y0, y1, y2, y3, y4⟩ := (HB5.out.call (Jmp.low (j1.back hF0 b1 (j2.back hF2 b2 (j4.back hF3 b4 (j6.back hF5 b6 (j7.back hF7 b7 (j10.back hF8 b10 (j11.back hF11 b11 (j13.back hF12 b13 (j14.back hF14 b14 (j15.back hF15 b15 hj)))))))))))).cells
            obtain ⟨z0, z1, z2, z3⟩ := (HSU5.out.call (Jmp.low (j1.back hF0 b1 (j2.back hF2 b2 (j4.back hF3 b4 (j6.back hF5 b6 (j7.back hF7 b7 (j10.back hF8 b10 (j11.back hF11 b11 (j13.back hF12 b13 (j14.back hF14 b14 (j15.back hF15 b15 hj)))))))))))).cells
            obtain ⟨r0, r1⟩ := HR.out
            clear hj
            go_simp
            try with_reducible rfl
          simp only [Act.put, List.setIfInBounds_toArray, List.set_cons_zero, List.set_cons_succ]
          refine wpJ_takeL (i := 17) (v := ?_) rfl (by kernel_rfl) (by kernel_rfl) (by kernel_rfl) (fun _ _ _ h => h) hF16 (Or.inl ⟨by rfl, ?_⟩) ?_
          rotate_left
          focus
            intro W' hj
            obtain ⟨y0, y1, y2, y3, y4⟩ := (HB5.out.call (Jmp.low (j1.back hF0 b1 (j2.back hF2 b2 (j4.back hF3 b4 (j6.back hF5 b6 (j7.back hF7 b7 (j10.back hF8 b10 (j11.back hF11 b11 (j13.back hF12 b13 (j14.back hF14 b14 (j15.back hF15 b15 hj)))))))))))).cells
            obtain ⟨z0, z1, z2, z3⟩ := (HSU5.out.call (Jmp.low (j1.back hF0 b1 (j2.back hF2 b2 (j4.back hF3 b4 (j6.back hF5 b6 (j7.back hF7 b7 (j10.back hF8 b10 (j11.back hF11 b11 (j13.back hF12 b13 (j14.back hF14 b14 (j15.back hF15 b15 hj)))))))))))).cells
            obtain ⟨r0, r1⟩ := HR.out
            clear hj
            go_simp
            try with_reducible rfl
          simp only [Act.put, List.setIfInBounds_toArray, List.set_cons_zero, List.set_cons_succ]
          refine wpJ_takeL (i := 18) (v := ?_) rfl (by kernel_rfl) (by kernel_rfl) (by kernel_rfl) (fun _ _ _ h => h) hF16 (Or.inl ⟨by rfl, ?_⟩) ?_
          rotate_left
          focus
            intro W' hj
            obtain ⟨y0, y1, y2, y3, y4⟩ := (HB5.out.call (Jmp.low (j1.back hF0 b1 (j2.back hF2 b2 (j4.back hF3 b4 (j6.back hF5 b6 (j7.back hF7 b7 (j10.back hF8 b10 (j11.back hF11 b11 (j13.back hF12 b13 (j14.back hF14 b14 (j15.back hF15 b15 hj)))))))))))).cells
            obtain ⟨z0, z1, z2, z3⟩ := (HSU5.out.call (Jmp.low (j1.back hF0 b1 (j2.back hF2 b2 (j4.back hF3 b4 (j6.back hF5 b6 (j7.back hF7 b7 (j10.back hF8 b10 (j11.back hF11 b11 (j13.back hF12 b13 (j14.back hF14 b14 (j15.back hF15 b15 hj)))))))))))).cells
            obtain ⟨r0, r1⟩ := HR.out
            clear hj
            go_simp
            try with_reducible rfl
          simp only [Act.put, List.setIfInBounds_toArray, List.set_cons_zero, List.set_cons_succ]
          refine wpJ_takeL (i := 19) (v := ?_) rfl (by kernel_rfl) (by kernel_rfl) (by kernel_rfl) (fun _ _ _ h => h) hF16 (Or.inl ⟨by rfl, ?_⟩) ?_
          rotate_left
          focus
            intro W' hj
            obtain ⟨y0, y1, y2, y3, y4⟩ := (HB5.out.call (Jmp.low (j1.back hF0 b1 (j2.back hF2 b2 (j4.back hF3 b4 (j6.back hF5 b6 (j7.back hF7 b7 (j10.back hF8 b10 (j11.back hF11 b11 (j13.back hF12 b13 (j14.back hF14 b14 (j15.back hF15 b15 hj)))))))))))).cells
            obtain ⟨z0, z1, z2, z3⟩ := (HSU5.out.call (Jmp.low (j1.back hF0 b1 (j2.back hF2 b2 (j4.back hF3 b4 (j6.back hF5 b6 (j7.back hF7 b7 (j10.back hF8 b10 (j11.back hF11 b11 (j13.back hF12 b13 (j14.back hF14 b14 (j15.back hF15 b15 hj)))))))))))).cells
            obtain ⟨r0, r1⟩ := HR.out
            clear hj
            go_simp
            try with_reducible rfl
          simp only [Act.put, List.setIfInBounds_toArray, List.set_cons_zero, List.set_cons_succ]
          refine wpJ_takeL (i := 20) (v := ?_) rfl (by kernel_rfl) (by kernel_rfl) (by kernel_rfl) (fun _ _ _ h => h) hF16 (Or.inl ⟨by rfl, ?_⟩) ?_
          rotate_left
          focus
            intro W' hj
            obtain ⟨y0, y1, y2, y3, y4⟩ := (HB5.out.call (Jmp.low (j1.back hF0 b1 (j2.back hF2 b2 (j4.back hF3 b4 (j6.back hF5 b6 (j7.back hF7 b7 (j10.back hF8 b10 (j11.back hF11 b11 (j13.back hF12 b13 (j14.back hF14 b14 (j15.back hF15 b15 hj)))))))))))).cells
            obtain ⟨z0, z1, z2, z3⟩ := (HSU5.out.call (Jmp.low (j1.back hF0 b1 (j2.back hF2 b2 (j4.back hF3 b4 (j6.back hF5 b6 (j7.back hF7 b7 (j10.back hF8 b10 (j11.back hF11 b11 (j13.back hF12 b13 (j14.back hF14 b14 (j15.back hF15 b15 hj)))))))))))).cells
            obtain ⟨r0, r1⟩ := HR.out
            clear hj
            go_simp
            try with_reducible rfl
          simp only [Act.put, List.setIfInBounds_toArray, List.set_cons_zero, List.set_cons_succ]
          refine wpJ_takeL (i := 21) (v := ?_) rfl (by kernel_rfl) (by kernel_rfl) (by kernel_rfl) (fun _ _ _ h => h) hF16 (Or.inl ⟨by rfl, ?_⟩) ?_
          rotate_left
          focus
            intro W' hj
            obtain ⟨y0, y1, y2, y3, y4⟩ := (HB5.out.call (Jmp.low (j1.back hF0 b1 (j2.back hF2 b2 (j4.back hF3 b4 (j6.back hF5 b6 (j7.back hF7 b7 (j10.back hF8 b10 (j11.back hF11 b11 (j13.back hF12 b13 (j14.back hF14 b14 (j15.back hF15 b15 hj)))))))))))).cells
            obtain ⟨z0, z1, z2, z3⟩ := (HSU5.out.call (Jmp.low (j1.back hF0 b1 (j2.back hF2 b2 (j4.back hF3 b4 (j6.back hF5 b6 (j7.back hF7 b7 (j10.back hF8 b10 (j11.back hF11 b11 (j13.back hF12 b13 (j14.back hF14 b14 (j15.back hF15 b15 hj)))))))))))).cells
            obtain ⟨r0, r1⟩ := HR.out
            clear hj
            go_simp
            try with_reducible rfl
          simp only [Act.put, List.setIfInBounds_toArray, List.set_cons_zero, List.set_cons_succ]
          refine wpJ_takeL (i := 22) (v := ?_) rfl (by kernel_rfl) (by kernel_rfl) (by kernel_rfl) (fun _ _ _ h => h) hF16 (Or.inl ⟨by rfl, ?_⟩) ?_
          rotate_left
          focus
            intro W' hj
            obtain ⟨y0, y1, y2, y3, y4⟩ := (HB5.out.call (Jmp.low (j1.back hF0 b1 (j2.back hF2 b2 (j4.back hF3 b4 (j6.back hF5 b6 (j7.back hF7 b7 (j10.back hF8 b10 (j11.back hF11 b11 (j13.back hF12 b13 (j14.back hF14 b14 (j15.back hF15 b15 hj)))))))))))).cells
            obtain ⟨z0, z1, z2, z3⟩ := (HSU5.out.call (Jmp.low (j1.back hF0 b1 (j2.back hF2 b2 (j4.back hF3 b4 (j6.back hF5 b6 (j7.back hF7 b7 (j10.back hF8 b10 (j11.back hF11 b11 (j13.back hF12 b13 (j14.back hF14 b14 (j15.back hF15 b15 hj)))))))))))).cells
            obtain ⟨r0, r1⟩ := HR.out
            clear hj
            go_simp
            try with_reducible rfl
          simp only [Act.put, List.setIfInBounds_toArray, List.set_cons_zero, List.set_cons_succ]
          refine wpJ_takeL (i := 23) (v := ?_) rfl (by kernel_rfl) (by kernel_rfl) (by kernel_rfl) (fun _ _ _ h => h) hF16 (Or.inl ⟨by rfl, ?_⟩) ?_
          rotate_left
          focus
            intro W' hj
            obtain ⟨y0, y1, y2, y3, y4⟩ := (HB5.out.call (Jmp.low (j1.back hF0 b1 (j2.back hF2 b2 (j4.back hF3 b4 (j6.back hF5 b6 (j7.back hF7 b7 (j10.back hF8 b10 (j11.back hF11 b11 (j13.back hF12 b13 (j14.back hF14 b14 (j15.back hF15 b15 hj)))))))))))).cells
            obtain ⟨z0, z1, z2, z3⟩ := (HSU5.out.call (Jmp.low (j1.back hF0 b1 (j2.back hF2 b2 (j4.back hF3 b4 (j6.back hF5 b6 (j7.back hF7 b7 (j10.back hF8 b10 (j11.back hF11 b11 (j13.back hF12 b13 (j14.back hF14 b14 (j15.back hF15 b15 hj)))))))))))).cells
            obtain ⟨r0, r1⟩ := HR.out
            clear hj
            go_simp
            try with_reducible rfl
          simp only [Act.put, List.setIfInBounds_toArray, List.set_cons_zero, List.set_cons_succ]
          refine wpJ_takeL (i := 24) (v := ?_) rfl (by kernel_rfl) (by kernel_rfl) (by kernel_rfl) (fun _ _ _ h => h) hF16 (Or.inl ⟨by rfl, ?_⟩) ?_
          rotate_left
          focus
            intro W' hj
            obtain ⟨y0, y1, y2, y3, y4⟩ := (HB5.out.call (Jmp.low (j1.back hF0 b1 (j2.back hF2 b2 (j4.back hF3 b4 (j6.back hF5 b6 (j7.back hF7 b7 (j10.back hF8 b10 (j11.back hF11 b11 (j13.back hF12 b13 (j14.back hF14 b14 (j15.back hF15 b15 hj)))))))))))).cells
            obtain ⟨z0, z1, z2, z3⟩ := (HSU5.out.call (Jmp.low (j1.back hF0 b1 (j2.back hF2 b2 (j4.back hF3 b4 (j6.back hF5 b6 (j7.back hF7 b7 (j10.back hF8 b10 (j11.back hF11 b11 (j13.back hF12 b13 (j14.back hF14 b14 (j15.back hF15 b15 hj)))))))))))).cells
            obtain ⟨r0, r1⟩ := HR.out
            clear hj
            go_simp
            try with_reducible rfl
          simp only [Act.put, List.setIfInBounds_toArray, List.set_cons_zero, List.set_cons_succ]
          refine wpJ_takeL (i := 25) (v := (.int .i64 (q : Int))) rfl (by kernel_rfl) (by kernel_rfl) (by kernel_rfl) (fun _ _ _ h => h) hF16 (Or.inl ⟨by rfl, ?_⟩) ?_
          focus
            intro W' hj
            obtain ⟨y0, y1, y2, y3, y4⟩ := (HB5.out.call (Jmp.low (j1.back hF0 b1 (j2.back hF2 b2 (j4.back hF3 b4 (j6.back hF5 b6 (j7.back hF7 b7 (j10.back hF8 b10 (j11.back hF11 b11 (j13.back hF12 b13 (j14.back hF14 b14 (j15.back hF15 b15 hj)))))))))))).cells
            obtain ⟨z0, z1, z2, z3⟩ := (HSU5.out.call (Jmp.low (j1.back hF0 b1 (j2.back hF2 b2 (j4.back hF3 b4 (j6.back hF5 b6 (j7.back hF7 b7 (j10.back hF8 b10 (j11.back hF11 b11 (j13.back hF12 b13 (j14.back hF14 b14 (j15.back hF15 b15 hj)))))))))))).cells
            obtain ⟨r0, r1⟩ := HR.out
            clear hj
            go_simp
            have hqm := HQM.out
            clear HQM
            split <;> omega
          simp only [Act.put, List.setIfInBounds_toArray, List.set_cons_zero, List.set_cons_succ]
          refine wpJ_takeL (i := 26) (v := ?_) rfl (by kernel_rfl) (by kernel_rfl) (by kernel_rfl) (fun _ _ _ h => h) hF16 (Or.inl ⟨by rfl, ?_⟩) ?_
          rotate_left
          focus
            intro W' hj
            obtain ⟨y0, y1, y2, y3, y4⟩ := (HB5.out.call (Jmp.low (j1.back hF0 b1 (j2.back hF2 b2 (j4.back hF3 b4 (j6.back hF5 b6 (j7.back hF7 b7 (j10.back hF8 b10 (j11.back hF11 b11 (j13.back hF12 b13 (j14.back hF14 b14 (j15.back hF15 b15 hj)))))))))))).cells
            obtain ⟨z0, z1, z2, z3⟩ := (HSU5.out.call (Jmp.low (j1.back hF0 b1 (j2.back hF2 b2 (j4.back hF3 b4 (j6.back hF5 b6 (j7.back hF7 b7 (j10.back hF8 b10 (j11.back hF11 b11 (j13.back hF12 b13 (j14.back hF14 b14 (j15.back hF15 b15 hj)))))))))))).cells
            obtain ⟨r0, r1⟩ := HR.out
            clear hj
            go_simp
            try with_reducible rfl
          simp only [Act.put, List.setIfInBounds_toArray, List.set_cons_zero, List.set_cons_succ]
          refine wpJ_takeL (i := 27) (v := ?_) rfl (by kernel_rfl) (by kernel_rfl) (by kernel_rfl) (fun _ _ _ h => h) hF16 (Or.inl ⟨by rfl, ?_⟩) ?_
          rotate_left
          focus
            intro W' hj
            obtain ⟨y0, y1, y2, y3, y4⟩ := (HB5.out.call (Jmp.low (j1.back hF0 b1 (j2.back hF2 b2 (j4.back hF3 b4 (j6.back hF5 b6 (j7.back hF7 b7 (j10.back hF8 b10 (j11.back hF11 b11 (j13.back hF12 b13 (j14.back hF14 b14 (j15.back hF15 b15 hj)))))))))))).cells
            obtain ⟨z0, z1, z2, z3⟩ := (HSU5.out.call (Jmp.low (j1.back hF0 b1 (j2.back hF2 b2 (j4.back hF3 b4 (j6.back hF5 b6 (j7.back hF7 b7 (j10.back hF8 b10 (j11.back hF11 b11 (j13.back hF12 b13 (j14.back hF14 b14 (j15.back hF15 b15 hj)))))))))))).cells
            obtain ⟨r0, r1⟩ := HR.out
            clear hj
            go_simp
            try with_reducible rfl
          simp only [Act.put, List.setIfInBounds_toArray, List.set_cons_zero, List.set_cons_succ]
          refine wpJ_takeL (i := 28) (v := ?_) rfl (by kernel_rfl) (by kernel_rfl) (by kernel_rfl) (fun _ _ _ h => h) hF16 (Or.inl ⟨by rfl, ?_⟩) ?_
          rotate_left
          focus
            intro W' hj
            obtain ⟨y0, y1, y2, y3, y4⟩ := (HB5.out.call (Jmp.low (j1.back hF0 b1 (j2.back hF2 b2 (j4.back hF3 b4 (j6.back hF5 b6 (j7.back hF7 b7 (j10.back hF8 b10 (j11.back hF11 b11 (j13.back hF12 b13 (j14.back hF14 b14 (j15.back hF15 b15 hj)))))))))))).cells
            obtain ⟨z0, z1, z2, z3⟩ := (HSU5.out.call (Jmp.low (j1.back hF0 b1 (j2.back hF2 b2 (j4.back hF3 b4 (j6.back hF5 b6 (j7.back hF7 b7 (j10.back hF8 b10 (j11.back hF11 b11 (j13.back hF12 b13 (j14.back hF14 b14 (j15.back hF15 b15 hj)))))))))))).cells
            obtain ⟨r0, r1⟩ := HR.out
            clear hj
            go_simp
            try with_reducible rfl
          simp only [Act.put, List.setIfInBounds_toArray, List.set_cons_zero, List.set_cons_succ]
          refine wpJ_takeL (i := 29) (v := ?_) rfl (by kernel_rfl) (by kernel_rfl) (by kernel_rfl) (fun _ _ _ h => h) hF16 (Or.inl ⟨by rfl, ?_⟩) ?_
          rotate_left
          focus
            intro W' hj
            obtain ⟨y0, y1, y2, y3, y4⟩ := (HB5.out.call (Jmp.low (j1.back hF0 b1 (j2.back hF2 b2 (j4.back hF3 b4 (j6.back hF5 b6 (j7.back hF7 b7 (j10.back hF8 b10 (j11.back hF11 b11 (j13.back hF12 b13 (j14.back hF14 b14 (j15.back hF15 b15 hj)))))))))))).cells
            obtain ⟨z0, z1, z2, z3⟩ := (HSU5.out.call (Jmp.low (j1.back hF0 b1 (j2.back hF2 b2 (j4.back hF3 b4 (j6.back hF5 b6 (j7.back hF7 b7 (j10.back hF8 b10 (j11.back hF11 b11 (j13.back hF12 b13 (j14.back hF14 b14 (j15.back hF15 b15 hj)))))))))))).cells
            obtain ⟨r0, r1⟩ := HR.out
            clear hj
            go_simp
            try with_reducible rfl
          simp only [Act.put, List.setIfInBounds_toArray, List.set_cons_zero, List.set_cons_succ]
          refine wpJ_takeL (i := 30) (v := ?_) rfl (by kernel_rfl) (by kernel_rfl) (by kernel_rfl) (fun _ _ _ h => h) hF16 (Or.inl ⟨by rfl, ?_⟩) ?_
          rotate_left
          focus
            intro W' hj
            obtain ⟨y0, y1, y2, y3, y4⟩ := (HB5.out.call (Jmp.low (j1.back hF0 b1 (j2.back hF2 b2 (j4.back hF3 b4 (j6.back hF5 b6 (j7.back hF7 b7 (j10.back hF8 b10 (j11.back hF11 b11 (j13.back hF12 b13 (j14.back hF14 b14 (j15.back hF15 b15 hj)))))))))))).cells
            obtain ⟨z0, z1, z2, z3⟩ := (HSU5.out.call (Jmp.low (j1.back hF0 b1 (j2.back hF2 b2 (j4.back hF3 b4 (j6.back hF5 b6 (j7.back hF7 b7 (j10.back hF8 b10 (j11.back hF11 b11 (j13.back hF12 b13 (j14.back hF14 b14 (j15.back hF15 b15 hj)))))))))))).cells
            obtain ⟨r0, r1⟩ := HR.out
            clear hj
            go_simp
            try with_reducible rfl
          simp only [Act.put, List.setIfInBounds_toArray, List.set_cons_zero, List.set_cons_succ]
          refine wpJ_takeL (i := 31) (v := ?_) rfl (by kernel_rfl) (by kernel_rfl) (by kernel_rfl) (fun _ _ _ h => h) hF16 (Or.inl ⟨by rfl, ?_⟩) ?_
          rotate_left
          focus
            intro W' hj
            obtain ⟨y0, y1, y2, y3, y4⟩ := (HB5.out.call (Jmp.low (j1.back hF0 b1 (j2.back hF2 b2 (j4.back hF3 b4 (j6.back hF5 b6 (j7.back hF7 b7 (j10.back hF8 b10 (j11.back hF11 b11 (j13.back hF12 b13 (j14.back hF14 b14 (j15.back hF15 b15 hj)))))))))))).cells
            obtain ⟨z0, z1, z2, z3⟩ := (HSU5.out.call (Jmp.low (j1.back hF0 b1 (j2.back hF2 b2 (j4.back hF3 b4 (j6.back hF5 b6 (j7.back hF7 b7 (j10.back hF8 b10 (j11.back hF11 b11 (j13.back hF12 b13 (j14.back hF14 b14 (j15.back hF15 b15 hj)))))))))))).cells
            obtain ⟨r0, r1⟩ := HR.out
            clear hj
            go_simp
            try with_reducible rfl
          simp only [Act.put, List.setIfInBounds_toArray, List.set_cons_zero, List.set_cons_succ]
          refine wpJ_takeL (i := 32) (v := ?_) rfl (by kernel_rfl) (by kernel_rfl) (by kernel_rfl) (fun _ _ _ h => h) hF16 (Or.inl ⟨by rfl, ?_⟩) ?_
          rotate_left
          focus
            intro W' hj
            obtain ⟨y0, y1, y2, y3, y4⟩ := (HB5.out.call (Jmp.low (j1.back hF0 b1 (j2.back hF2 b2 (j4.back hF3 b4 (j6.back hF5 b6 (j7.back hF7 b7 (j10.back hF8 b10 (j11.back hF11 b11 (j13.back hF12 b13 (j14.back hF14 b14 (j15.back hF15 b15 hj)))))))))))).cells
            obtain ⟨z0, z1, z2, z3⟩ := (HSU5.out.call (Jmp.low (j1.back hF0 b1 (j2.back hF2 b2 (j4.back hF3 b4 (j6.back hF5 b6 (j7.back hF7 b7 (j10.back hF8 b10 (j11.back hF11 b11 (j13.back hF12 b13 (j14.back hF14 b14 (j15.back hF15 b15 hj)))))))))))).cells
            obtain ⟨r0, r1⟩ := HR.out
            clear hj
            go_simp
            try with_reducible rfl
          simp only [Act.put, List.setIfInBounds_toArray, List.set_cons_zero, List.set_cons_succ]
          refine wpJ_end (by kernel_rfl) (fun wz jz => ?_) _
          have hz := (HB5.out.call (Jmp.low (j1.back hF0 b1 (j2.back hF2 b2 (j4.back hF3 b4 (j6.back hF5 b6 (j7.back hF7 b7 (j10.back hF8 b10 (j11.back hF11 b11 (j13.back hF12 b13 (j14.back hF14 b14 (j15.back hF15 b15 jz)))))))))))).below
          refine ⟨by kernel_rfl, ?_⟩
          go_wp2
          go_ret
          exact ⟨rfl, hz⟩
end Go.Proofs.Ytedbjkjncfinnaa
