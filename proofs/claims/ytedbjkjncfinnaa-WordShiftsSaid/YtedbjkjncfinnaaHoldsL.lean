/-
  Layer 15's law: few; where a property holds.
-/
import Derived.Test.YtedbjkjncfinnaaAlive
import Derived.Test.YtedbjkjncfinnaaRefB
import Derived.Test.YtedbjkjncfinnaaRefW
import Derived.Test.YtedbjkjncfinnaaRefH
import Derived.Deep.DeepCutAuto
namespace Go.Proofs.Ytedbjkjncfinnaa
open Go.RowKit

theorem rsize_le (f : Ltl) (k p : Int) (A : Option Addr) (n c l : Nat) (L : Int) (w : World) (m : Nat) (hm : f.norm.size = m) (h : m ≤ l) (hl : l ≤ 1000000) (hL : L = l) (hf : Ltl.Is w (Lt w.heap.size) f [.int .i64 k, .int .i64 p, .slice A n c]) :
    Calls Try.prog 14 #[.agg #[.int .i64 k, .int .i64 p, .slice A n c], .int .i64 L] w fun e w' => e = .returned (.int .i64 (m : Int)) ∧ Below w.heap.size w w' := by
  subst hm hL
  have := rsize_any f k p A n c (l : Int) w (Lt w.heap.size) (by omega) (by omega) (Bd.lt w) hf
  rwa [Int.toNat_natCast, Nat.min_eq_left (by omega)] at this
theorem rsize_gt (f : Ltl) (k p : Int) (A : Option Addr) (n c l : Nat) (L : Int) (w : World) (h : l < f.norm.size) (hl : l ≤ 1000000) (hL : L = l) (hf : Ltl.Is w (Lt w.heap.size) f [.int .i64 k, .int .i64 p, .slice A n c]) :
    Calls Try.prog 14 #[.agg #[.int .i64 k, .int .i64 p, .slice A n c], .int .i64 L] w fun e w' => e = .returned (.int .i64 ((l + 1 : Nat) : Int)) ∧ Below w.heap.size w w' := by
  subst hL
  have := rsize_any f k p A n c (l : Int) w (Lt w.heap.size) (by omega) (by omega) (Bd.lt w) hf
  rwa [Int.toNat_natCast, Nat.min_eq_right (by omega)] at this

/-- The boxes of a property and of a word. -/
structure BxW (w : World) (f : Ltl) (x : Wd) (k p : Int) (K : Option Addr) (n e : Nat) (A B : Option Addr) (c d : Nat) (W : World) : Prop where
  below : Below w.heap.size w W
  b1 : Blk W w.heap.size 24 #[.int .i64 k, .int .i64 p, .slice K n e]
  b2 : Blk W (w.heap.size + 1) 27 #[.slice A x.stem.length c, .slice B x.cycle.length d]
  hf : Ltl.Is W (Lt W.heap.size) f [.int .i64 k, .int .i64 p, .slice K n e]
  hw : WdIs W (Lt W.heap.size) x (.slice A x.stem.length c) (.slice B x.cycle.length d)
section
variable {w W W' : World} {f : Ltl} {x : Wd} {k p : Int} {K : Option Addr} {n e : Nat} {A B : Option Addr} {c d : Nat}
theorem BxW.call (h : BxW w f x k p K n e A B c d W) (hb : Below W.heap.size W W') : BxW w f x k p K n e A B c d W' := ⟨below_call h.below hb, h.b1.call hb, h.b2.call hb, lt_call h.hf hb, wd_call h.hw hb⟩
theorem BxW.cells (h : BxW w f x k p K n e A B c d W) : W.cell? ⟨w.heap.size, 0, none⟩ = some (.int .i64 k) ∧ W.cell? ⟨w.heap.size, 1, none⟩ = some (.int .i64 p) ∧ W.cell? ⟨w.heap.size, 2, none⟩ = some (.slice K n e) ∧
    W.cell? ⟨w.heap.size + 1, 0, none⟩ = some (.slice A x.stem.length c) ∧ W.cell? ⟨w.heap.size + 1, 1, none⟩ = some (.slice B x.cycle.length d) := by
  rw [h.b1.cell, h.b1.cell, h.b1.cell, h.b2.cell, h.b2.cell]
  exact ⟨rfl, rfl, rfl, rfl, rfl⟩
theorem BxW.new (hf : Ltl.Is w (Lt w.heap.size) f [.int .i64 k, .int .i64 p, .slice K n e]) (hw : WdIs w (Lt w.heap.size) x (.slice A x.stem.length c) (.slice B x.cycle.length d)) :
    BxW w f x k p K n e A B c d ((w.alloc (.cells #[.int .i64 k, .int .i64 p, .slice K n e] 24)).alloc (.cells #[.slice A x.stem.length c, .slice B x.cycle.length d] 27)) := by
  obtain ⟨q1, q2, q3, _⟩ := box_pair w 24 27 #[.int .i64 k, .int .i64 p, .slice K n e] #[.slice A x.stem.length c, .slice B x.cycle.length d]
  exact ⟨q3, q1, q2, lt_call hf q3, wd_call hw q3⟩
end

/-- Few properties, and a small word. -/
def smallB (f : Ltl) (x : Wd) : Bool := decide (f.norm.size ≤ 14) && decide ((f.norm.deep : Int) ≤ 5) && x.few 7
theorem small_size {f : Ltl} {x : Wd} (h : smallB f x = true) : x.size ≤ 7 ∧ (∀ l ∈ x.stem, l.length ≤ 100) ∧ ∀ l ∈ x.cycle, l.length ≤ 100 := by
  unfold smallB Wd.few at h
  simp only [Bool.and_eq_true, decide_eq_true_eq, List.all_eq_true] at h
  exact ⟨h.2.1.1, h.2.1.2, h.2.2⟩

set_option maxRecDepth 100000 in
set_option maxHeartbeats 2000000 in
theorem few15_any (f : Ltl) (x : Wd) (k p : Int) (K : Option Addr) (n e : Nat) (A B : Option Addr) (c d : Nat) (w : World) (hbig : x.size ≤ 9223372036854775807)
    (hf : Ltl.Is w (Lt w.heap.size) f [.int .i64 k, .int .i64 p, .slice K n e]) (hw : WdIs w (Lt w.heap.size) x (.slice A x.stem.length c) (.slice B x.cycle.length d)) :
    Calls Try.prog 10 #[.agg #[.int .i64 k, .int .i64 p, .slice K n e], .agg #[.slice A x.stem.length c, .slice B x.cycle.length d]] w fun e w' => e = .returned (.bool (smallB f x)) ∧ Below w.heap.size w w' := by
  have HB0 := Lib.hid (BxW.new hf hw)
  clear hf hw
  obtain ⟨c0, c1, c2, c3, c4⟩ := HB0.out.cells
  have HS := Lib.hid (show smallB f x = (decide (f.norm.size ≤ 14) && decide ((f.norm.deep : Int) ≤ 5) && x.few 7) from rfl)
  go_enter Try.func10, Try.ntmps10
  go_wp2_with fail
  generalize ((w.alloc (.cells #[.int .i64 k, .int .i64 p, .slice K n e] 24)).alloc (.cells #[.slice A x.stem.length c, .slice B x.cycle.length d] 27)) = W0 at *
  by_cases hsf : f.norm.size ≤ 14
  · refine (rsize_le f k p K n e 14 14 W0 f.norm.size rfl hsf (by decide) rfl HB0.out.hf).mono ?_
    rintro e1 w1 ⟨rfl, b1⟩
    have HB1 := Lib.hid (HB0.out.call b1)
    clear b1 c0 c1 c2 c3 c4
    obtain ⟨c0, c1, c2, c3, c4⟩ := HB1.out.cells
    have q1 : decide ((f.norm.size : Int) ≤ 14) = true := by rw [decide_eq_true_eq]; omega
    have HSF := Lib.hid (show decide (f.norm.size ≤ 14) = true by simpa using hsf)
    clear hsf
    go_wp2_with fail
    refine (rdeep_any f k p K n e 5 w1 (Lt w1.heap.size) (by decide) (by decide) (Bd.lt _) HB1.out.hf).mono ?_
    rintro e2 w2 ⟨rfl, b2⟩
    have HB2 := Lib.hid (HB1.out.call b2)
    clear b2 c0 c1 c2 c3 c4
    obtain ⟨c0, c1, c2, c3, c4⟩ := HB2.out.cells
    generalize hdp : decide ((f.norm.deep : Int) ≤ 5) = dp at *
    have HDP := Lib.hid hdp
    clear hdp
    cases dp with
    | true =>
      go_wp2_with fail
      refine (as_any _ _ A B x.stem.length x.cycle.length c d w2 rfl rfl).mono ?_
      rintro e3 w3 ⟨rfl, b3⟩
      have HB3 := Lib.hid (HB2.out.call b3)
      clear b3 c0 c1 c2 c3 c4
      go_wp2_with fail
      refine (few_any x A B c d 7 w3 (Lt w3.heap.size) (by decide) (Bd.lt _) HB3.out.hw hbig).mono ?_
      rintro e4 w4 ⟨rfl, b4⟩
      have HB4 := Lib.hid (HB3.out.call b4)
      clear b4
      go_wp2_with fail
      go_ret
      exact ⟨by rw [HS.out, HSF.out]; rfl, HB4.out.below⟩
    | false =>
      go_wp2_with fail
      go_ret
      exact ⟨by rw [HS.out, HSF.out]; rfl, HB2.out.below⟩
  · refine (rsize_gt f k p K n e 14 14 W0 (by omega) (by decide) rfl HB0.out.hf).mono ?_
    rintro e1 w1 ⟨rfl, b1⟩
    have HB1 := Lib.hid (HB0.out.call b1)
    clear b1 c0 c1 c2 c3 c4
    have HSF := Lib.hid (show decide (f.norm.size ≤ 14) = false by simpa using hsf)
    clear hsf
    go_wp2
    go_ret
    exact ⟨by rw [HS.out, HSF.out]; rfl, HB1.out.below⟩

theorem rholds_val (x : Wd) (f : Ltl) (k p : Int) (K : Option Addr) (n e : Nat) (A B : Option Addr) (c d : Nat) (I : Int) (j : Nat) (w : World) (v : Bool) (hI : I = j) (hv : f.norm.sat x j = v) (hx : x.size ≤ 1000000000) (h0 : 0 < x.cycle.length) (hj : j ≤ 9223372036854775807)
    (hf : Ltl.Is w (Lt w.heap.size) f [.int .i64 k, .int .i64 p, .slice K n e]) (hw : WdIs w (Lt w.heap.size) x (.slice A x.stem.length c) (.slice B x.cycle.length d)) :
    Calls Try.prog 12 #[.agg #[.int .i64 k, .int .i64 p, .slice K n e], .agg #[.slice A x.stem.length c, .slice B x.cycle.length d], .int .i64 I] w fun e' w' => e' = .returned (.bool v) ∧ Below w.heap.size w w' := by
  subst hI hv
  exact rholds_up x A B c d hx h0 _ f.norm (Nat.le_refl _) f k p K n e (Lt w.heap.size) w j (Bd.lt w) rfl hf hw hj
theorem wholds_none2 (k p : Int) (K : Option Addr) (n e : Nat) (A B : Option Addr) (a c m d : Nat) (i : Int) (w : World) (hm : m = 0) :
    Calls Try.prog 11 #[.agg #[.int .i64 k, .int .i64 p, .slice K n e], .agg #[.slice A a c, .slice B m d], .int .i64 i] w fun e w' => e = .returned (.bool false) ∧ Below w.heap.size w w' := by
  subst hm
  exact wholds_none k p K n e A B a c d i w
set_option maxRecDepth 100000 in
set_option maxHeartbeats 4000000 in
theorem wordHolds_any (f : Ltl) (x : Wd) (k p : Int) (K : Option Addr) (n e : Nat) (A B : Option Addr) (c d : Nat) (i : Int) (w : World) (hbig : x.size ≤ 9223372036854775807) (hi : i ≤ 9223372036854775807)
    (hf : Ltl.Is w (Lt w.heap.size) f [.int .i64 k, .int .i64 p, .slice K n e]) (hw : WdIs w (Lt w.heap.size) x (.slice A x.stem.length c) (.slice B x.cycle.length d)) :
    Calls Try.prog 3 #[.agg #[.int .i64 k, .int .i64 p, .slice K n e], .agg #[.slice A x.stem.length c, .slice B x.cycle.length d], .int .i64 i] w fun e w' => e = .returned (.bool true) ∧ Below w.heap.size w w' := by
  have HB0 := Lib.hid (BxW.new hf hw)
  clear hf hw
  go_enter Try.func3, Try.ntmps3
  go_wp2_with fail
  generalize ((w.alloc (.cells #[.int .i64 k, .int .i64 p, .slice K n e] 24)).alloc (.cells #[.slice A x.stem.length c, .slice B x.cycle.length d] 27)) = W0 at *
  refine (alive15_any W0).mono ?_
  rintro e1 w1 ⟨rfl, b1⟩
  have HB1 := Lib.hid (HB0.out.call b1)
  clear b1
  obtain ⟨c0, c1, c2, c3, c4⟩ := HB1.out.cells
  go_wp2_with fail
  refine (few15_any f x k p K n e A B c d w1 hbig HB1.out.hf HB1.out.hw).mono ?_
  rintro e2 w2 ⟨rfl, b2⟩
  have HB2 := Lib.hid (HB1.out.call b2)
  clear b2 c0 c1 c2 c3 c4
  obtain ⟨c0, c1, c2, c3, c4⟩ := HB2.out.cells
  cases hsb : smallB f x with
  | false =>
    clear hsb
    go_wp2
    go_ret
    exact ⟨rfl, HB2.out.below⟩
  | true =>
    have hsm := (small_size hsb).1
    clear hsb
    by_cases h0 : x.cycle.length = 0
    · have hq : ((x.cycle.length : Int) == 0) = true := by simpa using h0
      have H0 := Lib.hid h0
      clear h0
      go_wp2_with fail
      refine (wholds_none2 k p K n e A B _ c _ d i w2 ?hz).mono ?_
      case hz => first | rfl | exact H0.out
      rintro e3 w3 ⟨rfl, b3⟩
      have hb := below_call HB2.out.below b3
      clear b3
      go_wp2
      go_ret
      exact ⟨rfl, hb⟩
    · have hq : ((x.cycle.length : Int) == 0) = false := by simpa using h0
      have H0 := Lib.hid (show 0 < x.cycle.length by omega)
      clear h0
      go_wp2_with fail
      clear c0 c1 c2 c3 c4
      rcases Int.lt_or_le i 0 with hneg | hpos
      · skip
        refine wp_region_jump (L := #[false, false, false, false, false, false, false, false, false, false, false, true]) 11 (by kernel_rfl) (by kernel_rfl) (by kernel_rfl) ?_
        have hF0 : ∀ k, Lt w2.drew.heap.size k → k < w2.drew.heap.size := fun _ h => h
        refine wpJ_takeL (i := 0) (v := ?_) rfl (by kernel_rfl) (by kernel_rfl) (by kernel_rfl) (fun _ _ _ h => h) hF0 (Or.inl ⟨by rfl, ?_⟩) ?_
        rotate_left
        focus
          intro W' hj
          obtain ⟨c0, c1, c2, c3, c4⟩ := (HB2.out.call (Jmp.low hj)).cells
          clear hj
          go_simp
          try with_reducible rfl
        simp only [Act.put, List.setIfInBounds_toArray, List.set_cons_zero, List.set_cons_succ]
        refine wpJ_takeL (i := 1) (v := ?_) rfl (by kernel_rfl) (by kernel_rfl) (by kernel_rfl) (fun _ _ _ h => h) hF0 (Or.inl ⟨by rfl, ?_⟩) ?_
        rotate_left
        focus
          intro W' hj
          obtain ⟨c0, c1, c2, c3, c4⟩ := (HB2.out.call (Jmp.low hj)).cells
          clear hj
          go_simp
          try with_reducible rfl
        simp only [Act.put, List.setIfInBounds_toArray, List.set_cons_zero, List.set_cons_succ]
        refine wpJ_takeL (i := 2) (v := ?_) rfl (by kernel_rfl) (by kernel_rfl) (by kernel_rfl) (fun _ _ _ h => h) hF0 (Or.inl ⟨by rfl, ?_⟩) ?_
        rotate_left
        focus
          intro W' hj
          obtain ⟨c0, c1, c2, c3, c4⟩ := (HB2.out.call (Jmp.low hj)).cells
          clear hj
          go_simp
          try with_reducible rfl
        simp only [Act.put, List.setIfInBounds_toArray, List.set_cons_zero, List.set_cons_succ]
        refine wpJ_takeL (i := 4) (v := ?_) rfl (by kernel_rfl) (by kernel_rfl) (by kernel_rfl) (fun _ _ _ h => h) hF0 (Or.inl ⟨by rfl, ?_⟩) ?_
        rotate_left
        focus
          intro W' hj
          obtain ⟨c0, c1, c2, c3, c4⟩ := (HB2.out.call (Jmp.low hj)).cells
          clear hj
          go_simp
          try with_reducible rfl
        simp only [Act.put, List.setIfInBounds_toArray, List.set_cons_zero, List.set_cons_succ]
        refine wpJ_takeL (i := 5) (v := ?_) rfl (by kernel_rfl) (by kernel_rfl) (by kernel_rfl) (fun _ _ _ h => h) hF0 (Or.inl ⟨by rfl, ?_⟩) ?_
        rotate_left
        focus
          intro W' hj
          obtain ⟨c0, c1, c2, c3, c4⟩ := (HB2.out.call (Jmp.low hj)).cells
          clear hj
          go_simp
          try with_reducible rfl
        simp only [Act.put, List.setIfInBounds_toArray, List.set_cons_zero, List.set_cons_succ]
        refine wpJ_takeL (i := 7) (v := ?_) rfl (by kernel_rfl) (by kernel_rfl) (by kernel_rfl) (fun _ _ _ h => h) hF0 (Or.inl ⟨by rfl, ?_⟩) ?_
        rotate_left
        focus
          intro W' hj
          obtain ⟨c0, c1, c2, c3, c4⟩ := (HB2.out.call (Jmp.low hj)).cells
          clear hj
          go_simp
          try with_reducible rfl
        simp only [Act.put, List.setIfInBounds_toArray, List.set_cons_zero, List.set_cons_succ]
        refine wpJ_takeL (i := 8) (v := ?_) rfl (by kernel_rfl) (by kernel_rfl) (by kernel_rfl) (fun _ _ _ h => h) hF0 (Or.inl ⟨by rfl, ?_⟩) ?_
        rotate_left
        focus
          intro W' hj
          obtain ⟨c0, c1, c2, c3, c4⟩ := (HB2.out.call (Jmp.low hj)).cells
          clear hj
          go_simp
          try with_reducible rfl
        simp only [Act.put, List.setIfInBounds_toArray, List.set_cons_zero, List.set_cons_succ]
        refine wpJ_callL (i := 3) (by kernel_rfl) rfl fun v3 j3 K3 k3 => ?_
        go_wp2_with fail
        refine (wholds_val x f k p K n e A B c d i v3 (f.norm.sat x i.toNat) rfl (by omega) H0.out hi (HB2.out.call (Jmp.low j3)).hf (HB2.out.call (Jmp.low j3)).hw).mono ?_
        rintro e3' w3' ⟨rfl, b3⟩
        go_wp2_with fail
        refine k3.out _ _ b3 ?_
        clear k3
        have hF4 := grow_F (j3.grow hF0) b3.size
        refine wpJ_callL (i := 6) (by kernel_rfl) rfl fun v6 j6 K6 k6 => ?_
        go_wp2_with fail
        refine (as_any _ _ A B x.stem.length x.cycle.length c d v6 rfl rfl).mono ?_
        rintro e6' w6' ⟨rfl, b6⟩
        go_wp2_with fail
        refine k6.out _ _ b6 ?_
        clear k6
        have hF7 := grow_F (j6.grow hF4) b6.size
        refine wpJ_callL (i := 9) (by kernel_rfl) rfl fun v9 j9 K9 k9 => ?_
        go_wp2_with fail
        refine (rholds_val x f k p K n e A B c d _ i.toNat v9 (f.norm.sat x i.toNat) (by omega) rfl (by omega) H0.out (by omega) (HB2.out.call (Jmp.low (j3.back hF0 b3 (j6.back hF4 b6 j9)))).hf (HB2.out.call (Jmp.low (j3.back hF0 b3 (j6.back hF4 b6 j9)))).hw).mono ?_
        rintro e9' w9' ⟨rfl, b9⟩
        go_wp2_with fail
        refine k9.out _ _ b9 ?_
        clear k9
        have hF10 := grow_F (j9.grow hF7) b9.size
        refine wpJ_takeL (i := 10) (v := ?_) rfl (by kernel_rfl) (by kernel_rfl) (by kernel_rfl) (fun _ _ _ h => h) hF10 (Or.inl ⟨by rfl, ?_⟩) ?_
        rotate_left
        focus
          intro W' hj
          obtain ⟨c0, c1, c2, c3, c4⟩ := (HB2.out.call (Jmp.low (j3.back hF0 b3 (j6.back hF4 b6 (j9.back hF7 b9 hj))))).cells
          clear hj
          go_simp
          try with_reducible rfl
        simp only [Act.put, List.setIfInBounds_toArray, List.set_cons_zero, List.set_cons_succ]
        refine wpJ_end (by kernel_rfl) (fun wz jz => ?_) _
        have hz := (HB2.out.call (Jmp.low (j3.back hF0 b3 (j6.back hF4 b6 (j9.back hF7 b9 jz))))).below
        refine ⟨by kernel_rfl, ?_⟩
        go_wp2
        go_ret
        exact ⟨rfl, hz⟩

      · have hnn : ¬ i < 0 := by omega
        refine wp_region_jump (L := #[false, false, false, false, false, false, false, false, false, false, false, true]) 11 (by kernel_rfl) (by kernel_rfl) (by kernel_rfl) ?_
        have hF0 : ∀ k, Lt w2.drew.heap.size k → k < w2.drew.heap.size := fun _ h => h
        refine wpJ_takeL (i := 0) (v := ?_) rfl (by kernel_rfl) (by kernel_rfl) (by kernel_rfl) (fun _ _ _ h => h) hF0 (Or.inl ⟨by rfl, ?_⟩) ?_
        rotate_left
        focus
          intro W' hj
          obtain ⟨c0, c1, c2, c3, c4⟩ := (HB2.out.call (Jmp.low hj)).cells
          clear hj
          go_simp
          try with_reducible rfl
        simp only [Act.put, List.setIfInBounds_toArray, List.set_cons_zero, List.set_cons_succ]
        refine wpJ_takeL (i := 1) (v := ?_) rfl (by kernel_rfl) (by kernel_rfl) (by kernel_rfl) (fun _ _ _ h => h) hF0 (Or.inl ⟨by rfl, ?_⟩) ?_
        rotate_left
        focus
          intro W' hj
          obtain ⟨c0, c1, c2, c3, c4⟩ := (HB2.out.call (Jmp.low hj)).cells
          clear hj
          go_simp
          try with_reducible rfl
        simp only [Act.put, List.setIfInBounds_toArray, List.set_cons_zero, List.set_cons_succ]
        refine wpJ_takeL (i := 2) (v := ?_) rfl (by kernel_rfl) (by kernel_rfl) (by kernel_rfl) (fun _ _ _ h => h) hF0 (Or.inl ⟨by rfl, ?_⟩) ?_
        rotate_left
        focus
          intro W' hj
          obtain ⟨c0, c1, c2, c3, c4⟩ := (HB2.out.call (Jmp.low hj)).cells
          clear hj
          go_simp
          try with_reducible rfl
        simp only [Act.put, List.setIfInBounds_toArray, List.set_cons_zero, List.set_cons_succ]
        refine wpJ_takeL (i := 4) (v := ?_) rfl (by kernel_rfl) (by kernel_rfl) (by kernel_rfl) (fun _ _ _ h => h) hF0 (Or.inl ⟨by rfl, ?_⟩) ?_
        rotate_left
        focus
          intro W' hj
          obtain ⟨c0, c1, c2, c3, c4⟩ := (HB2.out.call (Jmp.low hj)).cells
          clear hj
          go_simp
          try with_reducible rfl
        simp only [Act.put, List.setIfInBounds_toArray, List.set_cons_zero, List.set_cons_succ]
        refine wpJ_takeL (i := 5) (v := ?_) rfl (by kernel_rfl) (by kernel_rfl) (by kernel_rfl) (fun _ _ _ h => h) hF0 (Or.inl ⟨by rfl, ?_⟩) ?_
        rotate_left
        focus
          intro W' hj
          obtain ⟨c0, c1, c2, c3, c4⟩ := (HB2.out.call (Jmp.low hj)).cells
          clear hj
          go_simp
          try with_reducible rfl
        simp only [Act.put, List.setIfInBounds_toArray, List.set_cons_zero, List.set_cons_succ]
        refine wpJ_takeL (i := 7) (v := ?_) rfl (by kernel_rfl) (by kernel_rfl) (by kernel_rfl) (fun _ _ _ h => h) hF0 (Or.inl ⟨by rfl, ?_⟩) ?_
        rotate_left
        focus
          intro W' hj
          obtain ⟨c0, c1, c2, c3, c4⟩ := (HB2.out.call (Jmp.low hj)).cells
          clear hj
          go_simp
          try with_reducible rfl
        simp only [Act.put, List.setIfInBounds_toArray, List.set_cons_zero, List.set_cons_succ]
        refine wpJ_takeL (i := 8) (v := ?_) rfl (by kernel_rfl) (by kernel_rfl) (by kernel_rfl) (fun _ _ _ h => h) hF0 (Or.inl ⟨by rfl, ?_⟩) ?_
        rotate_left
        focus
          intro W' hj
          obtain ⟨c0, c1, c2, c3, c4⟩ := (HB2.out.call (Jmp.low hj)).cells
          clear hj
          go_simp
          try with_reducible rfl
        simp only [Act.put, List.setIfInBounds_toArray, List.set_cons_zero, List.set_cons_succ]
        refine wpJ_callL (i := 3) (by kernel_rfl) rfl fun v3 j3 K3 k3 => ?_
        go_wp2_with fail
        refine (wholds_val x f k p K n e A B c d i v3 (f.norm.sat x i.toNat) rfl (by omega) H0.out hi (HB2.out.call (Jmp.low j3)).hf (HB2.out.call (Jmp.low j3)).hw).mono ?_
        rintro e3' w3' ⟨rfl, b3⟩
        go_wp2_with fail
        refine k3.out _ _ b3 ?_
        clear k3
        have hF4 := grow_F (j3.grow hF0) b3.size
        refine wpJ_callL (i := 6) (by kernel_rfl) rfl fun v6 j6 K6 k6 => ?_
        go_wp2_with fail
        refine (as_any _ _ A B x.stem.length x.cycle.length c d v6 rfl rfl).mono ?_
        rintro e6' w6' ⟨rfl, b6⟩
        go_wp2_with fail
        refine k6.out _ _ b6 ?_
        clear k6
        have hF7 := grow_F (j6.grow hF4) b6.size
        refine wpJ_callL (i := 9) (by kernel_rfl) rfl fun v9 j9 K9 k9 => ?_
        go_wp2_with fail
        refine (rholds_val x f k p K n e A B c d _ i.toNat v9 (f.norm.sat x i.toNat) (by omega) rfl (by omega) H0.out (by omega) (HB2.out.call (Jmp.low (j3.back hF0 b3 (j6.back hF4 b6 j9)))).hf (HB2.out.call (Jmp.low (j3.back hF0 b3 (j6.back hF4 b6 j9)))).hw).mono ?_
        rintro e9' w9' ⟨rfl, b9⟩
        go_wp2_with fail
        refine k9.out _ _ b9 ?_
        clear k9
        have hF10 := grow_F (j9.grow hF7) b9.size
        refine wpJ_takeL (i := 10) (v := ?_) rfl (by kernel_rfl) (by kernel_rfl) (by kernel_rfl) (fun _ _ _ h => h) hF10 (Or.inl ⟨by rfl, ?_⟩) ?_
        rotate_left
        focus
          intro W' hj
          obtain ⟨c0, c1, c2, c3, c4⟩ := (HB2.out.call (Jmp.low (j3.back hF0 b3 (j6.back hF4 b6 (j9.back hF7 b9 hj))))).cells
          clear hj
          go_simp
          try with_reducible rfl
        simp only [Act.put, List.setIfInBounds_toArray, List.set_cons_zero, List.set_cons_succ]
        refine wpJ_end (by kernel_rfl) (fun wz jz => ?_) _
        have hz := (HB2.out.call (Jmp.low (j3.back hF0 b3 (j6.back hF4 b6 (j9.back hF7 b9 jz))))).below
        refine ⟨by kernel_rfl, ?_⟩
        go_wp2
        go_ret
        exact ⟨rfl, hz⟩
end Go.Proofs.Ytedbjkjncfinnaa
