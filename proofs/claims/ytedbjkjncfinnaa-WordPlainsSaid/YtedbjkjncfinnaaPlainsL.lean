/-
  Layer 15's law: what is plain, the size.
-/
import Derived.Test.YtedbjkjncfinnaaAlive
import Derived.Test.YtedbjkjncfinnaaRefB
import Derived.Test.YtedbjkjncfinnaaRefC
import Derived.Test.YtedbjkjncfinnaaRefP
import Derived.Deep.DeepCutAuto
namespace Go.Proofs.Ytedbjkjncfinnaa
open Go.RowKit

theorem rsize_le (f : Ltl) (k p : Int) (A : Option Addr) (n c l : Nat) (L : Int) (w : World) (m : Nat) (hm : f.norm.size = m) (h : m ≤ l) (hl : l ≤ 1000000) (hL : L = l) (hf : Ltl.Is w (Lt w.heap.size) f [.int .i64 k, .int .i64 p, .slice A n c]) :
    Calls Try.prog 14 #[.agg #[.int .i64 k, .int .i64 p, .slice A n c], .int .i64 L] w fun e w' => e = .returned (.int .i64 (m : Int)) ∧ Below w.heap.size w w' := by
  subst hm hL
  have := rsize_any f k p A n c (l : Int) w (Lt w.heap.size) (by omega) (by omega) (Bd.lt w) hf
  rwa [Int.toNat_natCast, Nat.min_eq_left (by omega)] at this
theorem rsize_gt (f : Ltl) (k p : Int) (A : Option Addr) (n c l : Nat) (L : Int) (w : World) (h : l < f.norm.size) (hl : l ≤ 1000000) (hL : L = l) (hf : Ltl.Is w (Lt w.heap.size) f [.int .i64 k, .int .i64 p, .slice A n c]) :
    Calls Try.prog 14 #[.agg #[.int .i64 k, .int .i64 p, .slice A n c], .int .i64 L] w fun e w' => e = .returned (.int .i64 ((l + 1 : Nat) : Int)) ∧ Below w.heap.size w w' := by
  subst hL
  have := rsize_any f k p A n c (l : Int) w (Lt w.heap.size) (by omega) (by omega) (Bd.lt w) hf
  rwa [Int.toNat_natCast, Nat.min_eq_right (by omega)] at this
theorem rsame_val (f g : Ltl) (k p : Int) (A : Option Addr) (n c : Nat) (k' p' : Int) (A' : Option Addr) (n' c' : Nat) (w : World) (v : Bool) (hv : f.same g = v)
    (hf : Ltl.Is w (Lt w.heap.size) f [.int .i64 k, .int .i64 p, .slice A n c]) (hg : Ltl.Is w (Lt w.heap.size) g [.int .i64 k', .int .i64 p', .slice A' n' c']) :
    Calls Try.prog 15 #[.agg #[.int .i64 k, .int .i64 p, .slice A n c], .agg #[.int .i64 k', .int .i64 p', .slice A' n' c']] w fun e w' => e = .returned (.bool v) ∧ Below w.heap.size w w' :=
  hv ▸ rsame_any f g k p A n c k' p' A' n' c' w (Lt w.heap.size) (Bd.lt w) hf hg
theorem rplain_at (f : Ltl) (k p : Int) (A : Option Addr) (n c : Nat) (dn : Bool) (w : World) (S : Nat → Prop) (g : Ltl) (hg : (f.norm.plain dn).ltl = g) (hS : Bd S w) (hf : Ltl.Is w S f [.int .i64 k, .int .i64 p, .slice A n c]) :
    Calls Try.prog 16 #[.agg #[.int .i64 k, .int .i64 p, .slice A n c], .bool dn] w (RetLtl w S g) := hg ▸ rplain_any f k p A n c dn w S hS hf
theorem wplain_at (f : Ltl) (k p : Int) (A : Option Addr) (n c : Nat) (dn : Bool) (w : World) (S : Nat → Prop) (g : Ltl) (hg : (f.norm.plain dn).ltl = g) (hS : Bd S w) (hf : Ltl.Is w S f [.int .i64 k, .int .i64 p, .slice A n c]) :
    Calls Try.prog 18 #[.agg #[.int .i64 k, .int .i64 p, .slice A n c], .bool dn] w (RetLtl w S g) := hg ▸ plain_any f k p A n c dn w S hS hf

/-- The boxes of two properties. -/
structure Bx2 (w : World) (g1 g2 : Nat) (f g : Ltl) (k p : Int) (A : Option Addr) (n c : Nat) (k' p' : Int) (A' : Option Addr) (n' c' : Nat) (W : World) : Prop where
  below : Below w.heap.size w W
  b1 : Blk W g1 24 #[.int .i64 k, .int .i64 p, .slice A n c]
  b2 : Blk W g2 24 #[.int .i64 k', .int .i64 p', .slice A' n' c']
  hf : Ltl.Is W (Lt W.heap.size) f [.int .i64 k, .int .i64 p, .slice A n c]
  hg : Ltl.Is W (Lt W.heap.size) g [.int .i64 k', .int .i64 p', .slice A' n' c']
section
variable {w W W' : World} {g1 g2 : Nat} {f g : Ltl} {k p : Int} {A : Option Addr} {n c : Nat} {k' p' : Int} {A' : Option Addr} {n' c' : Nat}
theorem Bx2.call (h : Bx2 w g1 g2 f g k p A n c k' p' A' n' c' W) (hb : Below W.heap.size W W') : Bx2 w g1 g2 f g k p A n c k' p' A' n' c' W' := ⟨below_call h.below hb, h.b1.call hb, h.b2.call hb, lt_call h.hf hb, lt_call h.hg hb⟩
theorem Bx2.cells (h : Bx2 w g1 g2 f g k p A n c k' p' A' n' c' W) : W.cell? ⟨g1, 0, none⟩ = some (.int .i64 k) ∧ W.cell? ⟨g1, 1, none⟩ = some (.int .i64 p) ∧ W.cell? ⟨g1, 2, none⟩ = some (.slice A n c) ∧
    W.cell? ⟨g2, 0, none⟩ = some (.int .i64 k') ∧ W.cell? ⟨g2, 1, none⟩ = some (.int .i64 p') ∧ W.cell? ⟨g2, 2, none⟩ = some (.slice A' n' c') := by
  rw [h.b1.cell, h.b1.cell, h.b1.cell, h.b2.cell, h.b2.cell, h.b2.cell]
  exact ⟨rfl, rfl, rfl, rfl, rfl, rfl⟩
theorem Bx2.new (hf : Ltl.Is w (Lt w.heap.size) f [.int .i64 k, .int .i64 p, .slice A n c]) (hg : Ltl.Is w (Lt w.heap.size) g [.int .i64 k', .int .i64 p', .slice A' n' c']) :
    Bx2 w w.heap.size (w.heap.size + 1) f g k p A n c k' p' A' n' c' ((w.alloc (.cells #[.int .i64 k, .int .i64 p, .slice A n c] 24)).alloc (.cells #[.int .i64 k', .int .i64 p', .slice A' n' c'] 24)) := by
  obtain ⟨q1, q2, q3⟩ := boxes2 w 24 #[.int .i64 k, .int .i64 p, .slice A n c] #[.int .i64 k', .int .i64 p', .slice A' n' c']
  exact ⟨q3, q1, q2, lt_call hf q3, lt_call hg q3⟩
end

set_option maxRecDepth 100000 in
set_option maxHeartbeats 8000000 in
theorem wordPlains_any (f g : Ltl) (k p : Int) (A : Option Addr) (n c : Nat) (k' p' : Int) (A' : Option Addr) (n' c' : Nat) (dn : Bool) (w : World)
    (hf : Ltl.Is w (Lt w.heap.size) f [.int .i64 k, .int .i64 p, .slice A n c]) (hg : Ltl.Is w (Lt w.heap.size) g [.int .i64 k', .int .i64 p', .slice A' n' c']) :
    Calls Try.prog 4 #[.agg #[.int .i64 k, .int .i64 p, .slice A n c], .agg #[.int .i64 k', .int .i64 p', .slice A' n' c'], .bool dn] w fun e w' => e = .returned (.bool true) ∧ Below w.heap.size w w' := by
  have HB0 := Lib.hid (Bx2.new hf hg)
  clear hf hg
  go_enter Try.func4, Try.ntmps4
  go_wp2_with fail
  generalize ((w.alloc (.cells #[.int .i64 k, .int .i64 p, .slice A n c] 24)).alloc (.cells #[.int .i64 k', .int .i64 p', .slice A' n' c'] 24)) = W0 at *
  generalize w.heap.size + 1 = g2 at *
  refine (alive15_any W0).mono ?_
  rintro e1 w1 ⟨rfl, b1⟩
  have HB1 := Lib.hid (HB0.out.call b1)
  obtain ⟨y0, y1, y2, y3, y4, y5⟩ := HB1.out.cells
  clear b1
  go_wp2_with fail
  by_cases hsf : f.norm.size ≤ 60
  · refine (rsize_le f k p A n c 60 60 w1 f.norm.size rfl hsf (by decide) rfl HB1.out.hf).mono ?_
    rintro e2 w2 ⟨rfl, b2⟩
    have HB2 := Lib.hid (HB1.out.call b2)
    clear y0 y1 y2 y3 y4 y5
    obtain ⟨y0, y1, y2, y3, y4, y5⟩ := HB2.out.cells
    clear b2
    have HSF := Lib.hid hsf
    have q1 : decide ((60 : Int) < (f.norm.size : Int)) = false := by rw [decide_eq_false_iff_not]; omega
    clear hsf
    go_wp2_with fail
    by_cases hsg : g.norm.size ≤ 60
    · refine (rsize_le g k' p' A' n' c' 60 60 w2 g.norm.size rfl hsg (by decide) rfl HB2.out.hg).mono ?_
      rintro e3 w3 ⟨rfl, b3⟩
      have HB3 := Lib.hid (HB2.out.call b3)
      clear y0 y1 y2 y3 y4 y5
      obtain ⟨y0, y1, y2, y3, y4, y5⟩ := HB3.out.cells
      clear b3
      have q2 : decide ((60 : Int) < (g.norm.size : Int)) = false := by rw [decide_eq_false_iff_not]; omega
      clear hsg
      go_wp2_with fail
      have hcase : ∃ sm ns : Bool, ((f.norm.plain false).ltl.same (g.norm.plain false).ltl = sm ∧ f.norm.same g.norm = ns) ∧ (ns = true → sm = true) := ⟨_, _, ⟨rfl, rfl⟩, fun h => by
        rw [T.same_iff] at h
        rw [h]
        exact (Ltl.same_iff _ _).2 rfl⟩
      obtain ⟨sm, ns, ⟨hsm, hns⟩, himp⟩ := hcase
      have HSM := Lib.hid hsm
      have HNS := Lib.hid hns
      have HIMP := Lib.hid himp
      clear hsm hns himp
      refine wp_region_jump (L := #[false, false, false, false, false, true]) 5 (by kernel_rfl) (by kernel_rfl) (by kernel_rfl) ?_
      have hF0 : ∀ k, Lt w3.drew.heap.size k → k < w3.drew.heap.size := fun _ h => h
      refine wpJ_takeL (i := 0) (v := ?_) rfl (by kernel_rfl) (by kernel_rfl) (by kernel_rfl) (fun _ _ _ h => h) hF0 (Or.inl ⟨by rfl, ?_⟩) ?_
      rotate_left
      focus
        intro W' hj
        obtain ⟨y0, y1, y2, y3, y4, y5⟩ := (HB3.out.call (Jmp.low hj)).cells
        clear hj
        go_simp
        try with_reducible rfl
      simp only [Act.put, List.setIfInBounds_toArray, List.set_cons_zero, List.set_cons_succ]
      refine wpJ_takeL (i := 2) (v := ?_) rfl (by kernel_rfl) (by kernel_rfl) (by kernel_rfl) (fun _ _ _ h => h) hF0 (Or.inl ⟨by rfl, ?_⟩) ?_
      rotate_left
      focus
        intro W' hj
        obtain ⟨y0, y1, y2, y3, y4, y5⟩ := (HB3.out.call (Jmp.low hj)).cells
        clear hj
        go_simp
        try with_reducible rfl
      simp only [Act.put, List.setIfInBounds_toArray, List.set_cons_zero, List.set_cons_succ]
      refine wpJ_callL (i := 1) (by kernel_rfl) rfl fun v1 j1 K1 k1 => ?_
      have H1L := Lib.hid (Jmp.low j1).size
      go_wp2_with fail
      refine (rplain_at f k p A n c false v1 (Lt w3.heap.size) _ rfl (fun b h => Nat.lt_of_lt_of_le h (Jmp.low j1).size) (HB3.out.hf.call (Bd.lt _) (Jmp.low j1))).mono ?_
      rintro e1' w1' ⟨A1, n1, m1, rfl, hi1, b1⟩
      have HI1 := Lib.hid hi1
      clear hi1
      go_wp2_with fail
      refine k1.out _ _ b1 ?_
      clear k1
      have hF2 := grow_F (j1.grow hF0) b1.size
      refine wpJ_callL (i := 3) (by kernel_rfl) rfl fun v3 j3 K3 k3 => ?_
      have H3L := Lib.hid (Jmp.low (j1.back hF0 b1 j3)).size
      go_wp2_with fail
      refine (rplain_at g k' p' A' n' c' false v3 (Lt w3.heap.size) _ rfl (fun b h => Nat.lt_of_lt_of_le h (Jmp.low (j1.back hF0 b1 j3)).size) (HB3.out.hg.call (Bd.lt _) (Jmp.low (j1.back hF0 b1 j3)))).mono ?_
      rintro e3' w3' ⟨A3, n3, m3, rfl, hi3, b3⟩
      have HI3 := Lib.hid hi3
      clear hi3
      go_wp2_with fail
      refine k3.out _ _ b3 ?_
      clear k3
      have hF4 := grow_F (j3.grow hF2) b3.size
      refine wpJ_callL (i := 4) (by kernel_rfl) rfl fun v4 j4 K4 k4 => ?_
      go_wp2_with fail
      refine (rsame_val (f.norm.plain false).ltl (g.norm.plain false).ltl _ _ A1 n1 m1 _ _ A3 n3 m3 v4 sm HSM.out (is_jump2 HI1.out (fun b h => Nat.lt_of_lt_of_le h (Nat.le_trans H1L.out b1.size)) (j3.back hF2 b3 j4) (fun b hb => hb.elim .inr (fun h => (.inl h)))) (is_jump2 HI3.out (fun b h => Nat.lt_of_lt_of_le h (Nat.le_trans H3L.out b3.size)) j4 (fun b hb => hb.elim .inr (fun h => (.inl (.inl h)))))).mono ?_
      rintro e4' w4' ⟨rfl, b4⟩
      go_wp2_with fail
      refine k4.out _ _ b4 ?_
      clear k4
      have hF5 := grow_F (j4.grow hF4) b4.size
      refine wpJ_end (by kernel_rfl) (fun wz jz => ?_) _
      clear y0 y1 y2 y3 y4 y5
      have HB4 := Lib.hid (HB3.out.call (Jmp.low (j1.back hF0 b1 (j3.back hF2 b3 (j4.back hF4 b4 jz)))))
      obtain ⟨y0, y1, y2, y3, y4, y5⟩ := HB4.out.cells
      refine ⟨by kernel_rfl, ?_⟩
      go_upto_region 6 with (fail)
      go_cut [29] from 23 to 28 (fun a W => a = .bool false ∧ Bx2 w w.heap.size g2 f g k p A n c k' p' A' n' c' W)
      case first =>
        go_wp2_with fail
        refine (same_val f g k p A n c k' p' A' n' c' _ ns HNS.out HB4.out.hf HB4.out.hg).mono ?_
        rintro e5 w5 ⟨rfl, b5⟩
        have HB5 := Lib.hid (HB4.out.call b5)
        clear b5
        rcases ns with _ | _
        · go_wp2_with fail
          go_meet
          case rel => exact ⟨rfl, HB5.out⟩
        · obtain rfl : sm = true := HIMP.out rfl
          go_wp2_with fail
          go_meet
          case rel => exact ⟨rfl, HB5.out⟩
      case rest =>
        obtain ⟨rfl, hb6⟩ := hcut
        have HB6 := Lib.hid hb6
        clear hb6 HB4 y0 y1 y2 y3 y4 y5
        obtain ⟨y0, y1, y2, y3, y4, y5⟩ := HB6.out.cells
        go_wp2_with fail
        refine wp_region_jump (L := #[false, false, false, false, false, false, false, false, false, false, false, false, false, false, false, false, false, false, false, true]) 19 (by kernel_rfl) (by kernel_rfl) (by kernel_rfl) ?_
        have hF0 : ∀ k, Lt wc.drew.heap.size k → k < wc.drew.heap.size := fun _ h => h
        refine wpJ_takeL (i := 0) (v := ?_) rfl (by kernel_rfl) (by kernel_rfl) (by kernel_rfl) (fun _ _ _ h => h) hF0 (Or.inl ⟨by rfl, ?_⟩) ?_
        rotate_left
        focus
          intro W' hj
          obtain ⟨y0, y1, y2, y3, y4, y5⟩ := (HB6.out.call (Jmp.low hj)).cells
          clear hj
          go_simp
          try with_reducible rfl
        simp only [Act.put, List.setIfInBounds_toArray, List.set_cons_zero, List.set_cons_succ]
        refine wpJ_takeL (i := 1) (v := ?_) rfl (by kernel_rfl) (by kernel_rfl) (by kernel_rfl) (fun _ _ _ h => h) hF0 (Or.inl ⟨by rfl, ?_⟩) ?_
        rotate_left
        focus
          intro W' hj
          obtain ⟨y0, y1, y2, y3, y4, y5⟩ := (HB6.out.call (Jmp.low hj)).cells
          clear hj
          go_simp
          try with_reducible rfl
        simp only [Act.put, List.setIfInBounds_toArray, List.set_cons_zero, List.set_cons_succ]
        refine wpJ_takeL (i := 3) (v := ?_) rfl (by kernel_rfl) (by kernel_rfl) (by kernel_rfl) (fun _ _ _ h => h) hF0 (Or.inl ⟨by rfl, ?_⟩) ?_
        rotate_left
        focus
          intro W' hj
          obtain ⟨y0, y1, y2, y3, y4, y5⟩ := (HB6.out.call (Jmp.low hj)).cells
          clear hj
          go_simp
          try with_reducible rfl
        simp only [Act.put, List.setIfInBounds_toArray, List.set_cons_zero, List.set_cons_succ]
        refine wpJ_takeL (i := 4) (v := ?_) rfl (by kernel_rfl) (by kernel_rfl) (by kernel_rfl) (fun _ _ _ h => h) hF0 (Or.inl ⟨by rfl, ?_⟩) ?_
        rotate_left
        focus
          intro W' hj
          obtain ⟨y0, y1, y2, y3, y4, y5⟩ := (HB6.out.call (Jmp.low hj)).cells
          clear hj
          go_simp
          try with_reducible rfl
        simp only [Act.put, List.setIfInBounds_toArray, List.set_cons_zero, List.set_cons_succ]
        refine wpJ_callL (i := 2) (by kernel_rfl) rfl fun v2 j2 K2 k2 => ?_
        have H2L := Lib.hid (Jmp.low j2).size
        go_wp2_with fail
        refine (wplain_at f k p A n c dn v2 (Lt wc.heap.size) _ rfl (fun b h => Nat.lt_of_lt_of_le h (Jmp.low j2).size) (HB6.out.hf.call (Bd.lt _) (Jmp.low j2))).mono ?_
        rintro e2' w2' ⟨A2, n2, m2, rfl, hi2, b2⟩
        have HI2 := Lib.hid hi2
        clear hi2
        go_wp2_with fail
        refine k2.out _ _ b2 ?_
        clear k2
        have hF3 := grow_F (j2.grow hF0) b2.size
        refine wpJ_callL (i := 5) (by kernel_rfl) rfl fun v5 j5 K5 k5 => ?_
        have H5L := Lib.hid (Jmp.low (j2.back hF0 b2 j5)).size
        go_wp2_with fail
        refine (rplain_at f k p A n c dn v5 (Lt wc.heap.size) _ rfl (fun b h => Nat.lt_of_lt_of_le h (Jmp.low (j2.back hF0 b2 j5)).size) (HB6.out.hf.call (Bd.lt _) (Jmp.low (j2.back hF0 b2 j5)))).mono ?_
        rintro e5' w5' ⟨A5, n5, m5, rfl, hi5, b5⟩
        have HI5 := Lib.hid hi5
        clear hi5
        go_wp2_with fail
        refine k5.out _ _ b5 ?_
        clear k5
        have hF6 := grow_F (j5.grow hF3) b5.size
        refine wpJ_callL (i := 6) (by kernel_rfl) rfl fun v6 j6 K6 k6 => ?_
        go_wp2_with fail
        refine (rsame_val (f.norm.plain dn).ltl (f.norm.plain dn).ltl _ _ A2 n2 m2 _ _ A5 n5 m5 v6 true ((Ltl.same_iff _ _).2 rfl) (is_jump2 HI2.out (fun b h => Nat.lt_of_lt_of_le h (Nat.le_trans H2L.out b2.size)) (j5.back hF3 b5 j6) (fun b hb => hb.elim .inr (fun h => (.inl h)))) (is_jump2 HI5.out (fun b h => Nat.lt_of_lt_of_le h (Nat.le_trans H5L.out b5.size)) j6 (fun b hb => hb.elim .inr (fun h => (.inl (.inl h)))))).mono ?_
        rintro e6' w6' ⟨rfl, b6⟩
        go_wp2_with fail
        refine k6.out _ _ b6 ?_
        clear k6
        have hF7 := grow_F (j6.grow hF6) b6.size
        refine wpJ_takeL (i := 7) (v := ?_) rfl (by kernel_rfl) (by kernel_rfl) (by kernel_rfl) (fun _ _ _ h => h) hF7 (Or.inl ⟨by rfl, ?_⟩) ?_
        rotate_left
        focus
          intro W' hj
          obtain ⟨y0, y1, y2, y3, y4, y5⟩ := (HB6.out.call (Jmp.low (j2.back hF0 b2 (j5.back hF3 b5 (j6.back hF6 b6 hj))))).cells
          clear hj
          go_simp
          try with_reducible rfl
        simp only [Act.put, List.setIfInBounds_toArray, List.set_cons_zero, List.set_cons_succ]
        refine wpJ_takeL (i := 8) (v := ?_) rfl (by kernel_rfl) (by kernel_rfl) (by kernel_rfl) (fun _ _ _ h => h) hF7 (Or.inl ⟨by rfl, ?_⟩) ?_
        rotate_left
        focus
          intro W' hj
          obtain ⟨y0, y1, y2, y3, y4, y5⟩ := (HB6.out.call (Jmp.low (j2.back hF0 b2 (j5.back hF3 b5 (j6.back hF6 b6 hj))))).cells
          clear hj
          go_simp
          try with_reducible rfl
        simp only [Act.put, List.setIfInBounds_toArray, List.set_cons_zero, List.set_cons_succ]
        refine wpJ_takeL (i := 10) (v := ?_) rfl (by kernel_rfl) (by kernel_rfl) (by kernel_rfl) (fun _ _ _ h => h) hF7 (Or.inl ⟨by rfl, ?_⟩) ?_
        rotate_left
        focus
          intro W' hj
          obtain ⟨y0, y1, y2, y3, y4, y5⟩ := (HB6.out.call (Jmp.low (j2.back hF0 b2 (j5.back hF3 b5 (j6.back hF6 b6 hj))))).cells
          clear hj
          go_simp
          try with_reducible rfl
        simp only [Act.put, List.setIfInBounds_toArray, List.set_cons_zero, List.set_cons_succ]
        refine wpJ_callL (i := 9) (by kernel_rfl) rfl fun v9 j9 K9 k9 => ?_
        go_wp2_with fail
        refine (size_val f k p A n c v9 f.norm.size rfl (by have := HSF.out; omega) (HB6.out.call (Jmp.low (j2.back hF0 b2 (j5.back hF3 b5 (j6.back hF6 b6 j9))))).hf).mono ?_
        rintro e9' w9' ⟨rfl, b9⟩
        go_wp2_with fail
        refine k9.out _ _ b9 ?_
        clear k9
        have hF10 := grow_F (j9.grow hF7) b9.size
        refine wpJ_callL (i := 11) (by kernel_rfl) rfl fun v11 j11 K11 k11 => ?_
        go_wp2_with fail
        refine (rsize_le f k p A n c 100 100 v11 f.norm.size rfl (by have := HSF.out; omega) (by decide) rfl (HB6.out.call (Jmp.low (j2.back hF0 b2 (j5.back hF3 b5 (j6.back hF6 b6 (j9.back hF7 b9 j11)))))).hf).mono ?_
        rintro e11' w11' ⟨rfl, b11⟩
        go_wp2_with fail
        refine k11.out _ _ b11 ?_
        clear k11
        have hF12 := grow_F (j11.grow hF10) b11.size
        refine wpJ_takeL (i := 12) (v := ?_) rfl (by kernel_rfl) (by kernel_rfl) (by kernel_rfl) (fun _ _ _ h => h) hF12 (Or.inl ⟨by rfl, ?_⟩) ?_
        rotate_left
        focus
          intro W' hj
          obtain ⟨y0, y1, y2, y3, y4, y5⟩ := (HB6.out.call (Jmp.low (j2.back hF0 b2 (j5.back hF3 b5 (j6.back hF6 b6 (j9.back hF7 b9 (j11.back hF10 b11 hj))))))).cells
          clear hj
          go_simp
          try with_reducible rfl
        simp only [Act.put, List.setIfInBounds_toArray, List.set_cons_zero, List.set_cons_succ]
        refine wpJ_takeL (i := 13) (v := ?_) rfl (by kernel_rfl) (by kernel_rfl) (by kernel_rfl) (fun _ _ _ h => h) hF12 (Or.inl ⟨by rfl, ?_⟩) ?_
        rotate_left
        focus
          intro W' hj
          obtain ⟨y0, y1, y2, y3, y4, y5⟩ := (HB6.out.call (Jmp.low (j2.back hF0 b2 (j5.back hF3 b5 (j6.back hF6 b6 (j9.back hF7 b9 (j11.back hF10 b11 hj))))))).cells
          clear hj
          go_simp
          try with_reducible rfl
        simp only [Act.put, List.setIfInBounds_toArray, List.set_cons_zero, List.set_cons_succ]
        refine wpJ_takeL (i := 14) (v := ?_) rfl (by kernel_rfl) (by kernel_rfl) (by kernel_rfl) (fun _ _ _ h => h) hF12 (Or.inl ⟨by rfl, ?_⟩) ?_
        rotate_left
        focus
          intro W' hj
          obtain ⟨y0, y1, y2, y3, y4, y5⟩ := (HB6.out.call (Jmp.low (j2.back hF0 b2 (j5.back hF3 b5 (j6.back hF6 b6 (j9.back hF7 b9 (j11.back hF10 b11 hj))))))).cells
          clear hj
          go_simp
          try with_reducible rfl
        simp only [Act.put, List.setIfInBounds_toArray, List.set_cons_zero, List.set_cons_succ]
        refine wpJ_takeL (i := 15) (v := ?_) rfl (by kernel_rfl) (by kernel_rfl) (by kernel_rfl) (fun _ _ _ h => h) hF12 (Or.inl ⟨by rfl, ?_⟩) ?_
        rotate_left
        focus
          intro W' hj
          obtain ⟨y0, y1, y2, y3, y4, y5⟩ := (HB6.out.call (Jmp.low (j2.back hF0 b2 (j5.back hF3 b5 (j6.back hF6 b6 (j9.back hF7 b9 (j11.back hF10 b11 hj))))))).cells
          clear hj
          go_simp
          try with_reducible rfl
        simp only [Act.put, List.setIfInBounds_toArray, List.set_cons_zero, List.set_cons_succ]
        refine wpJ_takeL (i := 16) (v := ?_) rfl (by kernel_rfl) (by kernel_rfl) (by kernel_rfl) (fun _ _ _ h => h) hF12 (Or.inl ⟨by rfl, ?_⟩) ?_
        rotate_left
        focus
          intro W' hj
          obtain ⟨y0, y1, y2, y3, y4, y5⟩ := (HB6.out.call (Jmp.low (j2.back hF0 b2 (j5.back hF3 b5 (j6.back hF6 b6 (j9.back hF7 b9 (j11.back hF10 b11 hj))))))).cells
          clear hj
          go_simp
          try with_reducible rfl
        simp only [Act.put, List.setIfInBounds_toArray, List.set_cons_zero, List.set_cons_succ]
        refine wpJ_callL (i := 17) (by kernel_rfl) rfl fun v17 j17 K17 k17 => ?_
        go_wp2_with fail
        refine (same_val f f k p A n c k p A n c v17 true ((T.same_iff _ _).2 rfl) (HB6.out.call (Jmp.low (j2.back hF0 b2 (j5.back hF3 b5 (j6.back hF6 b6 (j9.back hF7 b9 (j11.back hF10 b11 j17))))))).hf (HB6.out.call (Jmp.low (j2.back hF0 b2 (j5.back hF3 b5 (j6.back hF6 b6 (j9.back hF7 b9 (j11.back hF10 b11 j17))))))).hf).mono ?_
        rintro e17' w17' ⟨rfl, b17⟩
        go_wp2_with fail
        refine k17.out _ _ b17 ?_
        clear k17
        have hF18 := grow_F (j17.grow hF12) b17.size
        refine wpJ_takeL (i := 18) (v := ?_) rfl (by kernel_rfl) (by kernel_rfl) (by kernel_rfl) (fun _ _ _ h => h) hF18 (Or.inl ⟨by rfl, ?_⟩) ?_
        rotate_left
        focus
          intro W' hj
          obtain ⟨y0, y1, y2, y3, y4, y5⟩ := (HB6.out.call (Jmp.low (j2.back hF0 b2 (j5.back hF3 b5 (j6.back hF6 b6 (j9.back hF7 b9 (j11.back hF10 b11 (j17.back hF12 b17 hj)))))))).cells
          clear hj
          go_simp
          try with_reducible rfl
        simp only [Act.put, List.setIfInBounds_toArray, List.set_cons_zero, List.set_cons_succ]
        refine wpJ_end (by kernel_rfl) (fun wz jz => ?_) _
        have hz := (HB6.out.call (Jmp.low (j2.back hF0 b2 (j5.back hF3 b5 (j6.back hF6 b6 (j9.back hF7 b9 (j11.back hF10 b11 (j17.back hF12 b17 jz)))))))).below
        refine ⟨by kernel_rfl, ?_⟩
        go_wp2
        go_ret
        exact ⟨rfl, hz⟩


    · refine (rsize_gt g k' p' A' n' c' 60 60 w2 (by omega) (by decide) rfl HB2.out.hg).mono ?_
      rintro e3 w3 ⟨rfl, b3⟩
      have HB3 := Lib.hid (HB2.out.call b3)
      clear b3 y0 y1 y2 y3 y4 y5
      go_wp2
      go_ret
      exact ⟨rfl, HB3.out.below⟩
  · refine (rsize_gt f k p A n c 60 60 w1 (by omega) (by decide) rfl HB1.out.hf).mono ?_
    rintro e2 w2 ⟨rfl, b2⟩
    have HB2 := Lib.hid (HB1.out.call b2)
    clear b2 y0 y1 y2 y3 y4 y5
    go_wp2
    go_ret
    exact ⟨rfl, HB2.out.below⟩
end Go.Proofs.Ytedbjkjncfinnaa
