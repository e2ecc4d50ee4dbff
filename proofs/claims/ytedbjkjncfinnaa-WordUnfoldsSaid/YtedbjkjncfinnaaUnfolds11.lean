/-
  Layer 15's law WordUnfolds, where the first property holds and the second holds.
-/
import Derived.Test.YtedbjkjncfinnaaUnfoldsH
namespace Go.Proofs.Ytedbjkjncfinnaa
open Go.RowKit

set_option maxRecDepth 100000 in
set_option maxHeartbeats 8000000 in
theorem wordUnfolds_11 (f1 f2 : Ltl) (x : Wd) (kf pf : Int) (Kf : Option Addr) (nf ef : Nat) (kg pg : Int) (Kg : Option Addr) (ng eg : Nat) (A B : Option Addr) (c d : Nat) (i : Int) (w : World) (ha : f1.norm.sat x (posOf i) = true) (hb : f2.norm.sat x (posOf i) = true) (hbig : x.size ≤ 9223372036854775807) (hi : i ≤ 9223372036854775807)
    (hf1 : Ltl.Is w (Lt w.heap.size) f1 [.int .i64 kf, .int .i64 pf, .slice Kf nf ef]) (hf2 : Ltl.Is w (Lt w.heap.size) f2 [.int .i64 kg, .int .i64 pg, .slice Kg ng eg])
    (hw : WdIs w (Lt w.heap.size) x (.slice A x.stem.length c) (.slice B x.cycle.length d)) :
    Calls Try.prog 6 #[.agg #[.int .i64 kf, .int .i64 pf, .slice Kf nf ef], .agg #[.int .i64 kg, .int .i64 pg, .slice Kg ng eg], .agg #[.slice A x.stem.length c, .slice B x.cycle.length d], .int .i64 i] w fun e w' => e = .returned (.bool true) ∧ Below w.heap.size w w' := by
  have HB0 := Lib.hid (BxU.new hf1 hf2 hw)
  have HA := Lib.hid ha
  have HB := Lib.hid hb
  clear hf1 hf2 hw ha hb
  go_enter Try.func6, Try.ntmps6
  go_wp2_with fail
  generalize (((w.alloc (.cells #[.int .i64 kf, .int .i64 pf, .slice Kf nf ef] 24)).alloc (.cells #[.int .i64 kg, .int .i64 pg, .slice Kg ng eg] 24)).alloc (.cells #[.slice A x.stem.length c, .slice B x.cycle.length d] 27)) = W0 at *
  refine (alive15_any W0).mono ?_
  rintro e1' w1 ⟨rfl, b1⟩
  have HB1 := Lib.hid (HB0.out.call b1)
  clear b1
  obtain ⟨y0, y1, y2, y3, y4, y5, y6, y7⟩ := HB1.out.cells
  go_wp2_with fail
  by_cases hs1 : f1.norm.size ≤ 7
  rotate_left
  · refine (rsize_gt f1 kf pf Kf nf ef 7 7 w1 (by omega) (by decide) rfl HB1.out.h1).mono ?_
    rintro e2' w2 ⟨rfl, b2⟩
    have HB2 := Lib.hid (HB1.out.call b2)
    clear b2 y0 y1 y2 y3 y4 y5 y6 y7 hs1
    go_wp2
    go_ret
    exact ⟨rfl, HB2.out.below⟩
  refine (rsize_le f1 kf pf Kf nf ef 7 7 w1 f1.norm.size rfl hs1 (by decide) rfl HB1.out.h1).mono ?_
  rintro e2' w2 ⟨rfl, b2⟩
  have HB2 := Lib.hid (HB1.out.call b2)
  have q1 : decide ((7 : Int) < (f1.norm.size : Int)) = false := by rw [decide_eq_false_iff_not]; omega
  clear b2 y0 y1 y2 y3 y4 y5 y6 y7 hs1
  obtain ⟨y0, y1, y2, y3, y4, y5, y6, y7⟩ := HB2.out.cells
  go_wp2_with fail
  clear q1
  by_cases hs2 : f2.norm.size ≤ 7
  rotate_left
  · refine (rsize_gt f2 kg pg Kg ng eg 7 7 w2 (by omega) (by decide) rfl HB2.out.h2).mono ?_
    rintro e3' w3 ⟨rfl, b3⟩
    have HB3 := Lib.hid (HB2.out.call b3)
    clear b3 y0 y1 y2 y3 y4 y5 y6 y7 hs2
    go_wp2
    go_ret
    exact ⟨rfl, HB3.out.below⟩
  refine (rsize_le f2 kg pg Kg ng eg 7 7 w2 f2.norm.size rfl hs2 (by decide) rfl HB2.out.h2).mono ?_
  rintro e3' w3 ⟨rfl, b3⟩
  have HB3 := Lib.hid (HB2.out.call b3)
  have q1 : decide ((7 : Int) < (f2.norm.size : Int)) = false := by rw [decide_eq_false_iff_not]; omega
  clear b3 y0 y1 y2 y3 y4 y5 y6 y7 hs2
  obtain ⟨y0, y1, y2, y3, y4, y5, y6, y7⟩ := HB3.out.cells
  go_wp2_with fail
  clear q1
  refine (as_any _ _ A B x.stem.length x.cycle.length c d w3 rfl rfl).mono ?_
  rintro e4' w4 ⟨rfl, b4⟩
  have HB4 := Lib.hid (HB3.out.call b4)
  clear b4 y0 y1 y2 y3 y4 y5 y6 y7
  go_wp2_with fail
  refine (few_any x A B c d 7 w4 (Lt w4.heap.size) (by decide) (Bd.lt _) HB4.out.hw hbig).mono ?_
  rintro e5' w5 ⟨rfl, b5⟩
  have HB5 := Lib.hid (HB4.out.call b5)
  clear b5
  obtain ⟨y0, y1, y2, y3, y4, y5, y6, y7⟩ := HB5.out.cells
  cases hfw : x.few 7 with
  | false =>
    clear hfw
    go_wp2
    go_ret
    exact ⟨rfl, HB5.out.below⟩
  | true =>
    have hsm : x.size ≤ 7 := few_size hfw
    clear hfw
    by_cases h0 : x.cycle.length = 0
    · have hq : ((x.cycle.length : Int) == 0) = true := by simpa using h0
      clear h0
      go_wp2
      go_ret
      exact ⟨rfl, HB5.out.below⟩
    · have hq : ((x.cycle.length : Int) == 0) = false := by simpa using h0
      have H0 := Lib.hid (show 0 < x.cycle.length by omega)
      clear h0
      go_upto_region 5 with (fail)
      clear hq y0 y1 y2 y3 y4 y5 y6 y7
      go_cut [3] (fun s3 wx => (∃ j : Int, s3 = .int .i64 j ∧ 0 ≤ j ∧ j ≤ 9223372036854775807 ∧ j = (if i < 0 then 0 else i)) ∧ w5 = wx)
      case first =>
        rcases Int.lt_or_le i 0 with hneg | hpos
        · go_wp2_with fail
          go_meet
          exact ⟨⟨0, rfl, by decide, by decide, (if_pos hneg).symm⟩, rfl⟩
        · go_wp2_with fail
          go_meet
          exact ⟨⟨i, rfl, hpos, hi, (if_neg (by omega)).symm⟩, rfl⟩
      case rest =>
        obtain ⟨⟨j, rfl, hj0, hj1, hji⟩, rfl⟩ := hcut
        have HJI := Lib.hid hji
        clear hji
        clear hi
        go_upto_if 40 with (fail)
        go_cut [3] (fun s3 wx => (∃ m : Nat, s3 = .int .i64 (m : Int) ∧ m ≤ 1000000 ∧ m = posOf i) ∧ w5 = wx)
        case first =>
          rcases Int.lt_or_le 1000000 j with hbg | hsl
          · have hq : decide (1000000 < j) = true := by simpa using hbg
            go_wp2_with fail
            go_meet
            exact ⟨⟨_, (congrArg (Value.int .i64) (Int.toNat_of_nonneg (and_low j).1).symm), by have := and_low j; omega, (pos_big HJI.out hbg).symm⟩, rfl⟩
          · have hq : decide (1000000 < j) = false := by rw [decide_eq_false_iff_not]; omega
            go_wp2_with fail
            go_meet
            refine ⟨⟨j.toNat, ?_, by omega, (pos_small HJI.out hsl).symm⟩, rfl⟩
            rw [Int.toNat_of_nonneg hj0]
        case rest =>
          obtain ⟨⟨m, rfl, hm, hmp⟩, rfl⟩ := hcut
          rw [← hmp] at HA HB
          clear hmp HJI
          clear hj0 hj1 j
          obtain ⟨g, hg⟩ : ∃ g, f1.norm.sat x (m + 1) = g := ⟨_, rfl⟩
          have HG := Lib.hid hg
          clear hg
          go_upto_region 8 with (fail)
          refine wp_region_jump (L := #[false, false, false, false, false, false, false, false, true, true]) 8 (by kernel_rfl) (by kernel_rfl) (by kernel_rfl) ?_
          have hF0 : ∀ k, Lt w5.drew.heap.size k → k < w5.drew.heap.size := fun _ h => h
          refine wpJ_takeL (i := 0) (v := ?_) rfl (by kernel_rfl) (by kernel_rfl) (by kernel_rfl) (fun _ _ _ h => h) hF0 (Or.inl ⟨by rfl, ?_⟩) ?_
          rotate_left
          focus
            intro W' hj
            obtain ⟨y0, y1, y2, y3, y4, y5, y6, y7⟩ := (HB5.out.call (Jmp.low hj)).cells
            clear hj
            go_simp
            try with_reducible rfl
          simp only [Act.put, List.setIfInBounds_toArray, List.set_cons_zero, List.set_cons_succ]
          refine wpJ_takeL (i := 1) (v := ?_) rfl (by kernel_rfl) (by kernel_rfl) (by kernel_rfl) (fun _ _ _ h => h) hF0 (Or.inl ⟨by rfl, ?_⟩) ?_
          rotate_left
          focus
            intro W' hj
            obtain ⟨y0, y1, y2, y3, y4, y5, y6, y7⟩ := (HB5.out.call (Jmp.low hj)).cells
            clear hj
            go_simp
            try with_reducible rfl
          simp only [Act.put, List.setIfInBounds_toArray, List.set_cons_zero, List.set_cons_succ]
          refine wpJ_takeL (i := 2) (v := ?_) rfl (by kernel_rfl) (by kernel_rfl) (by kernel_rfl) (fun _ _ _ h => h) hF0 (Or.inl ⟨by rfl, ?_⟩) ?_
          rotate_left
          focus
            intro W' hj
            obtain ⟨y0, y1, y2, y3, y4, y5, y6, y7⟩ := (HB5.out.call (Jmp.low hj)).cells
            clear hj
            go_simp
            try with_reducible rfl
          simp only [Act.put, List.setIfInBounds_toArray, List.set_cons_zero, List.set_cons_succ]
          refine wpJ_takeL (i := 4) (v := ?_) rfl (by kernel_rfl) (by kernel_rfl) (by kernel_rfl) (fun _ _ _ h => h) hF0 (Or.inl ⟨by rfl, ?_⟩) ?_
          rotate_left
          focus
            intro W' hj
            obtain ⟨y0, y1, y2, y3, y4, y5, y6, y7⟩ := (HB5.out.call (Jmp.low hj)).cells
            clear hj
            go_simp
            try with_reducible rfl
          simp only [Act.put, List.setIfInBounds_toArray, List.set_cons_zero, List.set_cons_succ]
          refine wpJ_takeL (i := 5) (v := ?_) rfl (by kernel_rfl) (by kernel_rfl) (by kernel_rfl) (fun _ _ _ h => h) hF0 (Or.inl ⟨by rfl, ?_⟩) ?_
          rotate_left
          focus
            intro W' hj
            obtain ⟨y0, y1, y2, y3, y4, y5, y6, y7⟩ := (HB5.out.call (Jmp.low hj)).cells
            clear hj
            go_simp
            try with_reducible rfl
          simp only [Act.put, List.setIfInBounds_toArray, List.set_cons_zero, List.set_cons_succ]
          refine wpJ_takeL (i := 6) (v := ?_) rfl (by kernel_rfl) (by kernel_rfl) (by kernel_rfl) (fun _ _ _ h => h) hF0 (Or.inl ⟨by rfl, ?_⟩) ?_
          rotate_left
          focus
            intro W' hj
            obtain ⟨y0, y1, y2, y3, y4, y5, y6, y7⟩ := (HB5.out.call (Jmp.low hj)).cells
            clear hj
            go_simp
            try with_reducible rfl
          simp only [Act.put, List.setIfInBounds_toArray, List.set_cons_zero, List.set_cons_succ]
          refine wpJ_callL (i := 3) (by kernel_rfl) rfl fun v3 j3 K3 k3 => ?_
          go_wp2_with fail
          refine (wholds_at x f1 kf pf Kf nf ef A B c d _ m v3 true (by first | rfl | omega | (rw [Go.IntWalk.i64_in _ (by omega)]; omega)) HA.out hsm H0.out (by omega) (HB5.out.call (Jmp.low j3)).h1 (HB5.out.call (Jmp.low j3)).hw).mono ?_
          rintro e3' w3' ⟨rfl, b3⟩
          go_wp2_with fail
          refine k3.out _ _ b3 ?_
          clear k3
          have hF4 := grow_F (j3.grow hF0) b3.size
          refine wpJ_callL (i := 7) (by kernel_rfl) rfl fun v7 j7 K7 k7 => ?_
          go_wp2_with fail
          refine (wholds_at x f2 kg pg Kg ng eg A B c d _ m v7 true (by first | rfl | omega | (rw [Go.IntWalk.i64_in _ (by omega)]; omega)) HB.out hsm H0.out (by omega) (HB5.out.call (Jmp.low (j3.back hF0 b3 j7))).h2 (HB5.out.call (Jmp.low (j3.back hF0 b3 j7))).hw).mono ?_
          rintro e7' w7' ⟨rfl, b7⟩
          go_wp2_with fail
          refine k7.out _ _ b7 ?_
          clear k7
          have hF8 := grow_F (j7.grow hF4) b7.size
          refine wpJ_end (by kernel_rfl) (fun wz jz => ?_) _
          have HB6 := Lib.hid (HB5.out.call (Jmp.low (j3.back hF0 b3 (j7.back hF4 b7 jz))))
          clear jz
          refine ⟨by kernel_rfl, ?_⟩
          try simp only [Act.put, List.setIfInBounds_toArray, List.set_cons_zero, List.set_cons_succ]
          go_upto_region 9 with (fail)
          generalize wz = W6 at *
          obtain ⟨LU, hLU⟩ : ∃ U, U = Ltl.mk 11 0 [f1, f2] := ⟨_, rfl⟩
          obtain ⟨LV, hLV⟩ : ∃ U, U = Ltl.mk 12 0 [f1, f2] := ⟨_, rfl⟩
          have HLU := Lib.hid hLU
          have HLV := Lib.hid hLV
          clear hLU hLV
          refine wp_region_jump (L := #[false, false, false, false, false, false, false, false, true, true]) 8 (by kernel_rfl) (by kernel_rfl) (by kernel_rfl) ?_
          have hF0 : ∀ k, Lt W6.drew.heap.size k → k < W6.drew.heap.size := fun _ h => h
          refine wpJ_boxL (base := W6.heap.size) (i := 6) (Z := #[.int .i64 0, .int .i64 0, .slice none 0 0]) rfl (by kernel_rfl) (by kernel_rfl) (by kernel_rfl) (fun _ => by kernel_rfl) (fun _ _ _ _ h => h) hF0 (Nat.le_refl _) ?_
          refine wpJ_boxL (base := W6.heap.size) (i := 7) (Z := #[.int .i64 0, .int .i64 0, .slice none 0 0]) rfl (by kernel_rfl) (by kernel_rfl) (by kernel_rfl) (fun _ => by kernel_rfl) (fun _ _ _ _ h => h) hF0 (Nat.le_refl _) ?_
          refine wpJ_takeL (i := 0) (v := ?_) rfl (by kernel_rfl) (by kernel_rfl) (by kernel_rfl) (fun _ _ _ h => h) hF0 (Or.inl ⟨by rfl, ?_⟩) ?_
          rotate_left
          focus
            intro W' hj
            obtain ⟨y0, y1, y2, y3, y4, y5, y6, y7⟩ := (HB6.out.call (Jmp.low hj)).cells
            clear hj
            go_simp
            try with_reducible rfl
          simp only [Act.put, List.setIfInBounds_toArray, List.set_cons_zero, List.set_cons_succ]
          refine wpJ_takeL (i := 1) (v := ?_) rfl (by kernel_rfl) (by kernel_rfl) (by kernel_rfl) (fun _ _ _ h => h) hF0 (Or.inl ⟨by rfl, ?_⟩) ?_
          rotate_left
          focus
            intro W' hj
            obtain ⟨y0, y1, y2, y3, y4, y5, y6, y7⟩ := (HB6.out.call (Jmp.low hj)).cells
            clear hj
            go_simp
            try with_reducible rfl
          simp only [Act.put, List.setIfInBounds_toArray, List.set_cons_zero, List.set_cons_succ]
          refine wpJ_takeL (i := 3) (v := ?_) rfl (by kernel_rfl) (by kernel_rfl) (by kernel_rfl) (fun _ _ _ h => h) hF0 (Or.inl ⟨by rfl, ?_⟩) ?_
          rotate_left
          focus
            intro W' hj
            obtain ⟨y0, y1, y2, y3, y4, y5, y6, y7⟩ := (HB6.out.call (Jmp.low hj)).cells
            clear hj
            go_simp
            try with_reducible rfl
          simp only [Act.put, List.setIfInBounds_toArray, List.set_cons_zero, List.set_cons_succ]
          refine wpJ_takeL (i := 4) (v := ?_) rfl (by kernel_rfl) (by kernel_rfl) (by kernel_rfl) (fun _ _ _ h => h) hF0 (Or.inl ⟨by rfl, ?_⟩) ?_
          rotate_left
          focus
            intro W' hj
            obtain ⟨y0, y1, y2, y3, y4, y5, y6, y7⟩ := (HB6.out.call (Jmp.low hj)).cells
            clear hj
            go_simp
            try with_reducible rfl
          simp only [Act.put, List.setIfInBounds_toArray, List.set_cons_zero, List.set_cons_succ]
          refine wpJ_callL (i := 2) (by kernel_rfl) rfl fun v2 j2 K2 k2 => ?_
          have H2L := Lib.hid (Jmp.low j2).size
          go_wp2_with fail
          refine (ltwo_at 11 LU f1 f2 kf pf Kf nf ef kg pg Kg ng eg v2 (Lt W6.heap.size) HLU.out (fun b h => Nat.lt_of_lt_of_le h (Jmp.low j2).size) (HB6.out.h1.call (Bd.lt _) (Jmp.low j2)) (HB6.out.h2.call (Bd.lt _) (Jmp.low j2))).mono ?_
          rintro e2' w2' ⟨A2, n2, m2, rfl, hi2, b2⟩
          have HI2 := Lib.hid hi2
          clear hi2
          go_wp2_with fail
          refine k2.out _ _ b2 ?_
          clear k2
          have hF3 := grow_F (j2.grow hF0) b2.size
          refine wpJ_callL (i := 5) (by kernel_rfl) rfl fun v5 j5 K5 k5 => ?_
          have H5L := Lib.hid (Jmp.low (j2.back hF0 b2 j5)).size
          go_wp2_with fail
          refine (ltwo_at 12 LV f1 f2 kf pf Kf nf ef kg pg Kg ng eg v5 (Lt W6.heap.size) HLV.out (fun b h => Nat.lt_of_lt_of_le h (Jmp.low (j2.back hF0 b2 j5)).size) (HB6.out.h1.call (Bd.lt _) (Jmp.low (j2.back hF0 b2 j5))) (HB6.out.h2.call (Bd.lt _) (Jmp.low (j2.back hF0 b2 j5)))).mono ?_
          rintro e5' w5' ⟨A5, n5, m5, rfl, hi5, b5⟩
          have HI5 := Lib.hid hi5
          clear hi5
          go_wp2_with fail
          refine k5.out _ _ b5 ?_
          clear k5
          have hF6 := grow_F (j5.grow hF3) b5.size
          refine wpJ_end (by kernel_rfl) (fun wz jz => ?_) _
          have hlz := Jmp.low (j2.back hF0 b2 (j5.back hF3 b5 jz))
          have hP : Ltl.Is wz (fun b => (Lt W6.drew.heap.size b ∨ Iv v2 w2' b) ∨ Iv v5 w5' b) LU [.int .i64 LU.kind, .int .i64 LU.prop, .slice A2 n2 m2] := D.Is.keep (fun b hb => ⟨.inl (hb.elim .inl .inr), (j5.back hF3 b5 jz).keep b (hb.elim (fun h => (.inl h)) .inr)⟩) _ _ HI2.out
          have hD : Ltl.Is wz (fun b => (Lt W6.drew.heap.size b ∨ Iv v2 w2' b) ∨ Iv v5 w5' b) LV [.int .i64 LV.kind, .int .i64 LV.prop, .slice A5 n5 m5] := D.Is.keep (fun b hb => ⟨hb.elim (fun h => .inl (.inl h)) .inr, jz.keep b (hb.elim (fun h => (.inl (.inl h))) .inr)⟩) _ _ HI5.out
          have hFz : ∀ b, (fun b => (Lt W6.drew.heap.size b ∨ Iv v2 w2' b) ∨ Iv v5 w5' b) b → b < wz.heap.size := fun b hb => Nat.lt_of_lt_of_le (hF6 b hb) jz.size
          intro gq loq noq bkq gp lop nop bkp
          have hne : gp ≠ gq := fun h => nop (.inr h)
          have HBP := Lib.hid bkp
          have HBQ := Lib.hid bkq
          have HP := Lib.hid hP
          have HD := Lib.hid hD
          have HFZ := Lib.hid hFz
          have HNP := Lib.hid (show ¬ (fun b => (Lt W6.drew.heap.size b ∨ Iv v2 w2' b) ∨ Iv v5 w5' b) gp from fun h => nop (.inl h))
          have HNQ := Lib.hid (show ¬ (fun b => (Lt W6.drew.heap.size b ∨ Iv v2 w2' b) ∨ Iv v5 w5' b) gq from noq)
          have HLZ := Lib.hid hlz
          obtain ⟨x0, x1, x2⟩ := cells3 bkp
          obtain ⟨z0, z1, z2⟩ := cells3 bkq
          have fp0 := bkp.frozen 0
          have fp1 := bkp.frozen 1
          have fp2 := bkp.frozen 2
          have fq0 := bkq.frozen 0
          have fq1 := bkq.frozen 1
          have fq2 := bkq.frozen 2
          clear bkp bkq hlz nop noq jz hP hD hFz
          refine ⟨by kernel_rfl, ?_⟩
          simp only [Act.put, List.setIfInBounds_toArray, List.set_cons_zero, List.set_cons_succ]
          go_upto_region 10 with (fail)
          have hWZ : Below W6.heap.size W6 ((((((wz.setCell ⟨gp, 0, none⟩ (.int .i64 LU.kind)).setCell ⟨gp, 1, none⟩ (.int .i64 LU.prop)).setCell ⟨gp, 2, none⟩ (.slice A2 n2 m2)).setCell ⟨gq, 0, none⟩ (.int .i64 LV.kind)).setCell ⟨gq, 1, none⟩ (.int .i64 LV.prop)).setCell ⟨gq, 2, none⟩ (.slice A5 n5 m5)) := below_set3 (below_set3 HLZ.out lop (.int .i64 LU.kind) (.int .i64 LU.prop) (.slice A2 n2 m2)) loq (.int .i64 LV.kind) (.int .i64 LV.prop) (.slice A5 n5 m5)
          have HB6z := Lib.hid (HB6.out.call hWZ)
          have HPDgp := Lib.hid (show PD LU LV gp gq A2 n2 m2 A5 n5 m5 ((((((wz.setCell ⟨gp, 0, none⟩ (.int .i64 LU.kind)).setCell ⟨gp, 1, none⟩ (.int .i64 LU.prop)).setCell ⟨gp, 2, none⟩ (.slice A2 n2 m2)).setCell ⟨gq, 0, none⟩ (.int .i64 LV.kind)).setCell ⟨gq, 1, none⟩ (.int .i64 LV.prop)).setCell ⟨gq, 2, none⟩ (.slice A5 n5 m5)) from ⟨blk_far3 (blk_set3 HBP.out (.int .i64 LU.kind) (.int .i64 LU.prop) (.slice A2 n2 m2)) hne (.int .i64 LV.kind) (.int .i64 LV.prop) (.slice A5 n5 m5), blk_set3 (blk_far3 HBQ.out (Ne.symm hne) (.int .i64 LU.kind) (.int .i64 LU.prop) (.slice A2 n2 m2)) (.int .i64 LV.kind) (.int .i64 LV.prop) (.slice A5 n5 m5),
            (is_set3 (is_set3 HP.out HNP.out (.int .i64 LU.kind) (.int .i64 LU.prop) (.slice A2 n2 m2)) HNQ.out (.int .i64 LV.kind) (.int .i64 LV.prop) (.slice A5 n5 m5)).mono fun b hb => by show b < _; rw [size_set3, size_set3]; exact HFZ.out b hb,
            (is_set3 (is_set3 HD.out HNP.out (.int .i64 LU.kind) (.int .i64 LU.prop) (.slice A2 n2 m2)) HNQ.out (.int .i64 LV.kind) (.int .i64 LV.prop) (.slice A5 n5 m5)).mono fun b hb => by show b < _; rw [size_set3, size_set3]; exact HFZ.out b hb⟩)
          clear hWZ x0 x1 x2 z0 z1 z2 fp0 fp1 fp2 fq0 fq1 fq2 HP HD HFZ HNP HNQ HBP HBQ HLZ HI2 HI5 H2L H5L HB6
          generalize ((((((wz.setCell ⟨gp, 0, none⟩ (.int .i64 LU.kind)).setCell ⟨gp, 1, none⟩ (.int .i64 LU.prop)).setCell ⟨gp, 2, none⟩ (.slice A2 n2 m2)).setCell ⟨gq, 0, none⟩ (.int .i64 LV.kind)).setCell ⟨gq, 1, none⟩ (.int .i64 LV.prop)).setCell ⟨gq, 2, none⟩ (.slice A5 n5 m5)) = W9 at *
          obtain ⟨LG, hLG⟩ : ∃ U, U = Ltl.mk 9 0 [f1] := ⟨_, rfl⟩
          obtain ⟨LE, hLE⟩ : ∃ U, U = Ltl.mk 10 0 [f1] := ⟨_, rfl⟩
          have HLG := Lib.hid hLG
          have HLE := Lib.hid hLE
          clear hLG hLE
          refine wp_region_jump (L := #[false, false, false, false, false, false, true, true]) 6 (by kernel_rfl) (by kernel_rfl) (by kernel_rfl) ?_
          have hF0 : ∀ k, Lt W9.drew.heap.size k → k < W9.drew.heap.size := fun _ h => h
          refine wpJ_boxL (base := W9.heap.size) (i := 4) (Z := #[.int .i64 0, .int .i64 0, .slice none 0 0]) rfl (by kernel_rfl) (by kernel_rfl) (by kernel_rfl) (fun _ => by kernel_rfl) (fun _ _ _ _ h => h) hF0 (Nat.le_refl _) ?_
          refine wpJ_boxL (base := W9.heap.size) (i := 5) (Z := #[.int .i64 0, .int .i64 0, .slice none 0 0]) rfl (by kernel_rfl) (by kernel_rfl) (by kernel_rfl) (fun _ => by kernel_rfl) (fun _ _ _ _ h => h) hF0 (Nat.le_refl _) ?_
          refine wpJ_takeL (i := 0) (v := ?_) rfl (by kernel_rfl) (by kernel_rfl) (by kernel_rfl) (fun _ _ _ h => h) hF0 (Or.inl ⟨by rfl, ?_⟩) ?_
          rotate_left
          focus
            intro W' hj
            obtain ⟨y0, y1, y2, y3, y4, y5, y6, y7⟩ := (HB6z.out.call (Jmp.low hj)).cells
            clear hj
            go_simp
            try with_reducible rfl
          simp only [Act.put, List.setIfInBounds_toArray, List.set_cons_zero, List.set_cons_succ]
          refine wpJ_takeL (i := 2) (v := ?_) rfl (by kernel_rfl) (by kernel_rfl) (by kernel_rfl) (fun _ _ _ h => h) hF0 (Or.inl ⟨by rfl, ?_⟩) ?_
          rotate_left
          focus
            intro W' hj
            obtain ⟨y0, y1, y2, y3, y4, y5, y6, y7⟩ := (HB6z.out.call (Jmp.low hj)).cells
            clear hj
            go_simp
            try with_reducible rfl
          simp only [Act.put, List.setIfInBounds_toArray, List.set_cons_zero, List.set_cons_succ]
          refine wpJ_callL (i := 1) (by kernel_rfl) rfl fun v1 j1 K1 k1 => ?_
          have H1L := Lib.hid (Jmp.low j1).size
          go_wp2_with fail
          refine (lone_at 9 LG f1 kf pf Kf nf ef v1 (Lt W9.heap.size) HLG.out (fun b h => Nat.lt_of_lt_of_le h (Jmp.low j1).size) (HB6z.out.h1.call (Bd.lt _) (Jmp.low j1))).mono ?_
          rintro e1' w1' ⟨A1, n1, m1, rfl, hi1, b1⟩
          have HI1 := Lib.hid hi1
          clear hi1
          go_wp2_with fail
          refine k1.out _ _ b1 ?_
          clear k1
          have hF2 := grow_F (j1.grow hF0) b1.size
          refine wpJ_callL (i := 3) (by kernel_rfl) rfl fun v3 j3 K3 k3 => ?_
          have H3L := Lib.hid (Jmp.low (j1.back hF0 b1 j3)).size
          go_wp2_with fail
          refine (lone_at 10 LE f1 kf pf Kf nf ef v3 (Lt W9.heap.size) HLE.out (fun b h => Nat.lt_of_lt_of_le h (Jmp.low (j1.back hF0 b1 j3)).size) (HB6z.out.h1.call (Bd.lt _) (Jmp.low (j1.back hF0 b1 j3)))).mono ?_
          rintro e3' w3' ⟨A3, n3, m3, rfl, hi3, b3⟩
          have HI3 := Lib.hid hi3
          clear hi3
          go_wp2_with fail
          refine k3.out _ _ b3 ?_
          clear k3
          have hF4 := grow_F (j3.grow hF2) b3.size
          refine wpJ_end (by kernel_rfl) (fun wz jz => ?_) _
          have hlz := Jmp.low (j1.back hF0 b1 (j3.back hF2 b3 jz))
          have hP : Ltl.Is wz (fun b => (Lt W9.drew.heap.size b ∨ Iv v1 w1' b) ∨ Iv v3 w3' b) LG [.int .i64 LG.kind, .int .i64 LG.prop, .slice A1 n1 m1] := D.Is.keep (fun b hb => ⟨.inl (hb.elim .inl .inr), (j3.back hF2 b3 jz).keep b (hb.elim (fun h => (.inl h)) .inr)⟩) _ _ HI1.out
          have hD : Ltl.Is wz (fun b => (Lt W9.drew.heap.size b ∨ Iv v1 w1' b) ∨ Iv v3 w3' b) LE [.int .i64 LE.kind, .int .i64 LE.prop, .slice A3 n3 m3] := D.Is.keep (fun b hb => ⟨hb.elim (fun h => .inl (.inl h)) .inr, jz.keep b (hb.elim (fun h => (.inl (.inl h))) .inr)⟩) _ _ HI3.out
          have hFz : ∀ b, (fun b => (Lt W9.drew.heap.size b ∨ Iv v1 w1' b) ∨ Iv v3 w3' b) b → b < wz.heap.size := fun b hb => Nat.lt_of_lt_of_le (hF4 b hb) jz.size
          intro gs loq noq bkq gr lop nop bkp
          have hne : gr ≠ gs := fun h => nop (.inr h)
          have HBP := Lib.hid bkp
          have HBQ := Lib.hid bkq
          have HP := Lib.hid hP
          have HD := Lib.hid hD
          have HFZ := Lib.hid hFz
          have HNP := Lib.hid (show ¬ (fun b => (Lt W9.drew.heap.size b ∨ Iv v1 w1' b) ∨ Iv v3 w3' b) gr from fun h => nop (.inl h))
          have HNQ := Lib.hid (show ¬ (fun b => (Lt W9.drew.heap.size b ∨ Iv v1 w1' b) ∨ Iv v3 w3' b) gs from noq)
          have HLZ := Lib.hid hlz
          obtain ⟨x0, x1, x2⟩ := cells3 bkp
          obtain ⟨z0, z1, z2⟩ := cells3 bkq
          have fp0 := bkp.frozen 0
          have fp1 := bkp.frozen 1
          have fp2 := bkp.frozen 2
          have fq0 := bkq.frozen 0
          have fq1 := bkq.frozen 1
          have fq2 := bkq.frozen 2
          clear bkp bkq hlz nop noq jz hP hD hFz
          refine ⟨by kernel_rfl, ?_⟩
          simp only [Act.put, List.setIfInBounds_toArray, List.set_cons_zero, List.set_cons_succ]
          go_upto_region 11 with (fail)
          have hWZ : Below W9.heap.size W9 ((((((wz.setCell ⟨gr, 0, none⟩ (.int .i64 LG.kind)).setCell ⟨gr, 1, none⟩ (.int .i64 LG.prop)).setCell ⟨gr, 2, none⟩ (.slice A1 n1 m1)).setCell ⟨gs, 0, none⟩ (.int .i64 LE.kind)).setCell ⟨gs, 1, none⟩ (.int .i64 LE.prop)).setCell ⟨gs, 2, none⟩ (.slice A3 n3 m3)) := below_set3 (below_set3 HLZ.out lop (.int .i64 LG.kind) (.int .i64 LG.prop) (.slice A1 n1 m1)) loq (.int .i64 LE.kind) (.int .i64 LE.prop) (.slice A3 n3 m3)
          have HB6zz := Lib.hid (HB6z.out.call hWZ)
          have HPDgpz := Lib.hid (HPDgp.out.call hWZ)
          have HPDgr := Lib.hid (show PD LG LE gr gs A1 n1 m1 A3 n3 m3 ((((((wz.setCell ⟨gr, 0, none⟩ (.int .i64 LG.kind)).setCell ⟨gr, 1, none⟩ (.int .i64 LG.prop)).setCell ⟨gr, 2, none⟩ (.slice A1 n1 m1)).setCell ⟨gs, 0, none⟩ (.int .i64 LE.kind)).setCell ⟨gs, 1, none⟩ (.int .i64 LE.prop)).setCell ⟨gs, 2, none⟩ (.slice A3 n3 m3)) from ⟨blk_far3 (blk_set3 HBP.out (.int .i64 LG.kind) (.int .i64 LG.prop) (.slice A1 n1 m1)) hne (.int .i64 LE.kind) (.int .i64 LE.prop) (.slice A3 n3 m3), blk_set3 (blk_far3 HBQ.out (Ne.symm hne) (.int .i64 LG.kind) (.int .i64 LG.prop) (.slice A1 n1 m1)) (.int .i64 LE.kind) (.int .i64 LE.prop) (.slice A3 n3 m3),
            (is_set3 (is_set3 HP.out HNP.out (.int .i64 LG.kind) (.int .i64 LG.prop) (.slice A1 n1 m1)) HNQ.out (.int .i64 LE.kind) (.int .i64 LE.prop) (.slice A3 n3 m3)).mono fun b hb => by show b < _; rw [size_set3, size_set3]; exact HFZ.out b hb,
            (is_set3 (is_set3 HD.out HNP.out (.int .i64 LG.kind) (.int .i64 LG.prop) (.slice A1 n1 m1)) HNQ.out (.int .i64 LE.kind) (.int .i64 LE.prop) (.slice A3 n3 m3)).mono fun b hb => by show b < _; rw [size_set3, size_set3]; exact HFZ.out b hb⟩)
          clear hWZ x0 x1 x2 z0 z1 z2 fp0 fp1 fp2 fq0 fq1 fq2 HP HD HFZ HNP HNQ HBP HBQ HLZ HI1 HI3 H1L H3L HB6z HPDgp
          generalize ((((((wz.setCell ⟨gr, 0, none⟩ (.int .i64 LG.kind)).setCell ⟨gr, 1, none⟩ (.int .i64 LG.prop)).setCell ⟨gr, 2, none⟩ (.slice A1 n1 m1)).setCell ⟨gs, 0, none⟩ (.int .i64 LE.kind)).setCell ⟨gs, 1, none⟩ (.int .i64 LE.prop)).setCell ⟨gs, 2, none⟩ (.slice A3 n3 m3)) = W10 at *
          obtain ⟨sLU, hsLU⟩ : ∃ s, LU.norm.sat x (m + 1) = s := ⟨_, rfl⟩
          have huLU := until_step f1 f2 (x := x) m H0.out
          rw [← HLU.out, hsLU, HA.out, HB.out] at huLU
          have HSLU := Lib.hid hsLU
          have HULU := Lib.hid huLU
          clear hsLU huLU
          have hnLU : (sLU != sLU) = false := by cases sLU <;> rfl
          obtain ⟨sLV, hsLV⟩ : ∃ s, LV.norm.sat x (m + 1) = s := ⟨_, rfl⟩
          have huLV := free_step f1 f2 (x := x) m H0.out
          rw [← HLV.out, hsLV, HA.out, HB.out] at huLV
          have HSLV := Lib.hid hsLV
          have HULV := Lib.hid huLV
          clear hsLV huLV
          have hnLV : (sLV != sLV) = false := by cases sLV <;> rfl
          obtain ⟨sLG, hsLG⟩ : ∃ s, LG.norm.sat x (m + 1) = s := ⟨_, rfl⟩
          have huLG := all_step f1 (x := x) m H0.out
          rw [← HLG.out, hsLG, HA.out] at huLG
          have HSLG := Lib.hid hsLG
          have HULG := Lib.hid huLG
          clear hsLG huLG
          have hnLG : (sLG != sLG) = false := by cases sLG <;> rfl
          obtain ⟨sLE, hsLE⟩ : ∃ s, LE.norm.sat x (m + 1) = s := ⟨_, rfl⟩
          have huLE := some_step f1 (x := x) m H0.out
          rw [← HLE.out, hsLE, HA.out] at huLE
          have HSLE := Lib.hid hsLE
          have HULE := Lib.hid huLE
          clear hsLE huLE
          have hnLE : (sLE != sLE) = false := by cases sLE <;> rfl
          obtain ⟨y0, y1, y2, y3, y4, y5, y6, y7⟩ := HB6zz.out.cells
          obtain ⟨z0, z1, z2, z3, z4, z5⟩ := HPDgpz.out.cells
          obtain ⟨u0, u1, u2, u3, u4, u5⟩ := HPDgr.out.cells
          go_wp2_with fail
          refine (wholds_at x LU _ _ A2 n2 m2 A B c d _ m W10 true (by first | rfl | omega | (rw [Go.IntWalk.i64_in _ (by omega)]; omega)) (HULU.out.trans rfl) hsm H0.out (by omega) HPDgpz.out.hp HB6zz.out.hw).mono ?_
          rintro ex0 X0 ⟨rfl, bb⟩
          have HX0 := Lib.hid (HB6zz.out.call bb)
          have HY0 := Lib.hid (HPDgpz.out.call bb)
          have HZ0 := Lib.hid (HPDgr.out.call bb)
          clear bb y0 y1 y2 y3 y4 y5 y6 y7 z0 z1 z2 z3 z4 z5 u0 u1 u2 u3 u4 u5
          clear HB6zz HPDgpz HPDgr
          obtain ⟨y0, y1, y2, y3, y4, y5, y6, y7⟩ := HX0.out.cells
          obtain ⟨z0, z1, z2, z3, z4, z5⟩ := HY0.out.cells
          obtain ⟨u0, u1, u2, u3, u4, u5⟩ := HZ0.out.cells
          go_wp2_with fail
          refine (wholds_at x LV _ _ A5 n5 m5 A B c d _ m X0 true (by first | rfl | omega | (rw [Go.IntWalk.i64_in _ (by omega)]; omega)) (HULV.out.trans rfl) hsm H0.out (by omega) HY0.out.hd HX0.out.hw).mono ?_
          rintro ex1 X1 ⟨rfl, bb⟩
          have HX1 := Lib.hid (HX0.out.call bb)
          have HY1 := Lib.hid (HY0.out.call bb)
          have HZ1 := Lib.hid (HZ0.out.call bb)
          clear bb y0 y1 y2 y3 y4 y5 y6 y7 z0 z1 z2 z3 z4 z5 u0 u1 u2 u3 u4 u5
          clear HX0 HY0 HZ0
          obtain ⟨y0, y1, y2, y3, y4, y5, y6, y7⟩ := HX1.out.cells
          obtain ⟨z0, z1, z2, z3, z4, z5⟩ := HY1.out.cells
          obtain ⟨u0, u1, u2, u3, u4, u5⟩ := HZ1.out.cells
          go_wp2_with fail
          refine (wholds_at x LG _ _ A1 n1 m1 A B c d _ m X1 sLG (by first | rfl | omega | (rw [Go.IntWalk.i64_in _ (by omega)]; omega)) (HULG.out.trans rfl) hsm H0.out (by omega) HZ1.out.hp HX1.out.hw).mono ?_
          rintro ex2 X2 ⟨rfl, bb⟩
          have HX2 := Lib.hid (HX1.out.call bb)
          have HY2 := Lib.hid (HY1.out.call bb)
          have HZ2 := Lib.hid (HZ1.out.call bb)
          clear bb y0 y1 y2 y3 y4 y5 y6 y7 z0 z1 z2 z3 z4 z5 u0 u1 u2 u3 u4 u5
          clear HX1 HY1 HZ1
          obtain ⟨y0, y1, y2, y3, y4, y5, y6, y7⟩ := HX2.out.cells
          obtain ⟨z0, z1, z2, z3, z4, z5⟩ := HY2.out.cells
          obtain ⟨u0, u1, u2, u3, u4, u5⟩ := HZ2.out.cells
          go_wp2_with fail
          refine (wholds_at x LG _ _ A1 n1 m1 A B c d _ (m + 1) X2 sLG (by first | rfl | omega | (rw [Go.IntWalk.i64_in _ (by omega)]; omega)) HSLG.out hsm H0.out (by omega) HZ2.out.hp HX2.out.hw).mono ?_
          rintro ex3 X3 ⟨rfl, bb⟩
          have HX3 := Lib.hid (HX2.out.call bb)
          have HY3 := Lib.hid (HY2.out.call bb)
          have HZ3 := Lib.hid (HZ2.out.call bb)
          clear bb y0 y1 y2 y3 y4 y5 y6 y7 z0 z1 z2 z3 z4 z5 u0 u1 u2 u3 u4 u5
          clear HX2 HY2 HZ2
          obtain ⟨y0, y1, y2, y3, y4, y5, y6, y7⟩ := HX3.out.cells
          obtain ⟨z0, z1, z2, z3, z4, z5⟩ := HY3.out.cells
          obtain ⟨u0, u1, u2, u3, u4, u5⟩ := HZ3.out.cells
          go_wp2_with fail
          refine (wholds_at x LE _ _ A3 n3 m3 A B c d _ m X3 true (by first | rfl | omega | (rw [Go.IntWalk.i64_in _ (by omega)]; omega)) (HULE.out.trans rfl) hsm H0.out (by omega) HZ3.out.hd HX3.out.hw).mono ?_
          rintro ex4 X4 ⟨rfl, bb⟩
          have HX4 := Lib.hid (HX3.out.call bb)
          have HY4 := Lib.hid (HY3.out.call bb)
          have HZ4 := Lib.hid (HZ3.out.call bb)
          clear bb y0 y1 y2 y3 y4 y5 y6 y7 z0 z1 z2 z3 z4 z5 u0 u1 u2 u3 u4 u5
          clear HX3 HY3 HZ3
          obtain ⟨y0, y1, y2, y3, y4, y5, y6, y7⟩ := HX4.out.cells
          obtain ⟨z0, z1, z2, z3, z4, z5⟩ := HY4.out.cells
          obtain ⟨u0, u1, u2, u3, u4, u5⟩ := HZ4.out.cells
          go_upto_region 15 with (fail)
          clear y0 y1 y2 y3 y4 y5 y6 y7 z0 z1 z2 z3 z4 z5 u0 u1 u2 u3 u4 u5
          clear hnLU hnLV hnLG hnLE HLU HLV HLG HLE HSLU HSLV HSLG HSLE HULU HULV HULG HULE
          have hng : (g == g) = true := by cases g <;> rfl
          obtain ⟨LN, hLN⟩ : ∃ U, U = Ltl.mk 8 0 [f1] := ⟨_, rfl⟩
          have HLN := Lib.hid hLN
          have HSLN := Lib.hid (show LN.norm.sat x m = (g) by rw [hLN, next_at, HG.out])
          clear hLN
          obtain ⟨LO, hLO⟩ : ∃ U, U = Ltl.mk 3 0 [f1] := ⟨_, rfl⟩
          have HLO := Lib.hid hLO
          have HSLO := Lib.hid (show LO.norm.sat x m = (!true) by rw [hLO, not_at, HA.out])
          clear hLO
          obtain ⟨LC, hLC⟩ : ∃ U, U = Ltl.mk 4 0 [f1, f2] := ⟨_, rfl⟩
          have HLC := Lib.hid hLC
          have HSLC := Lib.hid (show LC.norm.sat x m = ((true && true)) by rw [hLC, and_at, HA.out, HB.out])
          clear hLC
          obtain ⟨LD, hLD⟩ : ∃ U, U = Ltl.mk 5 0 [f1, f2] := ⟨_, rfl⟩
          have HLD := Lib.hid hLD
          have HSLD := Lib.hid (show LD.norm.sat x m = ((true || true)) by rw [hLD, or_at, HA.out, HB.out])
          clear hLD
          obtain ⟨LI, hLI⟩ : ∃ U, U = Ltl.mk 7 0 [f1, f2] := ⟨_, rfl⟩
          have HLI := Lib.hid hLI
          have HSLI := Lib.hid (show LI.norm.sat x m = ((!true || true)) by rw [hLI, imp_at, HA.out, HB.out])
          clear hLI
          refine wp_region_jump (L := #[false, false, false, false, false, false, false, false, false, false, false, false, false, false, false, false, false, false, false, false, false, false, false, false, false, false, false, false, false, false, false, false, false, false, false, false, false, false, false, false, false, false, false, false, false, false, false, false, false, false, false, false, false, false, false, false, false, false, false, false, true]) 60 (by kernel_rfl) (by kernel_rfl) (by kernel_rfl) ?_
          have hF0 : ∀ k, Lt X4.drew.heap.size k → k < X4.drew.heap.size := fun _ h => h
          refine wpJ_takeL (i := 0) (v := ?_) rfl (by kernel_rfl) (by kernel_rfl) (by kernel_rfl) (fun _ _ _ h => h) hF0 (Or.inl ⟨by rfl, ?_⟩) ?_
          rotate_left
          focus
            intro W' hj
            obtain ⟨y0, y1, y2, y3, y4, y5, y6, y7⟩ := (HX4.out.call (Jmp.low hj)).cells
            clear hj
            go_simp
            try with_reducible rfl
          simp only [Act.put, List.setIfInBounds_toArray, List.set_cons_zero, List.set_cons_succ]
          refine wpJ_takeL (i := 2) (v := ?_) rfl (by kernel_rfl) (by kernel_rfl) (by kernel_rfl) (fun _ _ _ h => h) hF0 (Or.inl ⟨by rfl, ?_⟩) ?_
          rotate_left
          focus
            intro W' hj
            obtain ⟨y0, y1, y2, y3, y4, y5, y6, y7⟩ := (HX4.out.call (Jmp.low hj)).cells
            clear hj
            go_simp
            try with_reducible rfl
          simp only [Act.put, List.setIfInBounds_toArray, List.set_cons_zero, List.set_cons_succ]
          refine wpJ_takeL (i := 3) (v := ?_) rfl (by kernel_rfl) (by kernel_rfl) (by kernel_rfl) (fun _ _ _ h => h) hF0 (Or.inl ⟨by rfl, ?_⟩) ?_
          rotate_left
          focus
            intro W' hj
            obtain ⟨y0, y1, y2, y3, y4, y5, y6, y7⟩ := (HX4.out.call (Jmp.low hj)).cells
            clear hj
            go_simp
            try with_reducible rfl
          simp only [Act.put, List.setIfInBounds_toArray, List.set_cons_zero, List.set_cons_succ]
          refine wpJ_takeL (i := 5) (v := ?_) rfl (by kernel_rfl) (by kernel_rfl) (by kernel_rfl) (fun _ _ _ h => h) hF0 (Or.inl ⟨by rfl, ?_⟩) ?_
          rotate_left
          focus
            intro W' hj
            obtain ⟨y0, y1, y2, y3, y4, y5, y6, y7⟩ := (HX4.out.call (Jmp.low hj)).cells
            clear hj
            go_simp
            try with_reducible rfl
          simp only [Act.put, List.setIfInBounds_toArray, List.set_cons_zero, List.set_cons_succ]
          refine wpJ_takeL (i := 6) (v := ?_) rfl (by kernel_rfl) (by kernel_rfl) (by kernel_rfl) (fun _ _ _ h => h) hF0 (Or.inl ⟨by rfl, ?_⟩) ?_
          rotate_left
          focus
            intro W' hj
            obtain ⟨y0, y1, y2, y3, y4, y5, y6, y7⟩ := (HX4.out.call (Jmp.low hj)).cells
            clear hj
            go_simp
            try with_reducible rfl
          simp only [Act.put, List.setIfInBounds_toArray, List.set_cons_zero, List.set_cons_succ]
          refine wpJ_takeL (i := 7) (v := ?_) rfl (by kernel_rfl) (by kernel_rfl) (by kernel_rfl) (fun _ _ _ h => h) hF0 (Or.inl ⟨by rfl, ?_⟩) ?_
          rotate_left
          focus
            intro W' hj
            obtain ⟨y0, y1, y2, y3, y4, y5, y6, y7⟩ := (HX4.out.call (Jmp.low hj)).cells
            clear hj
            go_simp
            try with_reducible rfl
          simp only [Act.put, List.setIfInBounds_toArray, List.set_cons_zero, List.set_cons_succ]
          refine wpJ_takeL (i := 8) (v := ?_) rfl (by kernel_rfl) (by kernel_rfl) (by kernel_rfl) (fun _ _ _ h => h) hF0 (Or.inl ⟨by rfl, ?_⟩) ?_
          rotate_left
          focus
            intro W' hj
            obtain ⟨y0, y1, y2, y3, y4, y5, y6, y7⟩ := (HX4.out.call (Jmp.low hj)).cells
            clear hj
            go_simp
            try with_reducible rfl
          simp only [Act.put, List.setIfInBounds_toArray, List.set_cons_zero, List.set_cons_succ]
          refine wpJ_callL (i := 1) (by kernel_rfl) rfl fun v1 j1 K1 k1 => ?_
          have H1L := Lib.hid (Jmp.low j1).size
          go_wp2_with fail
          refine (lone_at 8 LN f1 kf pf Kf nf ef v1 (Lt X4.heap.size) HLN.out (fun b h => Nat.lt_of_lt_of_le h (Jmp.low j1).size) (HX4.out.h1.call (Bd.lt _) (Jmp.low j1))).mono ?_
          rintro e1' w1' ⟨A1, n1, m1, rfl, hi1, b1⟩
          have HI1 := Lib.hid hi1
          clear hi1
          go_wp2_with fail
          refine k1.out _ _ b1 ?_
          clear k1
          have hF2 := grow_F (j1.grow hF0) b1.size
          refine wpJ_callL (i := 4) (by kernel_rfl) rfl fun v4 j4 K4 k4 => ?_
          go_wp2_with fail
          refine (wholds_at x LN _ _ A1 n1 m1 A B c d _ m v4 g (by first | rfl | omega | (rw [Go.IntWalk.i64_in _ (by omega)]; omega)) (HSLN.out.trans rfl) hsm H0.out (by omega) (is_jump2 HI1.out (fun b h => Nat.lt_of_lt_of_le h (Nat.le_trans H1L.out b1.size)) j4 (fun b hb => hb.elim .inr (fun h => (.inl h)))) (HX4.out.call (Jmp.low (j1.back hF0 b1 j4))).hw).mono ?_
          rintro e4' w4' ⟨rfl, b4⟩
          go_wp2_with fail
          refine k4.out _ _ b4 ?_
          clear k4
          have hF5 := grow_F (j4.grow hF2) b4.size
          refine wpJ_callL (i := 9) (by kernel_rfl) rfl fun v9 j9 K9 k9 => ?_
          go_wp2_with fail
          refine (wholds_at x f1 kf pf Kf nf ef A B c d _ (m + 1) v9 g (by first | rfl | omega | (rw [Go.IntWalk.i64_in _ (by omega)]; omega)) HG.out hsm H0.out (by omega) (HX4.out.call (Jmp.low (j1.back hF0 b1 (j4.back hF2 b4 j9)))).h1 (HX4.out.call (Jmp.low (j1.back hF0 b1 (j4.back hF2 b4 j9)))).hw).mono ?_
          rintro e9' w9' ⟨rfl, b9⟩
          go_wp2_with fail
          refine k9.out _ _ b9 ?_
          clear k9
          have hF10 := grow_F (j9.grow hF5) b9.size
          refine wpJ_takeL (i := 10) (v := ?_) rfl (by kernel_rfl) (by kernel_rfl) (by kernel_rfl) (fun _ _ _ h => h) hF10 (Or.inl ⟨by rfl, ?_⟩) ?_
          rotate_left
          focus
            intro W' hj
            obtain ⟨y0, y1, y2, y3, y4, y5, y6, y7⟩ := (HX4.out.call (Jmp.low (j1.back hF0 b1 (j4.back hF2 b4 (j9.back hF5 b9 hj))))).cells
            clear hj
            go_simp
            try with_reducible rfl
          simp only [Act.put, List.setIfInBounds_toArray, List.set_cons_zero, List.set_cons_succ]
          refine wpJ_takeL (i := 11) (v := ?_) rfl (by kernel_rfl) (by kernel_rfl) (by kernel_rfl) (fun _ _ _ h => h) hF10 (Or.inl ⟨by rfl, ?_⟩) ?_
          rotate_left
          focus
            intro W' hj
            obtain ⟨y0, y1, y2, y3, y4, y5, y6, y7⟩ := (HX4.out.call (Jmp.low (j1.back hF0 b1 (j4.back hF2 b4 (j9.back hF5 b9 hj))))).cells
            clear hj
            go_simp
            try with_reducible rfl
          simp only [Act.put, List.setIfInBounds_toArray, List.set_cons_zero, List.set_cons_succ]
          refine wpJ_takeL (i := 12) (v := ?_) rfl (by kernel_rfl) (by kernel_rfl) (by kernel_rfl) (fun _ _ _ h => h) hF10 (Or.inl ⟨by rfl, ?_⟩) ?_
          rotate_left
          focus
            intro W' hj
            obtain ⟨y0, y1, y2, y3, y4, y5, y6, y7⟩ := (HX4.out.call (Jmp.low (j1.back hF0 b1 (j4.back hF2 b4 (j9.back hF5 b9 hj))))).cells
            clear hj
            go_simp
            try with_reducible rfl
          simp only [Act.put, List.setIfInBounds_toArray, List.set_cons_zero, List.set_cons_succ]
          refine wpJ_takeL (i := 14) (v := ?_) rfl (by kernel_rfl) (by kernel_rfl) (by kernel_rfl) (fun _ _ _ h => h) hF10 (Or.inl ⟨by rfl, ?_⟩) ?_
          rotate_left
          focus
            intro W' hj
            obtain ⟨y0, y1, y2, y3, y4, y5, y6, y7⟩ := (HX4.out.call (Jmp.low (j1.back hF0 b1 (j4.back hF2 b4 (j9.back hF5 b9 hj))))).cells
            clear hj
            go_simp
            try with_reducible rfl
          simp only [Act.put, List.setIfInBounds_toArray, List.set_cons_zero, List.set_cons_succ]
          refine wpJ_takeL (i := 15) (v := ?_) rfl (by kernel_rfl) (by kernel_rfl) (by kernel_rfl) (fun _ _ _ h => h) hF10 (Or.inl ⟨by rfl, ?_⟩) ?_
          rotate_left
          focus
            intro W' hj
            obtain ⟨y0, y1, y2, y3, y4, y5, y6, y7⟩ := (HX4.out.call (Jmp.low (j1.back hF0 b1 (j4.back hF2 b4 (j9.back hF5 b9 hj))))).cells
            clear hj
            go_simp
            try with_reducible rfl
          simp only [Act.put, List.setIfInBounds_toArray, List.set_cons_zero, List.set_cons_succ]
          refine wpJ_takeL (i := 17) (v := ?_) rfl (by kernel_rfl) (by kernel_rfl) (by kernel_rfl) (fun _ _ _ h => h) hF10 (Or.inl ⟨by rfl, ?_⟩) ?_
          rotate_left
          focus
            intro W' hj
            obtain ⟨y0, y1, y2, y3, y4, y5, y6, y7⟩ := (HX4.out.call (Jmp.low (j1.back hF0 b1 (j4.back hF2 b4 (j9.back hF5 b9 hj))))).cells
            clear hj
            go_simp
            try with_reducible rfl
          simp only [Act.put, List.setIfInBounds_toArray, List.set_cons_zero, List.set_cons_succ]
          refine wpJ_callL (i := 13) (by kernel_rfl) rfl fun v13 j13 K13 k13 => ?_
          have H13L := Lib.hid (Jmp.low (j1.back hF0 b1 (j4.back hF2 b4 (j9.back hF5 b9 j13)))).size
          go_wp2_with fail
          refine (lone_at 3 LO f1 kf pf Kf nf ef v13 (Lt X4.heap.size) HLO.out (fun b h => Nat.lt_of_lt_of_le h (Jmp.low (j1.back hF0 b1 (j4.back hF2 b4 (j9.back hF5 b9 j13)))).size) (HX4.out.h1.call (Bd.lt _) (Jmp.low (j1.back hF0 b1 (j4.back hF2 b4 (j9.back hF5 b9 j13)))))).mono ?_
          rintro e13' w13' ⟨A13, n13, m13, rfl, hi13, b13⟩
          have HI13 := Lib.hid hi13
          clear hi13
          go_wp2_with fail
          refine k13.out _ _ b13 ?_
          clear k13
          have hF14 := grow_F (j13.grow hF10) b13.size
          refine wpJ_callL (i := 16) (by kernel_rfl) rfl fun v16 j16 K16 k16 => ?_
          go_wp2_with fail
          refine (wholds_at x LO _ _ A13 n13 m13 A B c d _ m v16 false (by first | rfl | omega | (rw [Go.IntWalk.i64_in _ (by omega)]; omega)) (HSLO.out.trans rfl) hsm H0.out (by omega) (is_jump2 HI13.out (fun b h => Nat.lt_of_lt_of_le h (Nat.le_trans H13L.out b13.size)) j16 (fun b hb => hb.elim .inr (fun h => (.inl (.inl (.inl (.inl h))))))) (HX4.out.call (Jmp.low (j1.back hF0 b1 (j4.back hF2 b4 (j9.back hF5 b9 (j13.back hF10 b13 j16)))))).hw).mono ?_
          rintro e16' w16' ⟨rfl, b16⟩
          go_wp2_with fail
          refine k16.out _ _ b16 ?_
          clear k16
          have hF17 := grow_F (j16.grow hF14) b16.size
          refine wpJ_takeL (i := 18) (v := ?_) rfl (by kernel_rfl) (by kernel_rfl) (by kernel_rfl) (fun _ _ _ h => h) hF17 (Or.inl ⟨by rfl, ?_⟩) ?_
          rotate_left
          focus
            intro W' hj
            obtain ⟨y0, y1, y2, y3, y4, y5, y6, y7⟩ := (HX4.out.call (Jmp.low (j1.back hF0 b1 (j4.back hF2 b4 (j9.back hF5 b9 (j13.back hF10 b13 (j16.back hF14 b16 hj))))))).cells
            clear hj
            go_simp
            try with_reducible rfl
          simp only [Act.put, List.setIfInBounds_toArray, List.set_cons_zero, List.set_cons_succ]
          refine wpJ_takeL (i := 19) (v := ?_) rfl (by kernel_rfl) (by kernel_rfl) (by kernel_rfl) (fun _ _ _ h => h) hF17 (Or.inl ⟨by rfl, ?_⟩) ?_
          rotate_left
          focus
            intro W' hj
            obtain ⟨y0, y1, y2, y3, y4, y5, y6, y7⟩ := (HX4.out.call (Jmp.low (j1.back hF0 b1 (j4.back hF2 b4 (j9.back hF5 b9 (j13.back hF10 b13 (j16.back hF14 b16 hj))))))).cells
            clear hj
            go_simp
            try with_reducible rfl
          simp only [Act.put, List.setIfInBounds_toArray, List.set_cons_zero, List.set_cons_succ]
          refine wpJ_takeL (i := 20) (v := ?_) rfl (by kernel_rfl) (by kernel_rfl) (by kernel_rfl) (fun _ _ _ h => h) hF17 (Or.inl ⟨by rfl, ?_⟩) ?_
          rotate_left
          focus
            intro W' hj
            obtain ⟨y0, y1, y2, y3, y4, y5, y6, y7⟩ := (HX4.out.call (Jmp.low (j1.back hF0 b1 (j4.back hF2 b4 (j9.back hF5 b9 (j13.back hF10 b13 (j16.back hF14 b16 hj))))))).cells
            clear hj
            go_simp
            try with_reducible rfl
          simp only [Act.put, List.setIfInBounds_toArray, List.set_cons_zero, List.set_cons_succ]
          refine wpJ_takeL (i := 21) (v := ?_) rfl (by kernel_rfl) (by kernel_rfl) (by kernel_rfl) (fun _ _ _ h => h) hF17 (Or.inl ⟨by rfl, ?_⟩) ?_
          rotate_left
          focus
            intro W' hj
            obtain ⟨y0, y1, y2, y3, y4, y5, y6, y7⟩ := (HX4.out.call (Jmp.low (j1.back hF0 b1 (j4.back hF2 b4 (j9.back hF5 b9 (j13.back hF10 b13 (j16.back hF14 b16 hj))))))).cells
            clear hj
            go_simp
            try with_reducible rfl
          simp only [Act.put, List.setIfInBounds_toArray, List.set_cons_zero, List.set_cons_succ]
          refine wpJ_takeL (i := 22) (v := ?_) rfl (by kernel_rfl) (by kernel_rfl) (by kernel_rfl) (fun _ _ _ h => h) hF17 (Or.inl ⟨by rfl, ?_⟩) ?_
          rotate_left
          focus
            intro W' hj
            obtain ⟨y0, y1, y2, y3, y4, y5, y6, y7⟩ := (HX4.out.call (Jmp.low (j1.back hF0 b1 (j4.back hF2 b4 (j9.back hF5 b9 (j13.back hF10 b13 (j16.back hF14 b16 hj))))))).cells
            clear hj
            go_simp
            try with_reducible rfl
          simp only [Act.put, List.setIfInBounds_toArray, List.set_cons_zero, List.set_cons_succ]
          refine wpJ_takeL (i := 24) (v := ?_) rfl (by kernel_rfl) (by kernel_rfl) (by kernel_rfl) (fun _ _ _ h => h) hF17 (Or.inl ⟨by rfl, ?_⟩) ?_
          rotate_left
          focus
            intro W' hj
            obtain ⟨y0, y1, y2, y3, y4, y5, y6, y7⟩ := (HX4.out.call (Jmp.low (j1.back hF0 b1 (j4.back hF2 b4 (j9.back hF5 b9 (j13.back hF10 b13 (j16.back hF14 b16 hj))))))).cells
            clear hj
            go_simp
            try with_reducible rfl
          simp only [Act.put, List.setIfInBounds_toArray, List.set_cons_zero, List.set_cons_succ]
          refine wpJ_takeL (i := 25) (v := ?_) rfl (by kernel_rfl) (by kernel_rfl) (by kernel_rfl) (fun _ _ _ h => h) hF17 (Or.inl ⟨by rfl, ?_⟩) ?_
          rotate_left
          focus
            intro W' hj
            obtain ⟨y0, y1, y2, y3, y4, y5, y6, y7⟩ := (HX4.out.call (Jmp.low (j1.back hF0 b1 (j4.back hF2 b4 (j9.back hF5 b9 (j13.back hF10 b13 (j16.back hF14 b16 hj))))))).cells
            clear hj
            go_simp
            try with_reducible rfl
          simp only [Act.put, List.setIfInBounds_toArray, List.set_cons_zero, List.set_cons_succ]
          refine wpJ_takeL (i := 27) (v := ?_) rfl (by kernel_rfl) (by kernel_rfl) (by kernel_rfl) (fun _ _ _ h => h) hF17 (Or.inl ⟨by rfl, ?_⟩) ?_
          rotate_left
          focus
            intro W' hj
            obtain ⟨y0, y1, y2, y3, y4, y5, y6, y7⟩ := (HX4.out.call (Jmp.low (j1.back hF0 b1 (j4.back hF2 b4 (j9.back hF5 b9 (j13.back hF10 b13 (j16.back hF14 b16 hj))))))).cells
            clear hj
            go_simp
            try with_reducible rfl
          simp only [Act.put, List.setIfInBounds_toArray, List.set_cons_zero, List.set_cons_succ]
          refine wpJ_callL (i := 23) (by kernel_rfl) rfl fun v23 j23 K23 k23 => ?_
          have H23L := Lib.hid (Jmp.low (j1.back hF0 b1 (j4.back hF2 b4 (j9.back hF5 b9 (j13.back hF10 b13 (j16.back hF14 b16 j23)))))).size
          go_wp2_with fail
          refine (ltwo_at 4 LC f1 f2 kf pf Kf nf ef kg pg Kg ng eg v23 (Lt X4.heap.size) HLC.out (fun b h => Nat.lt_of_lt_of_le h (Jmp.low (j1.back hF0 b1 (j4.back hF2 b4 (j9.back hF5 b9 (j13.back hF10 b13 (j16.back hF14 b16 j23)))))).size) (HX4.out.h1.call (Bd.lt _) (Jmp.low (j1.back hF0 b1 (j4.back hF2 b4 (j9.back hF5 b9 (j13.back hF10 b13 (j16.back hF14 b16 j23))))))) (HX4.out.h2.call (Bd.lt _) (Jmp.low (j1.back hF0 b1 (j4.back hF2 b4 (j9.back hF5 b9 (j13.back hF10 b13 (j16.back hF14 b16 j23)))))))).mono ?_
          rintro e23' w23' ⟨A23, n23, m23, rfl, hi23, b23⟩
          have HI23 := Lib.hid hi23
          clear hi23
          go_wp2_with fail
          refine k23.out _ _ b23 ?_
          clear k23
          have hF24 := grow_F (j23.grow hF17) b23.size
          refine wpJ_callL (i := 26) (by kernel_rfl) rfl fun v26 j26 K26 k26 => ?_
          go_wp2_with fail
          refine (wholds_at x LC _ _ A23 n23 m23 A B c d _ m v26 true (by first | rfl | omega | (rw [Go.IntWalk.i64_in _ (by omega)]; omega)) (HSLC.out.trans rfl) hsm H0.out (by omega) (is_jump2 HI23.out (fun b h => Nat.lt_of_lt_of_le h (Nat.le_trans H23L.out b23.size)) j26 (fun b hb => hb.elim .inr (fun h => (.inl (.inl (.inl (.inl (.inl (.inl h))))))))) (HX4.out.call (Jmp.low (j1.back hF0 b1 (j4.back hF2 b4 (j9.back hF5 b9 (j13.back hF10 b13 (j16.back hF14 b16 (j23.back hF17 b23 j26)))))))).hw).mono ?_
          rintro e26' w26' ⟨rfl, b26⟩
          go_wp2_with fail
          refine k26.out _ _ b26 ?_
          clear k26
          have hF27 := grow_F (j26.grow hF24) b26.size
          refine wpJ_takeL (i := 28) (v := ?_) rfl (by kernel_rfl) (by kernel_rfl) (by kernel_rfl) (fun _ _ _ h => h) hF27 (Or.inl ⟨by rfl, ?_⟩) ?_
          rotate_left
          focus
            intro W' hj
            obtain ⟨y0, y1, y2, y3, y4, y5, y6, y7⟩ := (HX4.out.call (Jmp.low (j1.back hF0 b1 (j4.back hF2 b4 (j9.back hF5 b9 (j13.back hF10 b13 (j16.back hF14 b16 (j23.back hF17 b23 (j26.back hF24 b26 hj))))))))).cells
            clear hj
            go_simp
            try with_reducible rfl
          simp only [Act.put, List.setIfInBounds_toArray, List.set_cons_zero, List.set_cons_succ]
          refine wpJ_takeL (i := 29) (v := ?_) rfl (by kernel_rfl) (by kernel_rfl) (by kernel_rfl) (fun _ _ _ h => h) hF27 (Or.inl ⟨by rfl, ?_⟩) ?_
          rotate_left
          focus
            intro W' hj
            obtain ⟨y0, y1, y2, y3, y4, y5, y6, y7⟩ := (HX4.out.call (Jmp.low (j1.back hF0 b1 (j4.back hF2 b4 (j9.back hF5 b9 (j13.back hF10 b13 (j16.back hF14 b16 (j23.back hF17 b23 (j26.back hF24 b26 hj))))))))).cells
            clear hj
            go_simp
            try with_reducible rfl
          simp only [Act.put, List.setIfInBounds_toArray, List.set_cons_zero, List.set_cons_succ]
          refine wpJ_takeL (i := 30) (v := ?_) rfl (by kernel_rfl) (by kernel_rfl) (by kernel_rfl) (fun _ _ _ h => h) hF27 (Or.inl ⟨by rfl, ?_⟩) ?_
          rotate_left
          focus
            intro W' hj
            obtain ⟨y0, y1, y2, y3, y4, y5, y6, y7⟩ := (HX4.out.call (Jmp.low (j1.back hF0 b1 (j4.back hF2 b4 (j9.back hF5 b9 (j13.back hF10 b13 (j16.back hF14 b16 (j23.back hF17 b23 (j26.back hF24 b26 hj))))))))).cells
            clear hj
            go_simp
            try with_reducible rfl
          simp only [Act.put, List.setIfInBounds_toArray, List.set_cons_zero, List.set_cons_succ]
          refine wpJ_takeL (i := 31) (v := ?_) rfl (by kernel_rfl) (by kernel_rfl) (by kernel_rfl) (fun _ _ _ h => h) hF27 (Or.inl ⟨by rfl, ?_⟩) ?_
          rotate_left
          focus
            intro W' hj
            obtain ⟨y0, y1, y2, y3, y4, y5, y6, y7⟩ := (HX4.out.call (Jmp.low (j1.back hF0 b1 (j4.back hF2 b4 (j9.back hF5 b9 (j13.back hF10 b13 (j16.back hF14 b16 (j23.back hF17 b23 (j26.back hF24 b26 hj))))))))).cells
            clear hj
            go_simp
            try with_reducible rfl
          simp only [Act.put, List.setIfInBounds_toArray, List.set_cons_zero, List.set_cons_succ]
          refine wpJ_takeL (i := 32) (v := ?_) rfl (by kernel_rfl) (by kernel_rfl) (by kernel_rfl) (fun _ _ _ h => h) hF27 (Or.inl ⟨by rfl, ?_⟩) ?_
          rotate_left
          focus
            intro W' hj
            obtain ⟨y0, y1, y2, y3, y4, y5, y6, y7⟩ := (HX4.out.call (Jmp.low (j1.back hF0 b1 (j4.back hF2 b4 (j9.back hF5 b9 (j13.back hF10 b13 (j16.back hF14 b16 (j23.back hF17 b23 (j26.back hF24 b26 hj))))))))).cells
            clear hj
            go_simp
            try with_reducible rfl
          simp only [Act.put, List.setIfInBounds_toArray, List.set_cons_zero, List.set_cons_succ]
          refine wpJ_takeL (i := 33) (v := ?_) rfl (by kernel_rfl) (by kernel_rfl) (by kernel_rfl) (fun _ _ _ h => h) hF27 (Or.inl ⟨by rfl, ?_⟩) ?_
          rotate_left
          focus
            intro W' hj
            obtain ⟨y0, y1, y2, y3, y4, y5, y6, y7⟩ := (HX4.out.call (Jmp.low (j1.back hF0 b1 (j4.back hF2 b4 (j9.back hF5 b9 (j13.back hF10 b13 (j16.back hF14 b16 (j23.back hF17 b23 (j26.back hF24 b26 hj))))))))).cells
            clear hj
            go_simp
            try with_reducible rfl
          simp only [Act.put, List.setIfInBounds_toArray, List.set_cons_zero, List.set_cons_succ]
          refine wpJ_takeL (i := 34) (v := ?_) rfl (by kernel_rfl) (by kernel_rfl) (by kernel_rfl) (fun _ _ _ h => h) hF27 (Or.inl ⟨by rfl, ?_⟩) ?_
          rotate_left
          focus
            intro W' hj
            obtain ⟨y0, y1, y2, y3, y4, y5, y6, y7⟩ := (HX4.out.call (Jmp.low (j1.back hF0 b1 (j4.back hF2 b4 (j9.back hF5 b9 (j13.back hF10 b13 (j16.back hF14 b16 (j23.back hF17 b23 (j26.back hF24 b26 hj))))))))).cells
            clear hj
            go_simp
            try with_reducible rfl
          simp only [Act.put, List.setIfInBounds_toArray, List.set_cons_zero, List.set_cons_succ]
          refine wpJ_takeL (i := 35) (v := ?_) rfl (by kernel_rfl) (by kernel_rfl) (by kernel_rfl) (fun _ _ _ h => h) hF27 (Or.inl ⟨by rfl, ?_⟩) ?_
          rotate_left
          focus
            intro W' hj
            obtain ⟨y0, y1, y2, y3, y4, y5, y6, y7⟩ := (HX4.out.call (Jmp.low (j1.back hF0 b1 (j4.back hF2 b4 (j9.back hF5 b9 (j13.back hF10 b13 (j16.back hF14 b16 (j23.back hF17 b23 (j26.back hF24 b26 hj))))))))).cells
            clear hj
            go_simp
            try with_reducible rfl
          simp only [Act.put, List.setIfInBounds_toArray, List.set_cons_zero, List.set_cons_succ]
          refine wpJ_takeL (i := 37) (v := ?_) rfl (by kernel_rfl) (by kernel_rfl) (by kernel_rfl) (fun _ _ _ h => h) hF27 (Or.inl ⟨by rfl, ?_⟩) ?_
          rotate_left
          focus
            intro W' hj
            obtain ⟨y0, y1, y2, y3, y4, y5, y6, y7⟩ := (HX4.out.call (Jmp.low (j1.back hF0 b1 (j4.back hF2 b4 (j9.back hF5 b9 (j13.back hF10 b13 (j16.back hF14 b16 (j23.back hF17 b23 (j26.back hF24 b26 hj))))))))).cells
            clear hj
            go_simp
            try with_reducible rfl
          simp only [Act.put, List.setIfInBounds_toArray, List.set_cons_zero, List.set_cons_succ]
          refine wpJ_takeL (i := 38) (v := ?_) rfl (by kernel_rfl) (by kernel_rfl) (by kernel_rfl) (fun _ _ _ h => h) hF27 (Or.inl ⟨by rfl, ?_⟩) ?_
          rotate_left
          focus
            intro W' hj
            obtain ⟨y0, y1, y2, y3, y4, y5, y6, y7⟩ := (HX4.out.call (Jmp.low (j1.back hF0 b1 (j4.back hF2 b4 (j9.back hF5 b9 (j13.back hF10 b13 (j16.back hF14 b16 (j23.back hF17 b23 (j26.back hF24 b26 hj))))))))).cells
            clear hj
            go_simp
            try with_reducible rfl
          simp only [Act.put, List.setIfInBounds_toArray, List.set_cons_zero, List.set_cons_succ]
          refine wpJ_takeL (i := 40) (v := ?_) rfl (by kernel_rfl) (by kernel_rfl) (by kernel_rfl) (fun _ _ _ h => h) hF27 (Or.inl ⟨by rfl, ?_⟩) ?_
          rotate_left
          focus
            intro W' hj
            obtain ⟨y0, y1, y2, y3, y4, y5, y6, y7⟩ := (HX4.out.call (Jmp.low (j1.back hF0 b1 (j4.back hF2 b4 (j9.back hF5 b9 (j13.back hF10 b13 (j16.back hF14 b16 (j23.back hF17 b23 (j26.back hF24 b26 hj))))))))).cells
            clear hj
            go_simp
            try with_reducible rfl
          simp only [Act.put, List.setIfInBounds_toArray, List.set_cons_zero, List.set_cons_succ]
          refine wpJ_callL (i := 36) (by kernel_rfl) rfl fun v36 j36 K36 k36 => ?_
          have H36L := Lib.hid (Jmp.low (j1.back hF0 b1 (j4.back hF2 b4 (j9.back hF5 b9 (j13.back hF10 b13 (j16.back hF14 b16 (j23.back hF17 b23 (j26.back hF24 b26 j36)))))))).size
          go_wp2_with fail
          refine (ltwo_at 5 LD f1 f2 kf pf Kf nf ef kg pg Kg ng eg v36 (Lt X4.heap.size) HLD.out (fun b h => Nat.lt_of_lt_of_le h (Jmp.low (j1.back hF0 b1 (j4.back hF2 b4 (j9.back hF5 b9 (j13.back hF10 b13 (j16.back hF14 b16 (j23.back hF17 b23 (j26.back hF24 b26 j36)))))))).size) (HX4.out.h1.call (Bd.lt _) (Jmp.low (j1.back hF0 b1 (j4.back hF2 b4 (j9.back hF5 b9 (j13.back hF10 b13 (j16.back hF14 b16 (j23.back hF17 b23 (j26.back hF24 b26 j36))))))))) (HX4.out.h2.call (Bd.lt _) (Jmp.low (j1.back hF0 b1 (j4.back hF2 b4 (j9.back hF5 b9 (j13.back hF10 b13 (j16.back hF14 b16 (j23.back hF17 b23 (j26.back hF24 b26 j36)))))))))).mono ?_
          rintro e36' w36' ⟨A36, n36, m36, rfl, hi36, b36⟩
          have HI36 := Lib.hid hi36
          clear hi36
          go_wp2_with fail
          refine k36.out _ _ b36 ?_
          clear k36
          have hF37 := grow_F (j36.grow hF27) b36.size
          refine wpJ_callL (i := 39) (by kernel_rfl) rfl fun v39 j39 K39 k39 => ?_
          go_wp2_with fail
          refine (wholds_at x LD _ _ A36 n36 m36 A B c d _ m v39 true (by first | rfl | omega | (rw [Go.IntWalk.i64_in _ (by omega)]; omega)) (HSLD.out.trans rfl) hsm H0.out (by omega) (is_jump2 HI36.out (fun b h => Nat.lt_of_lt_of_le h (Nat.le_trans H36L.out b36.size)) j39 (fun b hb => hb.elim .inr (fun h => (.inl (.inl (.inl (.inl (.inl (.inl (.inl (.inl h))))))))))) (HX4.out.call (Jmp.low (j1.back hF0 b1 (j4.back hF2 b4 (j9.back hF5 b9 (j13.back hF10 b13 (j16.back hF14 b16 (j23.back hF17 b23 (j26.back hF24 b26 (j36.back hF27 b36 j39)))))))))).hw).mono ?_
          rintro e39' w39' ⟨rfl, b39⟩
          go_wp2_with fail
          refine k39.out _ _ b39 ?_
          clear k39
          have hF40 := grow_F (j39.grow hF37) b39.size
          refine wpJ_takeL (i := 41) (v := ?_) rfl (by kernel_rfl) (by kernel_rfl) (by kernel_rfl) (fun _ _ _ h => h) hF40 (Or.inl ⟨by rfl, ?_⟩) ?_
          rotate_left
          focus
            intro W' hj
            obtain ⟨y0, y1, y2, y3, y4, y5, y6, y7⟩ := (HX4.out.call (Jmp.low (j1.back hF0 b1 (j4.back hF2 b4 (j9.back hF5 b9 (j13.back hF10 b13 (j16.back hF14 b16 (j23.back hF17 b23 (j26.back hF24 b26 (j36.back hF27 b36 (j39.back hF37 b39 hj))))))))))).cells
            clear hj
            go_simp
            try with_reducible rfl
          simp only [Act.put, List.setIfInBounds_toArray, List.set_cons_zero, List.set_cons_succ]
          refine wpJ_takeL (i := 42) (v := undef) rfl (by kernel_rfl) (by kernel_rfl) (by kernel_rfl) (fun _ _ _ h => h) hF40 (Or.inr ⟨by rfl, rfl⟩) ?_
          simp only [Act.put, List.setIfInBounds_toArray, List.set_cons_zero, List.set_cons_succ]
          refine wpJ_takeL (i := 43) (v := ?_) rfl (by kernel_rfl) (by kernel_rfl) (by kernel_rfl) (fun _ _ _ h => h) hF40 (Or.inl ⟨by rfl, ?_⟩) ?_
          rotate_left
          focus
            intro W' hj
            obtain ⟨y0, y1, y2, y3, y4, y5, y6, y7⟩ := (HX4.out.call (Jmp.low (j1.back hF0 b1 (j4.back hF2 b4 (j9.back hF5 b9 (j13.back hF10 b13 (j16.back hF14 b16 (j23.back hF17 b23 (j26.back hF24 b26 (j36.back hF27 b36 (j39.back hF37 b39 hj))))))))))).cells
            clear hj
            go_simp
            try with_reducible rfl
          simp only [Act.put, List.setIfInBounds_toArray, List.set_cons_zero, List.set_cons_succ]
          refine wpJ_takeL (i := 44) (v := ?_) rfl (by kernel_rfl) (by kernel_rfl) (by kernel_rfl) (fun _ _ _ h => h) hF40 (Or.inl ⟨by rfl, ?_⟩) ?_
          rotate_left
          focus
            intro W' hj
            obtain ⟨y0, y1, y2, y3, y4, y5, y6, y7⟩ := (HX4.out.call (Jmp.low (j1.back hF0 b1 (j4.back hF2 b4 (j9.back hF5 b9 (j13.back hF10 b13 (j16.back hF14 b16 (j23.back hF17 b23 (j26.back hF24 b26 (j36.back hF27 b36 (j39.back hF37 b39 hj))))))))))).cells
            clear hj
            go_simp
            try with_reducible rfl
          simp only [Act.put, List.setIfInBounds_toArray, List.set_cons_zero, List.set_cons_succ]
          refine wpJ_takeL (i := 45) (v := ?_) rfl (by kernel_rfl) (by kernel_rfl) (by kernel_rfl) (fun _ _ _ h => h) hF40 (Or.inl ⟨by rfl, ?_⟩) ?_
          rotate_left
          focus
            intro W' hj
            obtain ⟨y0, y1, y2, y3, y4, y5, y6, y7⟩ := (HX4.out.call (Jmp.low (j1.back hF0 b1 (j4.back hF2 b4 (j9.back hF5 b9 (j13.back hF10 b13 (j16.back hF14 b16 (j23.back hF17 b23 (j26.back hF24 b26 (j36.back hF27 b36 (j39.back hF37 b39 hj))))))))))).cells
            clear hj
            go_simp
            try with_reducible rfl
          simp only [Act.put, List.setIfInBounds_toArray, List.set_cons_zero, List.set_cons_succ]
          refine wpJ_takeL (i := 46) (v := ?_) rfl (by kernel_rfl) (by kernel_rfl) (by kernel_rfl) (fun _ _ _ h => h) hF40 (Or.inl ⟨by rfl, ?_⟩) ?_
          rotate_left
          focus
            intro W' hj
            obtain ⟨y0, y1, y2, y3, y4, y5, y6, y7⟩ := (HX4.out.call (Jmp.low (j1.back hF0 b1 (j4.back hF2 b4 (j9.back hF5 b9 (j13.back hF10 b13 (j16.back hF14 b16 (j23.back hF17 b23 (j26.back hF24 b26 (j36.back hF27 b36 (j39.back hF37 b39 hj))))))))))).cells
            clear hj
            go_simp
            try with_reducible rfl
          simp only [Act.put, List.setIfInBounds_toArray, List.set_cons_zero, List.set_cons_succ]
          refine wpJ_takeL (i := 47) (v := ?_) rfl (by kernel_rfl) (by kernel_rfl) (by kernel_rfl) (fun _ _ _ h => h) hF40 (Or.inl ⟨by rfl, ?_⟩) ?_
          rotate_left
          focus
            intro W' hj
            obtain ⟨y0, y1, y2, y3, y4, y5, y6, y7⟩ := (HX4.out.call (Jmp.low (j1.back hF0 b1 (j4.back hF2 b4 (j9.back hF5 b9 (j13.back hF10 b13 (j16.back hF14 b16 (j23.back hF17 b23 (j26.back hF24 b26 (j36.back hF27 b36 (j39.back hF37 b39 hj))))))))))).cells
            clear hj
            go_simp
            try with_reducible rfl
          simp only [Act.put, List.setIfInBounds_toArray, List.set_cons_zero, List.set_cons_succ]
          refine wpJ_takeL (i := 48) (v := ?_) rfl (by kernel_rfl) (by kernel_rfl) (by kernel_rfl) (fun _ _ _ h => h) hF40 (Or.inl ⟨by rfl, ?_⟩) ?_
          rotate_left
          focus
            intro W' hj
            obtain ⟨y0, y1, y2, y3, y4, y5, y6, y7⟩ := (HX4.out.call (Jmp.low (j1.back hF0 b1 (j4.back hF2 b4 (j9.back hF5 b9 (j13.back hF10 b13 (j16.back hF14 b16 (j23.back hF17 b23 (j26.back hF24 b26 (j36.back hF27 b36 (j39.back hF37 b39 hj))))))))))).cells
            clear hj
            go_simp
            try with_reducible rfl
          simp only [Act.put, List.setIfInBounds_toArray, List.set_cons_zero, List.set_cons_succ]
          refine wpJ_takeL (i := 50) (v := ?_) rfl (by kernel_rfl) (by kernel_rfl) (by kernel_rfl) (fun _ _ _ h => h) hF40 (Or.inl ⟨by rfl, ?_⟩) ?_
          rotate_left
          focus
            intro W' hj
            obtain ⟨y0, y1, y2, y3, y4, y5, y6, y7⟩ := (HX4.out.call (Jmp.low (j1.back hF0 b1 (j4.back hF2 b4 (j9.back hF5 b9 (j13.back hF10 b13 (j16.back hF14 b16 (j23.back hF17 b23 (j26.back hF24 b26 (j36.back hF27 b36 (j39.back hF37 b39 hj))))))))))).cells
            clear hj
            go_simp
            try with_reducible rfl
          simp only [Act.put, List.setIfInBounds_toArray, List.set_cons_zero, List.set_cons_succ]
          refine wpJ_takeL (i := 51) (v := ?_) rfl (by kernel_rfl) (by kernel_rfl) (by kernel_rfl) (fun _ _ _ h => h) hF40 (Or.inl ⟨by rfl, ?_⟩) ?_
          rotate_left
          focus
            intro W' hj
            obtain ⟨y0, y1, y2, y3, y4, y5, y6, y7⟩ := (HX4.out.call (Jmp.low (j1.back hF0 b1 (j4.back hF2 b4 (j9.back hF5 b9 (j13.back hF10 b13 (j16.back hF14 b16 (j23.back hF17 b23 (j26.back hF24 b26 (j36.back hF27 b36 (j39.back hF37 b39 hj))))))))))).cells
            clear hj
            go_simp
            try with_reducible rfl
          simp only [Act.put, List.setIfInBounds_toArray, List.set_cons_zero, List.set_cons_succ]
          refine wpJ_takeL (i := 53) (v := ?_) rfl (by kernel_rfl) (by kernel_rfl) (by kernel_rfl) (fun _ _ _ h => h) hF40 (Or.inl ⟨by rfl, ?_⟩) ?_
          rotate_left
          focus
            intro W' hj
            obtain ⟨y0, y1, y2, y3, y4, y5, y6, y7⟩ := (HX4.out.call (Jmp.low (j1.back hF0 b1 (j4.back hF2 b4 (j9.back hF5 b9 (j13.back hF10 b13 (j16.back hF14 b16 (j23.back hF17 b23 (j26.back hF24 b26 (j36.back hF27 b36 (j39.back hF37 b39 hj))))))))))).cells
            clear hj
            go_simp
            try with_reducible rfl
          simp only [Act.put, List.setIfInBounds_toArray, List.set_cons_zero, List.set_cons_succ]
          refine wpJ_takeL (i := 54) (v := ?_) rfl (by kernel_rfl) (by kernel_rfl) (by kernel_rfl) (fun _ _ _ h => h) hF40 (Or.inl ⟨by rfl, ?_⟩) ?_
          rotate_left
          focus
            intro W' hj
            obtain ⟨y0, y1, y2, y3, y4, y5, y6, y7⟩ := (HX4.out.call (Jmp.low (j1.back hF0 b1 (j4.back hF2 b4 (j9.back hF5 b9 (j13.back hF10 b13 (j16.back hF14 b16 (j23.back hF17 b23 (j26.back hF24 b26 (j36.back hF27 b36 (j39.back hF37 b39 hj))))))))))).cells
            clear hj
            go_simp
            try with_reducible rfl
          simp only [Act.put, List.setIfInBounds_toArray, List.set_cons_zero, List.set_cons_succ]
          refine wpJ_callL (i := 49) (by kernel_rfl) rfl fun v49 j49 K49 k49 => ?_
          have H49L := Lib.hid (Jmp.low (j1.back hF0 b1 (j4.back hF2 b4 (j9.back hF5 b9 (j13.back hF10 b13 (j16.back hF14 b16 (j23.back hF17 b23 (j26.back hF24 b26 (j36.back hF27 b36 (j39.back hF37 b39 j49)))))))))).size
          go_wp2_with fail
          refine (ltwo_at 7 LI f1 f2 kf pf Kf nf ef kg pg Kg ng eg v49 (Lt X4.heap.size) HLI.out (fun b h => Nat.lt_of_lt_of_le h (Jmp.low (j1.back hF0 b1 (j4.back hF2 b4 (j9.back hF5 b9 (j13.back hF10 b13 (j16.back hF14 b16 (j23.back hF17 b23 (j26.back hF24 b26 (j36.back hF27 b36 (j39.back hF37 b39 j49)))))))))).size) (HX4.out.h1.call (Bd.lt _) (Jmp.low (j1.back hF0 b1 (j4.back hF2 b4 (j9.back hF5 b9 (j13.back hF10 b13 (j16.back hF14 b16 (j23.back hF17 b23 (j26.back hF24 b26 (j36.back hF27 b36 (j39.back hF37 b39 j49))))))))))) (HX4.out.h2.call (Bd.lt _) (Jmp.low (j1.back hF0 b1 (j4.back hF2 b4 (j9.back hF5 b9 (j13.back hF10 b13 (j16.back hF14 b16 (j23.back hF17 b23 (j26.back hF24 b26 (j36.back hF27 b36 (j39.back hF37 b39 j49)))))))))))).mono ?_
          rintro e49' w49' ⟨A49, n49, m49, rfl, hi49, b49⟩
          have HI49 := Lib.hid hi49
          clear hi49
          go_wp2_with fail
          refine k49.out _ _ b49 ?_
          clear k49
          have hF50 := grow_F (j49.grow hF40) b49.size
          refine wpJ_callL (i := 52) (by kernel_rfl) rfl fun v52 j52 K52 k52 => ?_
          go_wp2_with fail
          refine (wholds_at x LI _ _ A49 n49 m49 A B c d _ m v52 true (by first | rfl | omega | (rw [Go.IntWalk.i64_in _ (by omega)]; omega)) (HSLI.out.trans rfl) hsm H0.out (by omega) (is_jump2 HI49.out (fun b h => Nat.lt_of_lt_of_le h (Nat.le_trans H49L.out b49.size)) j52 (fun b hb => hb.elim .inr (fun h => (.inl (.inl (.inl (.inl (.inl (.inl (.inl (.inl (.inl (.inl h))))))))))))) (HX4.out.call (Jmp.low (j1.back hF0 b1 (j4.back hF2 b4 (j9.back hF5 b9 (j13.back hF10 b13 (j16.back hF14 b16 (j23.back hF17 b23 (j26.back hF24 b26 (j36.back hF27 b36 (j39.back hF37 b39 (j49.back hF40 b49 j52)))))))))))).hw).mono ?_
          rintro e52' w52' ⟨rfl, b52⟩
          go_wp2_with fail
          refine k52.out _ _ b52 ?_
          clear k52
          have hF53 := grow_F (j52.grow hF50) b52.size
          refine wpJ_takeL (i := 55) (v := ?_) rfl (by kernel_rfl) (by kernel_rfl) (by kernel_rfl) (fun _ _ _ h => h) hF53 (Or.inl ⟨by rfl, ?_⟩) ?_
          rotate_left
          focus
            intro W' hj
            obtain ⟨y0, y1, y2, y3, y4, y5, y6, y7⟩ := (HX4.out.call (Jmp.low (j1.back hF0 b1 (j4.back hF2 b4 (j9.back hF5 b9 (j13.back hF10 b13 (j16.back hF14 b16 (j23.back hF17 b23 (j26.back hF24 b26 (j36.back hF27 b36 (j39.back hF37 b39 (j49.back hF40 b49 (j52.back hF50 b52 hj))))))))))))).cells
            clear hj
            go_simp
            try with_reducible rfl
          simp only [Act.put, List.setIfInBounds_toArray, List.set_cons_zero, List.set_cons_succ]
          refine wpJ_takeL (i := 56) (v := ?_) rfl (by kernel_rfl) (by kernel_rfl) (by kernel_rfl) (fun _ _ _ h => h) hF53 (Or.inl ⟨by rfl, ?_⟩) ?_
          rotate_left
          focus
            intro W' hj
            obtain ⟨y0, y1, y2, y3, y4, y5, y6, y7⟩ := (HX4.out.call (Jmp.low (j1.back hF0 b1 (j4.back hF2 b4 (j9.back hF5 b9 (j13.back hF10 b13 (j16.back hF14 b16 (j23.back hF17 b23 (j26.back hF24 b26 (j36.back hF27 b36 (j39.back hF37 b39 (j49.back hF40 b49 (j52.back hF50 b52 hj))))))))))))).cells
            clear hj
            go_simp
            try with_reducible rfl
          simp only [Act.put, List.setIfInBounds_toArray, List.set_cons_zero, List.set_cons_succ]
          refine wpJ_takeL (i := 57) (v := ?_) rfl (by kernel_rfl) (by kernel_rfl) (by kernel_rfl) (fun _ _ _ h => h) hF53 (Or.inl ⟨by rfl, ?_⟩) ?_
          rotate_left
          focus
            intro W' hj
            obtain ⟨y0, y1, y2, y3, y4, y5, y6, y7⟩ := (HX4.out.call (Jmp.low (j1.back hF0 b1 (j4.back hF2 b4 (j9.back hF5 b9 (j13.back hF10 b13 (j16.back hF14 b16 (j23.back hF17 b23 (j26.back hF24 b26 (j36.back hF27 b36 (j39.back hF37 b39 (j49.back hF40 b49 (j52.back hF50 b52 hj))))))))))))).cells
            clear hj
            go_simp
            try with_reducible rfl
          simp only [Act.put, List.setIfInBounds_toArray, List.set_cons_zero, List.set_cons_succ]
          refine wpJ_takeL (i := 58) (v := ?_) rfl (by kernel_rfl) (by kernel_rfl) (by kernel_rfl) (fun _ _ _ h => h) hF53 (Or.inl ⟨by rfl, ?_⟩) ?_
          rotate_left
          focus
            intro W' hj
            obtain ⟨y0, y1, y2, y3, y4, y5, y6, y7⟩ := (HX4.out.call (Jmp.low (j1.back hF0 b1 (j4.back hF2 b4 (j9.back hF5 b9 (j13.back hF10 b13 (j16.back hF14 b16 (j23.back hF17 b23 (j26.back hF24 b26 (j36.back hF27 b36 (j39.back hF37 b39 (j49.back hF40 b49 (j52.back hF50 b52 hj))))))))))))).cells
            clear hj
            go_simp
            try with_reducible rfl
          simp only [Act.put, List.setIfInBounds_toArray, List.set_cons_zero, List.set_cons_succ]
          refine wpJ_takeL (i := 59) (v := ?_) rfl (by kernel_rfl) (by kernel_rfl) (by kernel_rfl) (fun _ _ _ h => h) hF53 (Or.inl ⟨by rfl, ?_⟩) ?_
          rotate_left
          focus
            intro W' hj
            obtain ⟨y0, y1, y2, y3, y4, y5, y6, y7⟩ := (HX4.out.call (Jmp.low (j1.back hF0 b1 (j4.back hF2 b4 (j9.back hF5 b9 (j13.back hF10 b13 (j16.back hF14 b16 (j23.back hF17 b23 (j26.back hF24 b26 (j36.back hF27 b36 (j39.back hF37 b39 (j49.back hF40 b49 (j52.back hF50 b52 hj))))))))))))).cells
            clear hj
            go_simp
            try with_reducible rfl
          simp only [Act.put, List.setIfInBounds_toArray, List.set_cons_zero, List.set_cons_succ]
          refine wpJ_end (by kernel_rfl) (fun wz jz => ?_) _
          have hz := (HX4.out.call (Jmp.low (j1.back hF0 b1 (j4.back hF2 b4 (j9.back hF5 b9 (j13.back hF10 b13 (j16.back hF14 b16 (j23.back hF17 b23 (j26.back hF24 b26 (j36.back hF27 b36 (j39.back hF37 b39 (j49.back hF40 b49 (j52.back hF50 b52 jz))))))))))))).below
          refine ⟨by kernel_rfl, ?_⟩
          go_wp2
          go_ret
          exact ⟨rfl, hz⟩
end Go.Proofs.Ytedbjkjncfinnaa
