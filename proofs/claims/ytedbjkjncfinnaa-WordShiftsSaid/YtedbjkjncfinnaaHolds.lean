/-
  Layer 15: Holds.
-/
import Derived.Test.YtedbjkjncfinnaaTruth
namespace Go.Proofs.Ytedbjkjncfinnaa
open Go.RowKit

set_option maxRecDepth 100000 in
theorem wholds_none (k p : Int) (K : Option Addr) (n e : Nat) (A B : Option Addr) (a c d : Nat) (i : Int) (w : World) :
    Calls Try.prog 11 #[.agg #[.int .i64 k, .int .i64 p, .slice K n e], .agg #[.slice A a c, .slice B 0 d], .int .i64 i] w fun e w' => e = .returned (.bool false) ∧ Below w.heap.size w w' := by
  go_enter Try.func11, Try.ntmps11
  go_wp2_with fail
  go_quiet (fail)
  go_wp2
  go_ret
  exact ⟨rfl, below_drewN (below_alloc (below_one _ _))⟩

set_option maxRecDepth 100000 in
set_option maxHeartbeats 1000000 in
theorem wholds_any (x : Wd) (f : Ltl) (k p : Int) (K : Option Addr) (n e : Nat) (A B : Option Addr) (c d : Nat) (i : Int) (w : World) (S : Nat → Prop) (hx : x.size ≤ 1000000000) (h0 : 0 < x.cycle.length) (hi : i ≤ 9223372036854775807) (hS : Bd S w)
    (hf : Ltl.Is w S f [.int .i64 k, .int .i64 p, .slice K n e]) (hw : WdIs w S x (.slice A x.stem.length c) (.slice B x.cycle.length d)) :
    Calls Try.prog 11 #[.agg #[.int .i64 k, .int .i64 p, .slice K n e], .agg #[.slice A x.stem.length c, .slice B x.cycle.length d], .int .i64 i] w fun e w' => e = .returned (.bool (f.norm.sat x i.toNat)) ∧ Below w.heap.size w w' := by
  have hb0 := below_alloc (o := .cells #[.slice A x.stem.length c, .slice B x.cycle.length d] 27) (below_one w (.cells #[.int .i64 k, .int .i64 p, .slice K n e] 24))
  have htr : ∀ W', Below w.heap.size w W' → Calls Try.prog 33 #[.agg #[.slice A x.stem.length c, .slice B x.cycle.length d], .agg #[.int .i64 k, .int .i64 p, .slice K n e]] W' (RetRow W' x.size (f.norm.sat x)) := fun W' h =>
    truth_any x A B c d hx h0 _ f.norm (Nat.le_refl _) f k p K n e S W' (hS.call h.size) rfl (hf.call hS h) (hw.call hS h)
  have HTR := Lib.hid htr
  have HB0 := Lib.hid hb0
  have e0 : (0 : Int) ≤ (x.place i.toNat : Int) := by omega
  have e1 : (x.place i.toNat : Int) < (x.size : Int) := by have := x.place_lt i.toNat h0; omega
  have HR := Lib.hid (f.norm.sat_round x i.toNat)
  have h0' : (0 : Int) < (x.cycle.length : Int) := by omega
  have hg : decide ((0 : Int) < (x.cycle.length : Int)) = true := by simpa using h0
  clear hf hw htr hb0
  go_enter Try.func11, Try.ntmps11
  go_wp2_with fail
  have b1 := (Blk.new w 24 #[.int .i64 k, .int .i64 p, .slice K n e]).alloc (.cells #[.slice A x.stem.length c, .slice B x.cycle.length d] 27)
  have b2 := Blk.new (w.alloc (.cells #[.int .i64 k, .int .i64 p, .slice K n e] 24)) 27 #[.slice A x.stem.length c, .slice B x.cycle.length d]
  rw [World.size_alloc] at b2
  generalize ((w.alloc (.cells #[.int .i64 k, .int .i64 p, .slice K n e] 24)).alloc (.cells #[.slice A x.stem.length c, .slice B x.cycle.length d] 27)) = W0 at *
  have hbl : ∀ W', Below W0.heap.size W0 W' → W'.cell? ⟨w.heap.size, 0, none⟩ = some (.int .i64 k) ∧ W'.cell? ⟨w.heap.size, 1, none⟩ = some (.int .i64 p) ∧ W'.cell? ⟨w.heap.size, 2, none⟩ = some (.slice K n e) ∧ W'.cell? ⟨w.heap.size + 1, 0, none⟩ = some (.slice A x.stem.length c) ∧ W'.cell? ⟨w.heap.size + 1, 1, none⟩ = some (.slice B x.cycle.length d) := fun W' h => by
    rw [(b1.call h).cell, (b1.call h).cell, (b1.call h).cell, (b2.call h).cell, (b2.call h).cell]
    exact ⟨rfl, rfl, rfl, rfl, rfl⟩
  have HBL := Lib.hid hbl
  clear hbl b1 b2
  refine wp_region_jump (L := #[false, false, false, false, false, false, false, false, false, false, false, false, false, false, true]) 14 (by kernel_rfl) (by kernel_rfl) (by kernel_rfl) ?_
  have hF0 : ∀ k, Lt W0.drew.heap.size k → k < W0.drew.heap.size := fun _ h => h
  refine wpJ_takeL (i := 0) (v := ?_) rfl (by kernel_rfl) (by kernel_rfl) (by kernel_rfl) (fun _ _ _ h => h) hF0 (Or.inl ⟨by rfl, ?_⟩) ?_
  rotate_left
  focus
    intro W' hj
    obtain ⟨c0, c1, c2, c3, c4⟩ := HBL.out W' (Jmp.low hj)
    clear hj
    go_simp
    try with_reducible rfl
  simp only [Act.put, List.setIfInBounds_toArray, List.set_cons_zero, List.set_cons_succ]
  refine wpJ_takeL (i := 1) (v := ?_) rfl (by kernel_rfl) (by kernel_rfl) (by kernel_rfl) (fun _ _ _ h => h) hF0 (Or.inl ⟨by rfl, ?_⟩) ?_
  rotate_left
  focus
    intro W' hj
    obtain ⟨c0, c1, c2, c3, c4⟩ := HBL.out W' (Jmp.low hj)
    clear hj
    go_simp
    try with_reducible rfl
  simp only [Act.put, List.setIfInBounds_toArray, List.set_cons_zero, List.set_cons_succ]
  refine wpJ_takeL (i := 2) (v := ?_) rfl (by kernel_rfl) (by kernel_rfl) (by kernel_rfl) (fun _ _ _ h => h) hF0 (Or.inl ⟨by rfl, ?_⟩) ?_
  rotate_left
  focus
    intro W' hj
    obtain ⟨c0, c1, c2, c3, c4⟩ := HBL.out W' (Jmp.low hj)
    clear hj
    go_simp
    try with_reducible rfl
  simp only [Act.put, List.setIfInBounds_toArray, List.set_cons_zero, List.set_cons_succ]
  refine wpJ_takeL (i := 3) (v := ?_) rfl (by kernel_rfl) (by kernel_rfl) (by kernel_rfl) (fun _ _ _ h => h) hF0 (Or.inl ⟨by rfl, ?_⟩) ?_
  rotate_left
  focus
    intro W' hj
    obtain ⟨c0, c1, c2, c3, c4⟩ := HBL.out W' (Jmp.low hj)
    clear hj
    go_simp
    try with_reducible rfl
  simp only [Act.put, List.setIfInBounds_toArray, List.set_cons_zero, List.set_cons_succ]
  refine wpJ_takeL (i := 4) (v := ?_) rfl (by kernel_rfl) (by kernel_rfl) (by kernel_rfl) (fun _ _ _ h => h) hF0 (Or.inl ⟨by rfl, ?_⟩) ?_
  rotate_left
  focus
    intro W' hj
    obtain ⟨c0, c1, c2, c3, c4⟩ := HBL.out W' (Jmp.low hj)
    clear hj
    go_simp
    try with_reducible rfl
  simp only [Act.put, List.setIfInBounds_toArray, List.set_cons_zero, List.set_cons_succ]
  refine wpJ_takeL (i := 5) (v := ?_) rfl (by kernel_rfl) (by kernel_rfl) (by kernel_rfl) (fun _ _ _ h => h) hF0 (Or.inl ⟨by rfl, ?_⟩) ?_
  rotate_left
  focus
    intro W' hj
    obtain ⟨c0, c1, c2, c3, c4⟩ := HBL.out W' (Jmp.low hj)
    clear hj
    go_simp
    try with_reducible rfl
  simp only [Act.put, List.setIfInBounds_toArray, List.set_cons_zero, List.set_cons_succ]
  refine wpJ_takeL (i := 6) (v := ?_) rfl (by kernel_rfl) (by kernel_rfl) (by kernel_rfl) (fun _ _ _ h => h) hF0 (Or.inl ⟨by rfl, ?_⟩) ?_
  rotate_left
  focus
    intro W' hj
    obtain ⟨c0, c1, c2, c3, c4⟩ := HBL.out W' (Jmp.low hj)
    clear hj
    go_simp
    try with_reducible rfl
  simp only [Act.put, List.setIfInBounds_toArray, List.set_cons_zero, List.set_cons_succ]
  refine wpJ_takeL (i := 8) (v := ?_) rfl (by kernel_rfl) (by kernel_rfl) (by kernel_rfl) (fun _ _ _ h => h) hF0 (Or.inl ⟨by rfl, ?_⟩) ?_
  rotate_left
  focus
    intro W' hj
    obtain ⟨c0, c1, c2, c3, c4⟩ := HBL.out W' (Jmp.low hj)
    clear hj
    go_simp
    try with_reducible rfl
  simp only [Act.put, List.setIfInBounds_toArray, List.set_cons_zero, List.set_cons_succ]
  refine wpJ_takeL (i := 9) (v := ?_) rfl (by kernel_rfl) (by kernel_rfl) (by kernel_rfl) (fun _ _ _ h => h) hF0 (Or.inl ⟨by rfl, ?_⟩) ?_
  rotate_left
  focus
    intro W' hj
    obtain ⟨c0, c1, c2, c3, c4⟩ := HBL.out W' (Jmp.low hj)
    clear hj
    go_simp
    try with_reducible rfl
  simp only [Act.put, List.setIfInBounds_toArray, List.set_cons_zero, List.set_cons_succ]
  refine wpJ_callL (i := 7) (by kernel_rfl) rfl fun v7 j7 K7 k7 => ?_
  go_wp2_with fail
  refine (HTR.out _ (below_call HB0.out j7.low)).mono ?_
  rintro e' w1 ⟨b2, o2, cap2, rfl, hrow, b7, hlo⟩
  have HROW := Lib.hid hrow
  clear hrow
  go_wp2_with fail
  refine k7.out _ _ b7 ?_
  clear k7
  have hF8 := grow_F (j7.grow hF0) b7.size
  refine wpJ_callL (i := 10) (by kernel_rfl) rfl fun v10 j10 K10 k10 => ?_
  go_wp2_with fail
  refine (wplace_any x A B c d i _ hx h0 hi).mono ?_
  rintro e' w2 ⟨rfl, b10⟩
  have HL := Lib.hid (show ∀ W', Jmp _ w2 W' → W'.cell? ⟨b2, o2 + x.place i.toNat, none⟩ = some (.bool (f.norm.sat x (x.place i.toNat))) from fun W' hj => (Jmp.cell (j10.back hF8 b10 hj) _ (.inr ⟨hlo, HROW.out.1⟩)).trans (HROW.out.2 _ (by omega)))
  go_wp2_with fail
  refine k10.out _ _ b10 ?_
  clear k10
  have hF11 := grow_F (j10.grow hF8) b10.size
  refine wpJ_takeL (i := 11) (v := ?_) rfl (by kernel_rfl) (by kernel_rfl) (by kernel_rfl) (fun _ _ _ h => h) hF11 (Or.inl ⟨by rfl, ?_⟩) ?_
  rotate_left
  focus
    intro W' hj
    obtain ⟨c0, c1, c2, c3, c4⟩ := HBL.out W' (Jmp.low (j7.back hF0 b7 (j10.back hF8 b10 hj)))
    obtain e3 := HL.out W' hj
    clear hj
    go_simp
    try with_reducible rfl
  simp only [Act.put, List.setIfInBounds_toArray, List.set_cons_zero, List.set_cons_succ]
  refine wpJ_takeL (i := 12) (v := ?_) rfl (by kernel_rfl) (by kernel_rfl) (by kernel_rfl) (fun _ _ _ h => h) hF11 (Or.inl ⟨by rfl, ?_⟩) ?_
  rotate_left
  focus
    intro W' hj
    obtain ⟨c0, c1, c2, c3, c4⟩ := HBL.out W' (Jmp.low (j7.back hF0 b7 (j10.back hF8 b10 hj)))
    obtain e3 := HL.out W' hj
    clear hj
    go_simp
    try with_reducible rfl
  simp only [Act.put, List.setIfInBounds_toArray, List.set_cons_zero, List.set_cons_succ]
  refine wpJ_takeL (i := 13) (v := ?_) rfl (by kernel_rfl) (by kernel_rfl) (by kernel_rfl) (fun _ _ _ h => h) hF11 (Or.inl ⟨by rfl, ?_⟩) ?_
  rotate_left
  focus
    intro W' hj
    obtain ⟨c0, c1, c2, c3, c4⟩ := HBL.out W' (Jmp.low (j7.back hF0 b7 (j10.back hF8 b10 hj)))
    obtain e3 := HL.out W' hj
    clear hj
    go_simp
    try with_reducible rfl
  simp only [Act.put, List.setIfInBounds_toArray, List.set_cons_zero, List.set_cons_succ]
  refine wpJ_end (by kernel_rfl) (fun wz jz => ?_) _
  have hlz := (j7.back hF0 b7 (j10.back hF8 b10 jz)).low
  refine ⟨by kernel_rfl, ?_⟩
  go_wp2
  go_ret
  exact ⟨by rw [HR.out]; rfl, below_call HB0.out hlz⟩
end Go.Proofs.Ytedbjkjncfinnaa
